/- PackTurns: as far as one word is behind another one, so far is that one behind it from the other side: for every input. -/
import Derived.Test.YtkamhidjofngdaaPx4
import Derived.Laws.Bits64
set_option linter.unusedVariables false
set_option linter.unusedSimpArgs false
namespace Go.Proofs.Ytkamhidjofngdaa.Pure
open Go.RowKit Go.Proofs.Ytkamhidjofngdaa.P Go.Proofs.YtkamhidjofngdaaW.PrintWords Go.Proofs.YtkamhidjofngdaaW.PrintLast
/-- 'Option.bind_some', but no law by definition: so Lean's kernel need not compare what the two sides unfold to. -/
theorem bs {α β : Type} (x : α) (f : α → Option β) : (some x).bind f = f x := by rw [Option.bind_some]
theorem beq_no {a b : Int} (h : ¬ a = b) : (a == b) = false := beq_eq_false_iff_ne.2 h
theorem wf_i64 {x : Int} (h : (Lit.int .i64 x).wf = true) : -9223372036854775808 ≤ x ∧ x ≤ 9223372036854775807 := by
  simp [Lit.wf, IntKind.min, IntKind.max, IntKind.signed, IntKind.bits] at h; omega
theorem wf_u64 {x : Int} (h : (Lit.int .u64 x).wf = true) : 0 ≤ x ∧ x < 18446744073709551616 := by
  simp [Lit.wf, IntKind.min, IntKind.max, IntKind.signed, IntKind.bits] at h; omega
theorem wf_u32 {x : Int} (h : (Lit.int .u32 x).wf = true) : 0 ≤ x ∧ x < 4294967296 := by
  simp [Lit.wf, IntKind.min, IntKind.max, IntKind.signed, IntKind.bits] at h; omega
theorem or_comm' (k : IntKind) (a b : Int) : Go.bits .or k a b = Go.bits .or k b a := by
  simp only [Go.bits]
  rw [BitVec.or_comm]
theorem wraps_u64 (n : Int) (h0 : 0 ≤ n) (h1 : n < 2 ^ 64) : IntKind.u64.wrap n = n := by
  rw [IntKind.wrap_u64]; omega
/-- The bits of two numbers that share none are their sum. -/
theorem or_low (i : Nat) (x y : Int) (hx0 : 0 ≤ x) (hx : x % 2 ^ i = 0) (hx1 : x < 2 ^ 64) (hy0 : 0 ≤ y) (hy : y < 2 ^ i) (hy1 : y < 2 ^ 64) : Go.bits .or .u64 y x = y + x := by
  rw [or_comm', bits_join .u64 64 (by decide) wraps_u64 i x y hx0 hx hx1 hy0 hy hy1]; omega
theorem pack_word (i t : Int) (hi0 : 0 ≤ i) (hi1 : i < 4294967296) (ht0 : 0 ≤ t) (ht1 : t < 4294967296) : pack_Word.f i t = some (i + 4294967296 * t) := by
  unfold pack_Word.f
  simp only [IntKind.wrap_u64]
  have e1 : i % 18446744073709551616 = i := by omega
  have e2 : t % 18446744073709551616 * 4294967296 % 18446744073709551616 = 4294967296 * t := by omega
  rw [e1, e2, or_low 32 (4294967296 * t) i (by omega) (by omega) (by omega) (by omega) (by omega) (by omega)]
theorem pack_next (w i : Int) (hi0 : 0 ≤ i) (hi1 : i < 4294967296) : pack_Next.f w i = some (i + 4294967296 * ((w / 4294967296 % 4294967296 + 1) % 4294967296)) := by
  unfold pack_Next.f pack_Tag.f
  simp only [bs, pack_word i ((w / 4294967296 % 4294967296 + 1) % 4294967296) hi0 hi1 (by omega) (by omega)]
theorem pack_shown : hatstandlaw1_shown.f = some true := by
  unfold hatstandlaw1_shown.f
  simp only [pack_word 5 1 (by omega) (by omega) (by omega) (by omega), pack_word 5 4294967295 (by omega) (by omega) (by omega) (by omega), pack_word 7 0 (by omega) (by omega) (by omega) (by omega), bs, pack_next _ 7 (by omega) (by omega), pack_Index.f, pack_Tag.f]
  decide
theorem pack_ahead (a b : Int) : pack_Ahead.f a b = some ((b / 4294967296 % 4294967296 - a / 4294967296 % 4294967296) % 4294967296) := by
  unfold pack_Ahead.f pack_Tag.f
  simp only [bs]
theorem PackTurns : hatstandlaw1_PackTurns.Pure := by
  intro a0 a1 a2 w0 w1 w2
  have b0 := wf_u64 w0
  have b1 := wf_u64 w1
  have b2 := wf_u32 w2
  unfold hatstandlaw1_PackTurns.f
  simp only [pack_shown, bs, if_true, pack_Tag.f, pack_word a2 (a0 / 4294967296 % 4294967296) (by omega) (by omega) (by omega) (by omega), pack_ahead]
  rw [if_pos (by omega), if_pos (by omega), if_pos (by omega)]
  by_cases h : (a1 / 4294967296 % 4294967296 - a0 / 4294967296 % 4294967296) % 4294967296 = 0
  · have h2 : a0 / 4294967296 % 4294967296 = a1 / 4294967296 % 4294967296 := by omega
    simp [h, h2]
  · have h2 : ¬ a0 / 4294967296 % 4294967296 = a1 / 4294967296 % 4294967296 := by omega
    rw [beq_no h, beq_no h2]
    rfl
end Go.Proofs.Ytkamhidjofngdaa.Pure
