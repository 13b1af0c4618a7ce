/- PackCount: of a word that goes on so many times the tag is that much behind: for every word and every list of indexes. -/
import Derived.Test.YtkamhidjofngdaaPx5
import Derived.Laws.Bits64
set_option linter.unusedVariables false
set_option linter.unusedSimpArgs false
namespace Go.Proofs.Ytkamhidjofngdaa.Pure
open Go.RowKit Go.Proofs.Ytkamhidjofngdaa.P Go.Proofs.YtkamhidjofngdaaW.PrintWords Go.Proofs.YtkamhidjofngdaaW.PrintLast
/-- 'Option.bind_some', but no law by definition: so Lean's kernel need not compare what the two sides unfold to. -/
theorem bs {α β : Type} (x : α) (f : α → Option β) : (some x).bind f = f x := by rw [Option.bind_some]
theorem beq_no {a b : Int} (h : ¬ a = b) : (a == b) = false := beq_eq_false_iff_ne.2 h
theorem wf_i64 {x : Int} (h : (Lit.int .i64 x).wf = true) : -9223372036854775808 ≤ x ∧ x ≤ 9223372036854775807 := by
  simp [Lit.wf, IntKind.min, IntKind.max, IntKind.signed, IntKind.bits] at h; omega
theorem wf_u64 {x : Int} (h : (Lit.int .u64 x).wf = true) : 0 ≤ x ∧ x < 18446744073709551616 := by
  simp [Lit.wf, IntKind.min, IntKind.max, IntKind.signed, IntKind.bits] at h; omega
theorem wf_u32 {x : Int} (h : (Lit.int .u32 x).wf = true) : 0 ≤ x ∧ x < 4294967296 := by
  simp [Lit.wf, IntKind.min, IntKind.max, IntKind.signed, IntKind.bits] at h; omega
theorem or_comm' (k : IntKind) (a b : Int) : Go.bits .or k a b = Go.bits .or k b a := by
  simp only [Go.bits]
  rw [BitVec.or_comm]
theorem wraps_u64 (n : Int) (h0 : 0 ≤ n) (h1 : n < 2 ^ 64) : IntKind.u64.wrap n = n := by
  rw [IntKind.wrap_u64]; omega
/-- The bits of two numbers that share none are their sum. -/
theorem or_low (i : Nat) (x y : Int) (hx0 : 0 ≤ x) (hx : x % 2 ^ i = 0) (hx1 : x < 2 ^ 64) (hy0 : 0 ≤ y) (hy : y < 2 ^ i) (hy1 : y < 2 ^ 64) : Go.bits .or .u64 y x = y + x := by
  rw [or_comm', bits_join .u64 64 (by decide) wraps_u64 i x y hx0 hx hx1 hy0 hy hy1]; omega
theorem pack_word (i t : Int) (hi0 : 0 ≤ i) (hi1 : i < 4294967296) (ht0 : 0 ≤ t) (ht1 : t < 4294967296) : pack_Word.f i t = some (i + 4294967296 * t) := by
  unfold pack_Word.f
  simp only [IntKind.wrap_u64]
  have e1 : i % 18446744073709551616 = i := by omega
  have e2 : t % 18446744073709551616 * 4294967296 % 18446744073709551616 = 4294967296 * t := by omega
  rw [e1, e2, or_low 32 (4294967296 * t) i (by omega) (by omega) (by omega) (by omega) (by omega) (by omega)]
theorem pack_next (w i : Int) (hi0 : 0 ≤ i) (hi1 : i < 4294967296) : pack_Next.f w i = some (i + 4294967296 * ((w / 4294967296 % 4294967296 + 1) % 4294967296)) := by
  unfold pack_Next.f pack_Tag.f
  simp only [bs, pack_word i ((w / 4294967296 % 4294967296 + 1) % 4294967296) hi0 hi1 (by omega) (by omega)]
theorem pack_shown : hatstandlaw1_shown.f = some true := by
  unfold hatstandlaw1_shown.f
  simp only [pack_word 5 1 (by omega) (by omega) (by omega) (by omega), pack_word 5 4294967295 (by omega) (by omega) (by omega) (by omega), pack_word 7 0 (by omega) (by omega) (by omega) (by omega), bs, pack_next _ 7 (by omega) (by omega), pack_Index.f, pack_Tag.f]
  decide
theorem pack_ahead (a b : Int) : pack_Ahead.f a b = some ((b / 4294967296 % 4294967296 - a / 4294967296 % 4294967296) % 4294967296) := by
  unfold pack_Ahead.f pack_Tag.f
  simp only [bs]
/-- A word's tag. -/
def tg (w : Int) : Int := w / 4294967296 % 4294967296
theorem rd_mem {l : List Int} {i : Int} (h0 : 0 ≤ i) (h : i < (l.length : Int)) : rd l i ∈ l := by
  unfold rd
  rw [List.getD_eq_getElem?_getD, List.getElem?_eq_getElem (show i.toNat < l.length by omega), Option.getD_some]
  exact List.getElem_mem _
theorem count_loop (w : Int) (is : List Int) (hl : is.length ≤ 500) (hw : ∀ x ∈ is, (Lit.int .u32 x).wf = true) (d : Nat) : ∀ (x i : Int), 0 ≤ i → i ≤ is.length → (is.length : Int) - i = d →
    tg x = (tg w + i) % 4294967296 → (i = 0 → x = w) → (0 < i → x % 4294967296 = rd is (i - 1)) → ∃ k, hatstandlaw1_PackCount.l0 k w is x i = some true := by
  induction d with
  | zero =>
    intro x i h0 h1 hd ht hz hp
    refine ⟨1, ?_⟩
    simp only [hatstandlaw1_PackCount.l0]
    rw [if_neg (by omega)]
    by_cases hn : (is.length : Int) = 0
    · rw [if_pos hn, hz (by omega)]
      simp
    · rw [if_neg hn]
      have hA : ∀ a b : Int, pack_Ahead.f a b = some ((tg b - tg a) % 4294967296) := fun a b => pack_ahead a b
      have hT : ∀ a : Int, pack_Tag.f a = some (tg a) := fun a => rfl
      have htw : 0 ≤ tg w ∧ tg w < 4294967296 := by unfold tg; omega
      rw [hA]
      simp only [bs, hT]
      rw [if_pos (by rw [ht]; omega), if_pos (by rw [ht]; omega)]
      have e1 : wrap64 ((is.length : Int) - 1) = i - 1 := by unfold wrap64; omega
      simp only [pack_Index.f, bs]
      rw [e1, if_pos (by omega), if_pos (by omega), hp (by omega)]
      simp
  | succ d ih =>
    intro x i h0 h1 hd ht hz hp
    have hr := wf_u32 (hw _ (rd_mem (l := is) (i := i) h0 (by omega)))
    have htw : 0 ≤ tg w ∧ tg w < 4294967296 := by unfold tg; omega
    obtain ⟨k, hk⟩ := ih (rd is i + 4294967296 * ((tg x + 1) % 4294967296)) (i + 1) (by omega) (by omega) (by omega) (by
      rw [ht]; unfold tg at *; omega) (by omega) (by
      intro _
      rw [show i + 1 - 1 = i by omega]
      omega)
    refine ⟨k + 1, ?_⟩
    simp only [hatstandlaw1_PackCount.l0]
    have e2 : wrap64 (i + 1) = i + 1 := by unfold wrap64; omega
    rw [if_pos (by omega), if_pos h0, pack_next _ _ hr.1 hr.2]
    simp only [bs]
    rw [e2]
    exact hk
theorem PackCount : hatstandlaw1_PackCount.Pure := by
  intro a0 l1 w0 _ _ hw
  by_cases hl : (l1.length : Int) > 500
  · refine ⟨1, ?_⟩
    unfold hatstandlaw1_PackCount.f
    simp only [pack_shown, bs, if_true, hatstandlaw1_PackCount.j0]
    simp [hl]
  · obtain ⟨k, hk⟩ := count_loop a0 l1 (by omega) hw l1.length a0 0 (by omega) (by omega) (by omega) (by unfold tg; omega) (fun _ => rfl) (by omega)
    refine ⟨k + 1, ?_⟩
    unfold hatstandlaw1_PackCount.f
    simp only [pack_shown, bs, if_true, hatstandlaw1_PackCount.j0]
    rw [if_neg (by simp [hl])]
    exact hk
end Go.Proofs.Ytkamhidjofngdaa.Pure
