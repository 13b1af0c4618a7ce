/- SlotBack: whatever the numbers, a slot's word is its state, its index and its stamp, and nothing else: for every input. -/
import Derived.Test.YtijkmjhfhnhjeaaPSlotBackx1
import Derived.Laws.Bits64
set_option linter.unusedVariables false
set_option linter.unusedSimpArgs false
namespace Go.Proofs.Ytijkmjhfhnhjeaa.Pure
open Go.RowKit Go.Proofs.Ytijkmjhfhnhjeaa.PSlotBack Go.Proofs.YtijkmjhfhnhjeaaW.PrintWords Go.Proofs.YtijkmjhfhnhjeaaW.PrintLast
/-- 'Option.bind_some', but no law by definition: so Lean's kernel need not compare what the two sides unfold to. -/
theorem bs {α β : Type} (x : α) (f : α → Option β) : (some x).bind f = f x := by rw [Option.bind_some]
theorem wf_i64 {x : Int} (h : (Lit.int .i64 x).wf = true) : -9223372036854775808 ≤ x ∧ x ≤ 9223372036854775807 := by
  simp [Lit.wf, IntKind.min, IntKind.max, IntKind.signed, IntKind.bits] at h; omega
theorem wf_u64 {x : Int} (h : (Lit.int .u64 x).wf = true) : 0 ≤ x ∧ x < 18446744073709551616 := by
  simp [Lit.wf, IntKind.min, IntKind.max, IntKind.signed, IntKind.bits] at h; omega
theorem wf_u32 {x : Int} (h : (Lit.int .u32 x).wf = true) : 0 ≤ x ∧ x < 4294967296 := by
  simp [Lit.wf, IntKind.min, IntKind.max, IntKind.signed, IntKind.bits] at h; omega
theorem or_comm' (k : IntKind) (a b : Int) : Go.bits .or k a b = Go.bits .or k b a := by
  simp only [Go.bits]
  rw [BitVec.or_comm]
theorem wraps_u64 (n : Int) (h0 : 0 ≤ n) (h1 : n < 2 ^ 64) : IntKind.u64.wrap n = n := by
  rw [IntKind.wrap_u64]; omega
theorem and3 (x : Int) (h0 : 0 ≤ x) (h1 : x < 18446744073709551616) : Go.bits .and .u64 x 3 = x % 4 := by
  have := bits_mask .u64 64 (by decide) wraps_u64 2 (by decide) x h0 (by simpa using h1)
  simpa using this
theorem and30 (x : Int) (h0 : 0 ≤ x) (h1 : x < 18446744073709551616) : Go.bits .and .u64 x 1073741823 = x % 1073741824 := by
  have := bits_mask .u64 64 (by decide) wraps_u64 30 (by decide) x h0 (by simpa using h1)
  simpa using this
/-- The bits of two numbers that share none are their sum. -/
theorem or_low (i : Nat) (x y : Int) (hx0 : 0 ≤ x) (hx : x % 2 ^ i = 0) (hx1 : x < 2 ^ 64) (hy0 : 0 ≤ y) (hy : y < 2 ^ i) (hy1 : y < 2 ^ 64) : Go.bits .or .u64 y x = y + x := by
  rw [or_comm', bits_join .u64 64 (by decide) wraps_u64 i x y hx0 hx hx1 hy0 hy hy1]; omega

/-- A slot's word of a state, an index and a stamp. -/
def W (s i t : Int) : Int := s % 4 + 4 * (i % 1073741824) + 4294967296 * t
theorem W_nonneg {s i t : Int} (ht0 : 0 ≤ t) : 0 ≤ W s i t := by unfold W; omega
theorem W_lt {s i t : Int} (ht1 : t < 4294967296) : W s i t < 18446744073709551616 := by unfold W; omega
theorem W_state (s i t : Int) : W s i t % 4 = s % 4 := by unfold W; omega
theorem W_index (s i t : Int) : W s i t / 4 % 1073741824 = i % 1073741824 := by unfold W; omega
theorem W_stamp (s i t : Int) : W s i t / 4294967296 = t := by unfold W; omega
theorem W_back (w : Int) : W (w % 4) (w / 4 % 1073741824) (w / 4294967296) = w := by unfold W; omega
theorem slot_word (s i t : Int) (hi0 : 0 ≤ i) (hi1 : i < 4294967296) (ht0 : 0 ≤ t) (ht1 : t < 4294967296) : slot_Word.f s i t = some (W s i t) := by
  unfold slot_Word.f W
  simp only [IntKind.wrap_u64]
  have e1 : Go.bits .and .u64 (s % 18446744073709551616) 3 = s % 4 := by
    rw [and3 _ (by omega) (by omega)]; omega
  have e2 : Go.bits .and .u64 (i % 18446744073709551616) 1073741823 = i % 1073741824 := by
    rw [and30 _ (by omega) (by omega)]; omega
  have e3 : i % 1073741824 * 4 % 18446744073709551616 = 4 * (i % 1073741824) := by omega
  have e4 : t % 18446744073709551616 * 4294967296 % 18446744073709551616 = 4294967296 * t := by omega
  rw [e1, e2, e3, e4, or_low 2 (4 * (i % 1073741824)) (s % 4) (by omega) (by omega) (by omega) (by omega) (by omega) (by omega), or_low 32 (4294967296 * t) (s % 4 + 4 * (i % 1073741824)) (by omega) (by omega) (by omega) (by omega) (by omega) (by omega)]
theorem slot_state (w : Int) (h0 : 0 ≤ w) (h1 : w < 18446744073709551616) : slot_State.f w = some (w % 4) := by
  unfold slot_State.f
  rw [and3 _ h0 h1]
  congr 1
  unfold wrap64; omega
theorem slot_index (w : Int) (h0 : 0 ≤ w) (h1 : w < 18446744073709551616) : slot_Index.f w = some (w / 4 % 1073741824) := by
  unfold slot_Index.f
  rw [and30 _ (by omega) (by omega)]
  congr 1
  omega
theorem slot_stamp (w : Int) (h0 : 0 ≤ w) (h1 : w < 18446744073709551616) : slot_Stamp.f w = some (w / 4294967296) := by
  unfold slot_Stamp.f
  congr 1
  omega
theorem slot_wait (b : Bool) : slot_waits.f b = some (if b = true then 1 else 2) := by cases b <;> rfl
theorem slot_meets (w : Int) (b : Bool) (h0 : 0 ≤ w) (h1 : w < 18446744073709551616) : slot_Meets.f w b = some (if b = true then w % 4 == 2 else w % 4 == 1) := by
  unfold slot_Meets.f
  rw [slot_state w h0 h1]
  simp only [bs, slot_wait]
  cases b <;> simp
theorem slot_claim (w : Int) (b : Bool) (i : Int) (h0 : 0 ≤ w) (h1 : w < 18446744073709551616) (hi0 : 0 ≤ i) (hi1 : i < 4294967296) :
    slot_Claim.f w b i = some (if b = true then (if w % 4 = 2 then (W 3 i (w / 4294967296), true) else (0, false)) else (if w % 4 = 1 then (W 3 (w / 4 % 1073741824) (w / 4294967296), true) else (0, false))) := by
  unfold slot_Claim.f
  simp only [slot_meets w b h0 h1, bs]
  cases b
  · by_cases h : w % 4 = 1
    · simp only [h, Bool.false_eq_true, if_false, beq_self_eq_true, if_true, slot_index w h0 h1, slot_stamp w h0 h1, bs, slot_word 3 (w / 4 % 1073741824) (w / 4294967296) (by omega) (by omega) (by omega) (by omega)]
    · simp [h]
  · by_cases h : w % 4 = 2
    · simp only [h, beq_self_eq_true, if_true, slot_stamp w h0 h1, bs, slot_word 3 i (w / 4294967296) (by omega) (by omega) (by omega) (by omega)]
    · simp [h]
theorem slot_shown : hatstandlaw9_shown.f = some true := by
  unfold hatstandlaw9_shown.f
  rw [slot_word 1 5 1 (by omega) (by omega) (by omega) (by omega)]
  simp only [bs]
  rw [slot_claim (W 1 5 1) false 9 (by decide) (by decide) (by decide) (by decide)]
  simp only [bs]
  rw [slot_word 3 5 1 (by omega) (by omega) (by omega) (by omega)]
  have e : (if false = true then (if W 1 5 1 % 4 = 2 then (W 3 9 (W 1 5 1 / 4294967296), true) else (0, false)) else (if W 1 5 1 % 4 = 1 then (W 3 (W 1 5 1 / 4 % 1073741824) (W 1 5 1 / 4294967296), true) else (0, false))) = (W 3 5 1, true) := by decide
  rw [e]
  simp only [bs, if_true]
  rw [slot_state (W 3 5 1) (by decide) (by decide)]
  decide
/-- A raw number picks one of n things. -/
theorem pick_of (c n : Int) (h0 : -9223372036854775808 ≤ c) (h1 : c ≤ 9223372036854775807) (hn : 0 < n) : ∃ p, hatstandlaw9_pick.f c n = some p ∧ 0 ≤ p ∧ p < n := by
  unfold hatstandlaw9_pick.f
  have hn0 : ¬ n = 0 := by omega
  by_cases hc : c < 0
  · rw [if_pos hc, if_neg hn0]
    have e : wrap64 (-(wrap64 (c + 1))) = -(c + 1) := by unfold wrap64; omega
    rw [e]
    exact ⟨_, rfl, Int.tmod_nonneg _ (by omega), Int.tmod_lt_of_pos _ hn⟩
  · rw [if_neg hc, if_neg hn0]
    exact ⟨_, rfl, Int.tmod_nonneg _ (by omega), Int.tmod_lt_of_pos _ hn⟩
theorem SlotBack : hatstandlaw9_SlotBack.Pure := by
  intro a0 a1 a2 a3 w0 w1 w2 w3
  have b0 := wf_i64 w0
  have b1 := wf_u32 w1
  have b2 := wf_u32 w2
  have b3 := wf_u64 w3
  obtain ⟨p, hp, hp0, hp1⟩ := pick_of a0 4 (by omega) (by omega) (by omega)
  unfold hatstandlaw9_SlotBack.f
  rw [Int.tmod_eq_emod_of_nonneg (by omega)]
  simp only [slot_shown, hp, bs, if_true, slot_word p (a1 % 1073741824) a2 (by omega) (by omega) (by omega) (by omega)]
  have h0 : 0 ≤ W p (a1 % 1073741824) a2 := W_nonneg (by omega)
  have h1 : W p (a1 % 1073741824) a2 < 18446744073709551616 := W_lt (by omega)
  simp only [slot_state _ h0 h1, slot_index _ h0 h1, slot_stamp _ h0 h1, bs, W_state, W_index, W_stamp, slot_state a3 (by omega) (by omega), slot_index a3 (by omega) (by omega), slot_stamp a3 (by omega) (by omega)]
  rw [if_pos (by omega), if_pos (by omega), if_pos trivial]
  rw [slot_word _ _ _ (by omega) (by omega) (by omega) (by omega), W_back]
  simp
end Go.Proofs.Ytijkmjhfhnhjeaa.Pure
