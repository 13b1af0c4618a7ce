/- SlotTells: word, parts, offers, claims and clearings tell what the reference tells: for every input. -/
import Derived.Test.YtijkmjhfhnhjeaaPx3
import Derived.Laws.Bits64
set_option linter.unusedVariables false
set_option linter.unusedSimpArgs false
namespace Go.Proofs.Ytijkmjhfhnhjeaa.Pure
open Go.RowKit Go.Proofs.Ytijkmjhfhnhjeaa.P Go.Proofs.YtijkmjhfhnhjeaaW.PrintWords Go.Proofs.YtijkmjhfhnhjeaaW.PrintLast
/-- 'Option.bind_some', but no law by definition: so Lean's kernel need not compare what the two sides unfold to. -/
theorem bs {α β : Type} (x : α) (f : α → Option β) : (some x).bind f = f x := by rw [Option.bind_some]
theorem beq_no {a b : Int} (h : ¬ a = b) : (a == b) = false := beq_eq_false_iff_ne.2 h
theorem wf_i64 {x : Int} (h : (Lit.int .i64 x).wf = true) : -9223372036854775808 ≤ x ∧ x ≤ 9223372036854775807 := by
  simp [Lit.wf, IntKind.min, IntKind.max, IntKind.signed, IntKind.bits] at h; omega
theorem wf_u64 {x : Int} (h : (Lit.int .u64 x).wf = true) : 0 ≤ x ∧ x < 18446744073709551616 := by
  simp [Lit.wf, IntKind.min, IntKind.max, IntKind.signed, IntKind.bits] at h; omega
theorem wf_u32 {x : Int} (h : (Lit.int .u32 x).wf = true) : 0 ≤ x ∧ x < 4294967296 := by
  simp [Lit.wf, IntKind.min, IntKind.max, IntKind.signed, IntKind.bits] at h; omega
theorem or_comm' (k : IntKind) (a b : Int) : Go.bits .or k a b = Go.bits .or k b a := by
  simp only [Go.bits]
  rw [BitVec.or_comm]
theorem wraps_u64 (n : Int) (h0 : 0 ≤ n) (h1 : n < 2 ^ 64) : IntKind.u64.wrap n = n := by
  rw [IntKind.wrap_u64]; omega
theorem and3 (x : Int) (h0 : 0 ≤ x) (h1 : x < 18446744073709551616) : Go.bits .and .u64 x 3 = x % 4 := by
  have := bits_mask .u64 64 (by decide) wraps_u64 2 (by decide) x h0 (by simpa using h1)
  simpa using this
theorem and30 (x : Int) (h0 : 0 ≤ x) (h1 : x < 18446744073709551616) : Go.bits .and .u64 x 1073741823 = x % 1073741824 := by
  have := bits_mask .u64 64 (by decide) wraps_u64 30 (by decide) x h0 (by simpa using h1)
  simpa using this
/-- The bits of two numbers that share none are their sum. -/
theorem or_low (i : Nat) (x y : Int) (hx0 : 0 ≤ x) (hx : x % 2 ^ i = 0) (hx1 : x < 2 ^ 64) (hy0 : 0 ≤ y) (hy : y < 2 ^ i) (hy1 : y < 2 ^ 64) : Go.bits .or .u64 y x = y + x := by
  rw [or_comm', bits_join .u64 64 (by decide) wraps_u64 i x y hx0 hx hx1 hy0 hy hy1]; omega

/-- A slot's word of a state, an index and a stamp. -/
def W (s i t : Int) : Int := s % 4 + 4 * (i % 1073741824) + 4294967296 * t
theorem W_nonneg {s i t : Int} (ht0 : 0 ≤ t) : 0 ≤ W s i t := by unfold W; omega
theorem W_lt {s i t : Int} (ht1 : t < 4294967296) : W s i t < 18446744073709551616 := by unfold W; omega
theorem W_state (s i t : Int) : W s i t % 4 = s % 4 := by unfold W; omega
theorem W_index (s i t : Int) : W s i t / 4 % 1073741824 = i % 1073741824 := by unfold W; omega
theorem W_stamp (s i t : Int) : W s i t / 4294967296 = t := by unfold W; omega
theorem W_back (w : Int) : W (w % 4) (w / 4 % 1073741824) (w / 4294967296) = w := by unfold W; omega
theorem slot_word (s i t : Int) (hi0 : 0 ≤ i) (hi1 : i < 4294967296) (ht0 : 0 ≤ t) (ht1 : t < 4294967296) : slot_Word.f s i t = some (W s i t) := by
  unfold slot_Word.f W
  simp only [IntKind.wrap_u64]
  have e1 : Go.bits .and .u64 (s % 18446744073709551616) 3 = s % 4 := by
    rw [and3 _ (by omega) (by omega)]; omega
  have e2 : Go.bits .and .u64 (i % 18446744073709551616) 1073741823 = i % 1073741824 := by
    rw [and30 _ (by omega) (by omega)]; omega
  have e3 : i % 1073741824 * 4 % 18446744073709551616 = 4 * (i % 1073741824) := by omega
  have e4 : t % 18446744073709551616 * 4294967296 % 18446744073709551616 = 4294967296 * t := by omega
  rw [e1, e2, e3, e4, or_low 2 (4 * (i % 1073741824)) (s % 4) (by omega) (by omega) (by omega) (by omega) (by omega) (by omega), or_low 32 (4294967296 * t) (s % 4 + 4 * (i % 1073741824)) (by omega) (by omega) (by omega) (by omega) (by omega) (by omega)]
theorem slot_state (w : Int) (h0 : 0 ≤ w) (h1 : w < 18446744073709551616) : slot_State.f w = some (w % 4) := by
  unfold slot_State.f
  rw [and3 _ h0 h1]
  congr 1
  unfold wrap64; omega
theorem slot_index (w : Int) (h0 : 0 ≤ w) (h1 : w < 18446744073709551616) : slot_Index.f w = some (w / 4 % 1073741824) := by
  unfold slot_Index.f
  rw [and30 _ (by omega) (by omega)]
  congr 1
  omega
theorem slot_stamp (w : Int) (h0 : 0 ≤ w) (h1 : w < 18446744073709551616) : slot_Stamp.f w = some (w / 4294967296) := by
  unfold slot_Stamp.f
  congr 1
  omega
theorem slot_wait (b : Bool) : slot_waits.f b = some (if b = true then 1 else 2) := by cases b <;> rfl
theorem slot_meets (w : Int) (b : Bool) (h0 : 0 ≤ w) (h1 : w < 18446744073709551616) : slot_Meets.f w b = some (if b = true then w % 4 == 2 else w % 4 == 1) := by
  unfold slot_Meets.f
  rw [slot_state w h0 h1]
  simp only [bs, slot_wait]
  cases b <;> simp
theorem slot_claim (w : Int) (b : Bool) (i : Int) (h0 : 0 ≤ w) (h1 : w < 18446744073709551616) (hi0 : 0 ≤ i) (hi1 : i < 4294967296) :
    slot_Claim.f w b i = some (if b = true then (if w % 4 = 2 then (W 3 i (w / 4294967296), true) else (0, false)) else (if w % 4 = 1 then (W 3 (w / 4 % 1073741824) (w / 4294967296), true) else (0, false))) := by
  unfold slot_Claim.f
  simp only [slot_meets w b h0 h1, bs]
  cases b
  · by_cases h : w % 4 = 1
    · simp only [h, Bool.false_eq_true, if_false, beq_self_eq_true, if_true, slot_index w h0 h1, slot_stamp w h0 h1, bs, slot_word 3 (w / 4 % 1073741824) (w / 4294967296) (by omega) (by omega) (by omega) (by omega)]
    · simp [h]
  · by_cases h : w % 4 = 2
    · simp only [h, beq_self_eq_true, if_true, slot_stamp w h0 h1, bs, slot_word 3 i (w / 4294967296) (by omega) (by omega) (by omega) (by omega)]
    · simp [h]
theorem slot_shown : hatstandlaw9_shown.f = some true := by
  unfold hatstandlaw9_shown.f
  rw [slot_word 1 5 1 (by omega) (by omega) (by omega) (by omega)]
  simp only [bs]
  rw [slot_claim (W 1 5 1) false 9 (by decide) (by decide) (by decide) (by decide)]
  simp only [bs]
  rw [slot_word 3 5 1 (by omega) (by omega) (by omega) (by omega)]
  have e : (if false = true then (if W 1 5 1 % 4 = 2 then (W 3 9 (W 1 5 1 / 4294967296), true) else (0, false)) else (if W 1 5 1 % 4 = 1 then (W 3 (W 1 5 1 / 4 % 1073741824) (W 1 5 1 / 4294967296), true) else (0, false))) = (W 3 5 1, true) := by decide
  rw [e]
  simp only [bs, if_true]
  rw [slot_state (W 3 5 1) (by decide) (by decide)]
  decide
theorem slot_offer (w : Int) (b : Bool) (i : Int) (h0 : 0 ≤ w) (h1 : w < 18446744073709551616) (hi0 : 0 ≤ i) (hi1 : i < 4294967296) :
    slot_Offer.f w b i = some (if w % 4 = 0 then (if b = true then W 1 i (w / 4294967296) else W 2 0 (w / 4294967296), true) else (0, false)) := by
  unfold slot_Offer.f
  simp only [slot_state w h0 h1, bs]
  by_cases h : w % 4 = 0
  · rw [if_pos h, if_pos h]
    cases b
    · simp only [slot_wait, slot_stamp w h0 h1, bs, Bool.false_eq_true, if_false, slot_word 2 0 (w / 4294967296) (by omega) (by omega) (by omega) (by omega)]
    · simp only [slot_wait, slot_stamp w h0 h1, bs, if_true, slot_word 1 i (w / 4294967296) (by omega) (by omega) (by omega) (by omega)]
  · rw [if_neg h, if_neg h]
theorem offer_empty (t i : Int) (b : Bool) (ht0 : 0 ≤ t) (ht1 : t < 4294967296) (hi0 : 0 ≤ i) (hi1 : i < 4294967296) :
    slot_Offer.f (W 0 0 t) b i = some (if b = true then W 1 i t else W 2 0 t, true) := by
  rw [slot_offer _ b i (W_nonneg ht0) (W_lt ht1) hi0 hi1, W_state, W_stamp]
  simp
theorem claim_W (s i t k : Int) (b : Bool) (ht0 : 0 ≤ t) (ht1 : t < 4294967296) (hk0 : 0 ≤ k) (hk1 : k < 4294967296) :
    slot_Claim.f (W s i t) b k = some (if b = true then (if s % 4 = 2 then (W 3 k t, true) else (0, false)) else (if s % 4 = 1 then (W 3 (i % 1073741824) t, true) else (0, false))) := by
  rw [slot_claim _ b k (W_nonneg ht0) (W_lt ht1) hk0 hk1, W_state, W_stamp, W_index]
theorem state_W (s i t : Int) (ht0 : 0 ≤ t) (ht1 : t < 4294967296) : slot_State.f (W s i t) = some (s % 4) := by
  rw [slot_state _ (W_nonneg ht0) (W_lt ht1), W_state]
theorem index_W (s i t : Int) (ht0 : 0 ≤ t) (ht1 : t < 4294967296) : slot_Index.f (W s i t) = some (i % 1073741824) := by
  rw [slot_index _ (W_nonneg ht0) (W_lt ht1), W_index]
theorem stamp_W (s i t : Int) (ht0 : 0 ≤ t) (ht1 : t < 4294967296) : slot_Stamp.f (W s i t) = some t := by
  rw [slot_stamp _ (W_nonneg ht0) (W_lt ht1), W_stamp]
theorem meets_W (s i t : Int) (b : Bool) (ht0 : 0 ≤ t) (ht1 : t < 4294967296) : slot_Meets.f (W s i t) b = some (if b = true then s % 4 == 2 else s % 4 == 1) := by
  rw [slot_meets _ b (W_nonneg ht0) (W_lt ht1), W_state]
theorem W_eq_iff (s i t s' i' t' : Int) : W s i t = W s' i' t' ↔ (s % 4 = s' % 4 ∧ i % 1073741824 = i' % 1073741824 ∧ t = t') := by
  unfold W; omega
theorem slot_clear (w : Int) (h0 : 0 ≤ w) (h1 : w < 18446744073709551616) : slot_Clear.f w = some (W 0 0 ((w / 4294967296 + 1) % 4294967296)) := by
  unfold slot_Clear.f
  simp only [slot_stamp w h0 h1, bs, slot_word 0 0 ((w / 4294967296 + 1) % 4294967296) (by omega) (by omega) (by omega) (by omega)]
theorem clear_W (s i t : Int) (ht0 : 0 ≤ t) (ht1 : t < 4294967296) : slot_Clear.f (W s i t) = some (W 0 0 ((t + 1) % 4294967296)) := by
  rw [slot_clear _ (W_nonneg ht0) (W_lt ht1), W_stamp]
theorem ref_word (s i t : Int) (hs0 : -9223372036854775808 ≤ s) (hs1 : s ≤ 9223372036854775807) (hi0 : 0 ≤ i) (hi1 : i < 4294967296) (ht0 : 0 ≤ t) (ht1 : t < 4294967296) : hatstandref9_Word.f s i t = some (W s i t) := by
  unfold hatstandref9_Word.f W
  simp only [IntKind.wrap_u64]
  rw [Int.tmod_eq_emod_of_nonneg (by omega), Int.tmod_eq_emod_of_nonneg (by omega)]
  congr 1
  omega
theorem ref_state (w : Int) (h0 : 0 ≤ w) (h1 : w < 18446744073709551616) : hatstandref9_State.f w = some (w % 4) := by
  unfold hatstandref9_State.f wrap64
  rw [Int.tmod_eq_emod_of_nonneg h0]
  congr 1
  omega
theorem ref_stamp (w : Int) (h0 : 0 ≤ w) (h1 : w < 18446744073709551616) : hatstandref9_Stamp.f w = some (w / 4294967296) := by
  unfold hatstandref9_Stamp.f
  rw [Int.tdiv_eq_ediv_of_nonneg h0, IntKind.wrap_u64]
  congr 1
  omega
theorem ref_index (w : Int) (h0 : 0 ≤ w) (h1 : w < 18446744073709551616) : hatstandref9_Index.f w = some (w / 4 % 1073741824) := by
  unfold hatstandref9_Index.f
  rw [Int.tdiv_eq_ediv_of_nonneg h0, IntKind.wrap_u64, Int.tmod_eq_emod_of_nonneg (by omega)]
  congr 1
  omega
theorem ref_meets (w : Int) (b : Bool) (h0 : 0 ≤ w) (h1 : w < 18446744073709551616) : hatstandref9_Meets.f w b = some (if b = true then w % 4 == 2 else w % 4 == 1) := by
  unfold hatstandref9_Meets.f
  simp only [ref_state w h0 h1, bs]
  cases b
  · simp
  · by_cases h : w % 4 = 2 <;> simp [h]
theorem ref_offer (w : Int) (b : Bool) (i : Int) (h0 : 0 ≤ w) (h1 : w < 18446744073709551616) (hi0 : 0 ≤ i) (hi1 : i < 4294967296) :
    hatstandref9_Offer.f w b i = some (if w % 4 = 0 then (if b = true then W 1 i (w / 4294967296) else W 2 0 (w / 4294967296), true) else (0, false)) := by
  unfold hatstandref9_Offer.f
  simp only [ref_state w h0 h1, ref_stamp w h0 h1, bs, ref_word 1 i (w / 4294967296) (by omega) (by omega) (by omega) (by omega) (by omega) (by omega), ref_word 2 0 (w / 4294967296) (by omega) (by omega) (by omega) (by omega) (by omega) (by omega)]
  by_cases h : w % 4 = 0 <;> cases b <;> simp [h]
theorem ref_claim (w : Int) (b : Bool) (i : Int) (h0 : 0 ≤ w) (h1 : w < 18446744073709551616) (hi0 : 0 ≤ i) (hi1 : i < 4294967296) :
    hatstandref9_Claim.f 2 w b i = some (if b = true then (if w % 4 = 2 then (W 3 i (w / 4294967296), true) else (0, false)) else (if w % 4 = 1 then (W 3 (w / 4 % 1073741824) (w / 4294967296), true) else (0, false))) := by
  unfold hatstandref9_Claim.f
  simp only [hatstandref9_Claim.j0, hatstandref9_Claim.j1, ref_state w h0 h1, ref_stamp w h0 h1, ref_index w h0 h1, bs, ref_word 3 i (w / 4294967296) (by omega) (by omega) (by omega) (by omega) (by omega) (by omega), ref_word 3 (w / 4 % 1073741824) (w / 4294967296) (by omega) (by omega) (by omega) (by omega) (by omega) (by omega)]
  cases b
  · by_cases h : w % 4 = 1 <;> simp [h]
  · by_cases h : w % 4 = 2 <;> simp [h]
theorem ref_clear (w : Int) (h0 : 0 ≤ w) (h1 : w < 18446744073709551616) : hatstandref9_Clear.f w = some (W 0 0 ((w / 4294967296 + 1) % 4294967296)) := by
  unfold hatstandref9_Clear.f
  simp only [ref_stamp w h0 h1, bs, IntKind.wrap_u64]
  rw [Int.tmod_eq_emod_of_nonneg (by omega), ref_word _ _ _ (by omega) (by omega) (by omega) (by omega) (by omega) (by omega)]
  simp only [bs]
  congr 2
  omega
theorem SlotTells : hatstandlaw9_SlotTells.Pure := by
  intro a0 a1 a2 a3 a4 w0 w1 w2 w3
  have b0 := wf_i64 w0
  have b1 := wf_u32 w1
  have b2 := wf_u32 w2
  have b3 := wf_u64 w3
  refine ⟨2, ?_⟩
  unfold hatstandlaw9_SlotTells.f
  simp only [slot_shown, slot_offer a3 a4 a1 (by omega) (by omega) (by omega) (by omega), ref_offer a3 a4 a1 (by omega) (by omega) (by omega) (by omega), slot_claim a3 a4 a1 (by omega) (by omega) (by omega) (by omega), ref_claim a3 a4 a1 (by omega) (by omega) (by omega) (by omega), slot_word a0 a1 a2 (by omega) (by omega) (by omega) (by omega), ref_word a0 a1 a2 (by omega) (by omega) (by omega) (by omega) (by omega) (by omega), slot_state a3 (by omega) (by omega), ref_state a3 (by omega) (by omega), slot_index a3 (by omega) (by omega), ref_index a3 (by omega) (by omega), slot_stamp a3 (by omega) (by omega), ref_stamp a3 (by omega) (by omega), slot_meets a3 a4 (by omega) (by omega), ref_meets a3 a4 (by omega) (by omega), slot_clear a3 (by omega) (by omega), ref_clear a3 (by omega) (by omega), bs, if_true, beq_self_eq_true]
end Go.Proofs.Ytijkmjhfhnhjeaa.Pure
