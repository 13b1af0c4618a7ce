/- PolicyTells: New, Right, After and Polls are as the reference says: for every state, number of slots, status and base. -/
import Derived.Test.YtbcbmpklehobcaaPTx6
import Derived.Laws.Bits64
set_option linter.unusedVariables false
set_option linter.unusedSimpArgs false
namespace Go.Proofs.Ytbcbmpklehobcaa.Pure
open Go.RowKit Go.Proofs.Ytbcbmpklehobcaa.PT Go.Proofs.YtbcbmpklehobcaaW.PrintWords Go.Proofs.YtbcbmpklehobcaaW.PrintLast
/-- 'Option.bind_some', but no law by definition: so Lean's kernel need not compare what the two sides unfold to. -/
theorem bs {α β : Type} (x : α) (f : α → Option β) : (some x).bind f = f x := by rw [Option.bind_some]
theorem beq_no {a b : Int} (h : ¬ a = b) : (a == b) = false := beq_eq_false_iff_ne.2 h
theorem wf_i64 {x : Int} (h : (Lit.int .i64 x).wf = true) : -9223372036854775808 ≤ x ∧ x ≤ 9223372036854775807 := by
  simp [Lit.wf, IntKind.min, IntKind.max, IntKind.signed, IntKind.bits] at h; omega
theorem wf_u64 {x : Int} (h : (Lit.int .u64 x).wf = true) : 0 ≤ x ∧ x < 18446744073709551616 := by
  simp [Lit.wf, IntKind.min, IntKind.max, IntKind.signed, IntKind.bits] at h; omega
theorem wf_u32 {x : Int} (h : (Lit.int .u32 x).wf = true) : 0 ≤ x ∧ x < 4294967296 := by
  simp [Lit.wf, IntKind.min, IntKind.max, IntKind.signed, IntKind.bits] at h; omega
/-- A state that is right for so many slots. -/
structure RightS (r e n : Int) : Prop where
  n0 : 0 ≤ n
  n1 : n ≤ 16
  lo : mn n 1 ≤ r
  hi : r ≤ n
  e0 : 0 ≤ e
  e1 : e ≤ 6
theorem after3 {r e n : Int} (h : RightS r e n) : policy_After.f r e n 3 = some (mn (2 * r) n, e) ∧ RightS (mn (2 * r) n) e n := by
  obtain ⟨n0, n1, lo, hi, e0, e1⟩ := h
  constructor
  · unfold policy_After.f policy_within.f
    simp only [if_true, bs]
    have e2 : wrap64 (r * 2) = 2 * r := by unfold wrap64; unfold mn at lo; omega
    rw [e2]
    congr 2 <;> (unfold mx mn at *; omega)
  · constructor <;> first | omega | (simp only [mn] at *; omega)
theorem after4 {r e n : Int} (h : RightS r e n) : policy_After.f r e n 4 = some (mx (r / 2) (mn n 1), mn (e + 1) 6) ∧ RightS (mx (r / 2) (mn n 1)) (mn (e + 1) 6) n := by
  obtain ⟨n0, n1, lo, hi, e0, e1⟩ := h
  constructor
  · unfold policy_After.f policy_within.f
    rw [if_neg (by omega), if_pos rfl]
    simp only [bs]
    have e2 : wrap64 (Int.tdiv r 2) = r / 2 := by
      rw [Int.tdiv_eq_ediv_of_nonneg (by unfold mn at lo; omega)]
      unfold wrap64; unfold mn at lo; omega
    have e3 : wrap64 (e + 1) = e + 1 := by unfold wrap64; omega
    rw [e2, e3]
    congr 2 <;> (unfold mx mn at *; omega)
  · constructor <;> first | omega | (simp only [mx, mn] at *; omega)
theorem after1 {r e n : Int} (h : RightS r e n) : policy_After.f r e n 1 = some (r, 0) ∧ RightS r 0 n := by
  obtain ⟨n0, n1, lo, hi, e0, e1⟩ := h
  constructor
  · unfold policy_After.f policy_within.f
    rw [if_neg (by omega), if_neg (by omega), if_pos rfl]
    simp only [bs]
    congr 2 <;> (unfold mx mn at *; omega)
  · constructor <;> first | assumption | omega
theorem after_other {r e n s : Int} (h : RightS r e n) (h1 : s ≠ 1) (h3 : s ≠ 3) (h4 : s ≠ 4) : policy_After.f r e n s = some (r, e) := by
  obtain ⟨n0, n1, lo, hi, e0, e1⟩ := h
  unfold policy_After.f policy_within.f
  rw [if_neg h3, if_neg h4, if_neg h1]
  simp only [bs]
  congr 2 <;> (unfold mx mn at *; omega)
theorem after_any {r e n : Int} (s : Int) (h : RightS r e n) : ∃ r' e', policy_After.f r e n s = some (r', e') ∧ RightS r' e' n := by
  by_cases h1 : s = 1
  · subst h1; exact ⟨_, _, after1 h⟩
  · by_cases h3 : s = 3
    · subst h3; exact ⟨_, _, after3 h⟩
    · by_cases h4 : s = 4
      · subst h4; exact ⟨_, _, after4 h⟩
      · exact ⟨r, e, after_other h h1 h3 h4, h⟩
theorem new_right {n : Int} (h0 : 0 ≤ n) (h1 : n ≤ 16) : policy_New.f n = some (mn n 1, 0) ∧ RightS (mn n 1) 0 n := by
  constructor
  · unfold policy_New.f policy_within.f
    simp only [bs]
    congr 2
    unfold mx mn; omega
  · constructor <;> first | omega | (simp only [mn]; omega)
theorem pol_shown : hatstandlaw11_shown.f = some true := by decide +kernel
/-- A wait that is doubled so often, but 64 at most. -/
def D : Nat → Int → Int
  | 0, n => mn n 64
  | d + 1, n => D d (mn (2 * n) 64)
theorem D_big (d : Nat) : ∀ n, 64 ≤ n → D d n = 64 := by
  induction d with
  | zero => intro n h; unfold D mn; omega
  | succ d ih => intro n h; unfold D; exact ih _ (by unfold mn; omega)
theorem D_min (d : Nat) (n : Int) (h : 0 ≤ n) : D d (mn n 64) = D d n := by
  cases d with
  | zero => unfold D mn; omega
  | succ d =>
    unfold D
    congr 1
    unfold mn; omega
theorem D_mono (d : Nat) : ∀ m n, m ≤ n → D d m ≤ D d n := by
  induction d with
  | zero => intro m n h; unfold D mn; omega
  | succ d ih => intro m n h; unfold D; exact ih _ _ (by unfold mn; omega)
theorem D_le (d : Nat) : ∀ n, D d n ≤ 64 := by
  induction d with
  | zero => intro n; unfold D mn; omega
  | succ d ih => intro n; unfold D; exact ih _
theorem D_up (d : Nat) : ∀ n, 0 ≤ n → D d n ≤ D (d + 1) n := by
  intro n h
  show D d n ≤ D d (mn (2 * n) 64)
  rw [← D_min d n h]
  exact D_mono d _ _ (by unfold mn; omega)
theorem D_lift (d : Nat) : ∀ d', d ≤ d' → ∀ n, 0 ≤ n → D d n ≤ D d' n := by
  intro d' h n hn
  induction d' with
  | zero =>
    obtain rfl : d = 0 := by omega
    omega
  | succ d' ih =>
    by_cases e : d = d' + 1
    · subst e; omega
    · have h1 := ih (by omega)
      have h2 := D_up d' n hn
      omega
theorem D_zero (n : Int) (h : n ≤ 64) : D 0 n = n := by unfold D mn; omega
theorem polls_loop (r e : Int) (he : e ≤ 6) (d : Nat) : ∀ (k : Nat) (n i : Int), 0 ≤ i → e - i = d → d < k → 1 ≤ n → policy_Polls.l0 k n i r e = some (D d n) := by
  induction d with
  | zero =>
    intro k n i h0 hd hk hn
    obtain ⟨k, rfl⟩ : ∃ m, k = m + 1 := ⟨k - 1, by omega⟩
    simp only [policy_Polls.l0]
    rw [if_neg (by omega)]
    rfl
  | succ d ih =>
    intro k n i h0 hd hk hn
    obtain ⟨k, rfl⟩ : ∃ m, k = m + 1 := ⟨k - 1, by omega⟩
    simp only [policy_Polls.l0]
    rw [if_pos (by omega)]
    by_cases h : n < 64
    · rw [if_pos h]
      have e1 : wrap64 (n * 2) = 2 * n := by unfold wrap64; omega
      have e2 : wrap64 (i + 1) = i + 1 := by unfold wrap64; omega
      rw [e1, e2, ih k (2 * n) (i + 1) (by omega) (by omega) (by omega) (by omega)]
      show some (D d (2 * n)) = some (D d (mn (2 * n) 64))
      rw [D_min d _ (by omega)]
    · rw [if_neg h]
      congr 1
      rw [D_big _ _ (by omega)]
      unfold mn; omega
theorem polls_any (r e b : Int) (k : Nat) (e0 : 0 ≤ e) (e1 : e ≤ 6) (hk : 6 < k) : policy_Polls.f k r e b = some (D e.toNat (mx b 1)) := by
  unfold policy_Polls.f
  exact polls_loop r e e1 e.toNat k (mx b 1) 0 (by omega) (by omega) (by omega) (by unfold mx; omega)
theorem ref_right {r e n : Int} (k : Nat) : hatstandref11_Right.f (k + 1) r e n = some (decide (0 ≤ n ∧ n ≤ 16 ∧ 0 ≤ e ∧ e ≤ 6 ∧ mn n 1 ≤ r ∧ r ≤ n)) := by
  unfold hatstandref11_Right.f
  simp only [hatstandref11_Right.j0]
  by_cases h1 : n < 0
  · rw [if_pos h1]
    have : ¬ (0 ≤ n ∧ n ≤ 16 ∧ 0 ≤ e ∧ e ≤ 6 ∧ mn n 1 ≤ r ∧ r ≤ n) := by omega
    simp [this]
  · rw [if_neg h1]
    by_cases h2 : n > 16
    · rw [if_pos h2]
      have : ¬ (0 ≤ n ∧ n ≤ 16 ∧ 0 ≤ e ∧ e ≤ 6 ∧ mn n 1 ≤ r ∧ r ≤ n) := by omega
      simp [this]
    · rw [if_neg h2]
      by_cases h3 : e < 0
      · rw [if_pos h3]
        have : ¬ (0 ≤ n ∧ n ≤ 16 ∧ 0 ≤ e ∧ e ≤ 6 ∧ mn n 1 ≤ r ∧ r ≤ n) := by omega
        simp [this]
      · rw [if_neg h3]
        by_cases h4 : e > 6
        · have : ¬ (0 ≤ n ∧ n ≤ 16 ∧ 0 ≤ e ∧ e ≤ 6 ∧ mn n 1 ≤ r ∧ r ≤ n) := by omega
          simp [this, h4]
        · rw [if_neg (by simp [h4])]
          by_cases h5 : n = 0
          · rw [if_pos h5]
            subst h5
            congr 1
            have e1 : mn (0 : Int) 1 = 0 := by simp [mn]
            rw [e1]
            by_cases h6 : r = 0
            · subst h6
              have : (0 : Int) ≤ 0 ∧ (0 : Int) ≤ 16 ∧ 0 ≤ e ∧ e ≤ 6 ∧ (0 : Int) ≤ 0 ∧ (0 : Int) ≤ 0 := by omega
              simp [this]
            · have : ¬ ((0 : Int) ≤ 0 ∧ (0 : Int) ≤ 16 ∧ 0 ≤ e ∧ e ≤ 6 ∧ (0 : Int) ≤ r ∧ r ≤ 0) := by omega
              rw [beq_no h6, decide_eq_false this]
          · rw [if_neg h5]
            have e1 : mn n 1 = 1 := by simp only [mn]; omega
            rw [e1]
            by_cases h6 : r ≥ 1
            · rw [if_pos h6]
              congr 1
              by_cases h7 : r ≤ n
              · have : 0 ≤ n ∧ n ≤ 16 ∧ 0 ≤ e ∧ e ≤ 6 ∧ 1 ≤ r ∧ r ≤ n := by omega
                simp [h7, this]
              · have : ¬ (0 ≤ n ∧ n ≤ 16 ∧ 0 ≤ e ∧ e ≤ 6 ∧ 1 ≤ r ∧ r ≤ n) := by omega
                simp [h7, this]
            · rw [if_neg h6]
              have : ¬ (0 ≤ n ∧ n ≤ 16 ∧ 0 ≤ e ∧ e ≤ 6 ∧ 1 ≤ r ∧ r ≤ n) := by omega
              simp [this]
theorem pol_right {r e n : Int} : policy_Right.f r e n = some (decide (0 ≤ n ∧ n ≤ 16 ∧ 0 ≤ e ∧ e ≤ 6 ∧ mn n 1 ≤ r ∧ r ≤ n)) := by
  unfold policy_Right.f policy_within.f
  by_cases h1 : n ≥ 0
  · rw [if_pos h1]
    by_cases h2 : n ≤ 16
    · rw [if_pos h2]
      simp only [bs]
      congr 1
      by_cases h : 0 ≤ n ∧ n ≤ 16 ∧ 0 ≤ e ∧ e ≤ 6 ∧ mn n 1 ≤ r ∧ r ≤ n
      · have e1 : mx (mn r n) (mn n 1) = r := by simp only [mx, mn] at *; omega
        have e2 : mx (mn e 6) 0 = e := by simp only [mx, mn] at *; omega
        rw [e1, e2]
        simp [h]
      · rw [decide_eq_false h]
        by_cases e1 : r = mx (mn r n) (mn n 1)
        · have e2 : ¬ e = mx (mn e 6) 0 := by simp only [mx, mn] at *; omega
          simp [e2]
        · simp [e1]
    · rw [if_neg h2]
      have : ¬ (0 ≤ n ∧ n ≤ 16 ∧ 0 ≤ e ∧ e ≤ 6 ∧ mn n 1 ≤ r ∧ r ≤ n) := by omega
      simp [this]
  · rw [if_neg h1]
    have : ¬ (0 ≤ n ∧ n ≤ 16 ∧ 0 ≤ e ∧ e ≤ 6 ∧ mn n 1 ≤ r ∧ r ≤ n) := by omega
    simp [this]
theorem ref_after {r e n : Int} (s : Int) (k : Nat) (h : RightS r e n) : hatstandref11_After.f (k + 1) r e n s = policy_After.f r e n s := by
  have h0 := h
  obtain ⟨n0, n1, lo, hi, e0, e1⟩ := h
  unfold hatstandref11_After.f
  by_cases h1 : s = 1
  · rw [if_pos h1, h1, (after1 h0).1]
  · rw [if_neg h1]
    by_cases h3 : s = 3
    · rw [if_pos h3, h3, (after3 h0).1]
      have e2 : wrap64 (2 * r) = 2 * r := by unfold wrap64; simp only [mn] at lo; omega
      rw [e2]
      by_cases h : 2 * r > n
      · rw [if_pos h]; congr 2; simp only [mn] at *; omega
      · rw [if_neg h]; congr 2; simp only [mn] at *; omega
    · rw [if_neg h3]
      by_cases h4 : s = 4
      · rw [if_pos h4, h4, (after4 h0).1]
        have e2 : wrap64 (Int.tdiv r 2) = r / 2 := by
          rw [Int.tdiv_eq_ediv_of_nonneg (by simp only [mn] at lo; omega)]
          unfold wrap64; simp only [mn] at lo; omega
        have e3 : wrap64 (e + 1) = e + 1 := by unfold wrap64; omega
        rw [e2]
        simp only [hatstandref11_After.j0, e3]
        by_cases h : r / 2 < 1
        · rw [if_pos h]
          by_cases g : n > 0
          · rw [if_pos (by simp [g])]
            by_cases g2 : e < 6
            · rw [if_pos g2]; congr 2 <;> (simp only [mx, mn] at *; omega)
            · rw [if_neg g2]; congr 2 <;> (simp only [mx, mn] at *; omega)
          · rw [if_neg (by simp [g])]
            by_cases g2 : e < 6
            · rw [if_pos g2]; congr 2 <;> (simp only [mx, mn] at *; omega)
            · rw [if_neg g2]; congr 2 <;> (simp only [mx, mn] at *; omega)
        · rw [if_neg h, if_neg (by decide)]
          by_cases g2 : e < 6
          · rw [if_pos g2]; congr 2 <;> (simp only [mx, mn] at *; omega)
          · rw [if_neg g2]; congr 2 <;> (simp only [mx, mn] at *; omega)
      · rw [if_neg h4, after_other h0 h1 h3 h4]
theorem ref_polls_loop (r e : Int) (he : e ≤ 6) (d : Nat) : ∀ (k : Nat) (n i : Int), 0 ≤ i → e - i = d → d < k → 1 ≤ n → n ≤ 64 → hatstandref11_Polls.l0 k n i r e = some (D d n) := by
  induction d with
  | zero =>
    intro k n i h0 hd hk hn hn2
    obtain ⟨k, rfl⟩ : ∃ m, k = m + 1 := ⟨k - 1, by omega⟩
    simp only [hatstandref11_Polls.l0]
    rw [if_neg (by omega), D_zero n hn2]
  | succ d ih =>
    intro k n i h0 hd hk hn hn2
    obtain ⟨k, rfl⟩ : ∃ m, k = m + 1 := ⟨k - 1, by omega⟩
    simp only [hatstandref11_Polls.l0]
    rw [if_pos (by omega)]
    have e1 : wrap64 (2 * n) = 2 * n := by unfold wrap64; omega
    have e2 : wrap64 (i + 1) = i + 1 := by unfold wrap64; omega
    rw [e1, e2]
    by_cases h : 2 * n > 64
    · rw [if_pos h, ih k 64 (i + 1) (by omega) (by omega) (by omega) (by omega) (by omega)]
      show some (D d 64) = some (D d (mn (2 * n) 64))
      have : mn (2 * n) 64 = 64 := by simp only [mn]; omega
      rw [this]
    · rw [if_neg h, ih k (2 * n) (i + 1) (by omega) (by omega) (by omega) (by omega) (by omega)]
      show some (D d (2 * n)) = some (D d (mn (2 * n) 64))
      rw [D_min d _ (by omega)]
theorem ref_polls (r e b : Int) (k : Nat) (e0 : 0 ≤ e) (e1 : e ≤ 6) (hk : 6 < k) : hatstandref11_Polls.f (k + 2) r e b = policy_Polls.f (k + 2) r e b := by
  rw [polls_any r e b (k + 2) e0 e1 (by omega)]
  unfold hatstandref11_Polls.f
  simp only [hatstandref11_Polls.j0, hatstandref11_Polls.j1]
  by_cases h : b < 1
  · rw [if_pos h, if_neg (by omega), ref_polls_loop r e e1 e.toNat k 1 0 (by omega) (by omega) (by omega) (by omega) (by omega)]
    congr 2
    simp only [mx]; omega
  · rw [if_neg h]
    by_cases h2 : b > 64
    · rw [if_pos h2, ref_polls_loop r e e1 e.toNat k 64 0 (by omega) (by omega) (by omega) (by omega) (by omega), D_big _ _ (by omega), D_big _ _ (by simp only [mx]; omega)]
    · rw [if_neg h2, ref_polls_loop r e e1 e.toNat k b 0 (by omega) (by omega) (by omega) (by omega) (by omega)]
      congr 2
      simp only [mx]; omega
theorem PolicyTells : hatstandlaw11_PolicyTells.Pure := by
  intro r e n s b w0 w1 w2 w3 w4
  refine ⟨20, ?_⟩
  unfold hatstandlaw11_PolicyTells.f
  simp only [pol_shown, bs, if_true, pol_right, ref_right 19]
  rw [if_neg (by simp)]
  simp only [hatstandlaw11_PolicyTells.j0]
  by_cases h1 : n < 0
  · rw [if_pos h1, if_true]
  · rw [if_neg h1]
    by_cases h2 : n > 16
    · rw [if_pos (by simp [h2])]
    · rw [if_neg (by simp [h2]), (new_right (n := n) (by omega) (by omega)).1]
      simp only [bs]
      have e1 : hatstandref11_New.f n = some (mn n 1, 0) := by
        unfold hatstandref11_New.f
        by_cases h : n = 0
        · rw [if_pos h]; subst h; simp [mn]
        · rw [if_neg h]; congr 2; simp only [mn]; omega
      rw [e1]
      simp only [bs, if_true, pol_right]
      have hn := (new_right (n := n) (by omega) (by omega)).2
      have e2 : decide (0 ≤ n ∧ n ≤ 16 ∧ (0 : Int) ≤ 0 ∧ (0 : Int) ≤ 6 ∧ mn n 1 ≤ mn n 1 ∧ mn n 1 ≤ n) = true := by
        have := hn.hi
        simp; omega
      rw [e2]
      simp only [Bool.not_true, hatstandlaw11_PolicyTells.j1, Bool.false_eq_true, if_false, ref_right 17, bs]
      by_cases h : 0 ≤ n ∧ n ≤ 16 ∧ 0 ≤ e ∧ e ≤ 6 ∧ mn n 1 ≤ r ∧ r ≤ n
      · rw [decide_eq_true h, if_pos rfl]
        have hR : RightS r e n := ⟨h.1, h.2.1, h.2.2.2.2.1, h.2.2.2.2.2, h.2.2.1, h.2.2.2.1⟩
        rw [ref_after s 17 hR]
        obtain ⟨r', e', ha, _⟩ := after_any s hR
        rw [ha]
        simp only [bs, if_true]
        rw [ref_polls r e b 16 hR.e0 hR.e1 (by omega), polls_any r e b 18 hR.e0 hR.e1 (by omega)]
        simp only [bs, beq_self_eq_true]
      · rw [decide_eq_false h]
        simp
end Go.Proofs.Ytbcbmpklehobcaa.Pure
