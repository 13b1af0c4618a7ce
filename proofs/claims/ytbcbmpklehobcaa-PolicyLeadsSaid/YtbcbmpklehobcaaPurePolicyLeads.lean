/- PolicyLeads: from any state that visits lead to, five Contended lead to all slots and five Timeout to one: for every input. -/
import Derived.Test.YtbcbmpklehobcaaPx4
import Derived.Laws.Bits64
set_option linter.unusedVariables false
set_option linter.unusedSimpArgs false
namespace Go.Proofs.Ytbcbmpklehobcaa.Pure
open Go.RowKit Go.Proofs.Ytbcbmpklehobcaa.P Go.Proofs.YtbcbmpklehobcaaW.PrintWords Go.Proofs.YtbcbmpklehobcaaW.PrintLast
/-- 'Option.bind_some', but no law by definition: so Lean's kernel need not compare what the two sides unfold to. -/
theorem bs {α β : Type} (x : α) (f : α → Option β) : (some x).bind f = f x := by rw [Option.bind_some]
theorem beq_no {a b : Int} (h : ¬ a = b) : (a == b) = false := beq_eq_false_iff_ne.2 h
theorem wf_i64 {x : Int} (h : (Lit.int .i64 x).wf = true) : -9223372036854775808 ≤ x ∧ x ≤ 9223372036854775807 := by
  simp [Lit.wf, IntKind.min, IntKind.max, IntKind.signed, IntKind.bits] at h; omega
theorem wf_u64 {x : Int} (h : (Lit.int .u64 x).wf = true) : 0 ≤ x ∧ x < 18446744073709551616 := by
  simp [Lit.wf, IntKind.min, IntKind.max, IntKind.signed, IntKind.bits] at h; omega
theorem wf_u32 {x : Int} (h : (Lit.int .u32 x).wf = true) : 0 ≤ x ∧ x < 4294967296 := by
  simp [Lit.wf, IntKind.min, IntKind.max, IntKind.signed, IntKind.bits] at h; omega
/-- A raw number picks one of n things. -/
theorem pick_of (c n : Int) (h0 : -9223372036854775808 ≤ c) (h1 : c ≤ 9223372036854775807) (hn : 0 < n) : ∃ p, hatstandlaw11_pick.f c n = some p ∧ 0 ≤ p ∧ p < n := by
  unfold hatstandlaw11_pick.f
  have hn0 : ¬ n = 0 := by omega
  by_cases hc : c < 0
  · rw [if_pos hc, if_neg hn0]
    have e : wrap64 (-(wrap64 (c + 1))) = -(c + 1) := by unfold wrap64; omega
    rw [e]
    exact ⟨_, rfl, Int.tmod_nonneg _ (by omega), Int.tmod_lt_of_pos _ hn⟩
  · rw [if_neg hc, if_neg hn0]
    exact ⟨_, rfl, Int.tmod_nonneg _ (by omega), Int.tmod_lt_of_pos _ hn⟩
/-- A state that is right for so many slots. -/
structure RightS (r e n : Int) : Prop where
  n0 : 0 ≤ n
  n1 : n ≤ 16
  lo : mn n 1 ≤ r
  hi : r ≤ n
  e0 : 0 ≤ e
  e1 : e ≤ 6
theorem after3 {r e n : Int} (h : RightS r e n) : policy_After.f r e n 3 = some (mn (2 * r) n, e) ∧ RightS (mn (2 * r) n) e n := by
  obtain ⟨n0, n1, lo, hi, e0, e1⟩ := h
  constructor
  · unfold policy_After.f policy_within.f
    simp only [if_true, bs]
    have e2 : wrap64 (r * 2) = 2 * r := by unfold wrap64; unfold mn at lo; omega
    rw [e2]
    congr 2 <;> (unfold mx mn at *; omega)
  · constructor <;> first | omega | (simp only [mn] at *; omega)
theorem after4 {r e n : Int} (h : RightS r e n) : policy_After.f r e n 4 = some (mx (r / 2) (mn n 1), mn (e + 1) 6) ∧ RightS (mx (r / 2) (mn n 1)) (mn (e + 1) 6) n := by
  obtain ⟨n0, n1, lo, hi, e0, e1⟩ := h
  constructor
  · unfold policy_After.f policy_within.f
    rw [if_neg (by omega), if_pos rfl]
    simp only [bs]
    have e2 : wrap64 (Int.tdiv r 2) = r / 2 := by
      rw [Int.tdiv_eq_ediv_of_nonneg (by unfold mn at lo; omega)]
      unfold wrap64; unfold mn at lo; omega
    have e3 : wrap64 (e + 1) = e + 1 := by unfold wrap64; omega
    rw [e2, e3]
    congr 2 <;> (unfold mx mn at *; omega)
  · constructor <;> first | omega | (simp only [mx, mn] at *; omega)
theorem after1 {r e n : Int} (h : RightS r e n) : policy_After.f r e n 1 = some (r, 0) ∧ RightS r 0 n := by
  obtain ⟨n0, n1, lo, hi, e0, e1⟩ := h
  constructor
  · unfold policy_After.f policy_within.f
    rw [if_neg (by omega), if_neg (by omega), if_pos rfl]
    simp only [bs]
    congr 2 <;> (unfold mx mn at *; omega)
  · constructor <;> first | assumption | omega
theorem after_other {r e n s : Int} (h : RightS r e n) (h1 : s ≠ 1) (h3 : s ≠ 3) (h4 : s ≠ 4) : policy_After.f r e n s = some (r, e) := by
  obtain ⟨n0, n1, lo, hi, e0, e1⟩ := h
  unfold policy_After.f policy_within.f
  rw [if_neg h3, if_neg h4, if_neg h1]
  simp only [bs]
  congr 2 <;> (unfold mx mn at *; omega)
theorem after_any {r e n : Int} (s : Int) (h : RightS r e n) : ∃ r' e', policy_After.f r e n s = some (r', e') ∧ RightS r' e' n := by
  by_cases h1 : s = 1
  · subst h1; exact ⟨_, _, after1 h⟩
  · by_cases h3 : s = 3
    · subst h3; exact ⟨_, _, after3 h⟩
    · by_cases h4 : s = 4
      · subst h4; exact ⟨_, _, after4 h⟩
      · exact ⟨r, e, after_other h h1 h3 h4, h⟩
theorem new_right {n : Int} (h0 : 0 ≤ n) (h1 : n ≤ 16) : policy_New.f n = some (mn n 1, 0) ∧ RightS (mn n 1) 0 n := by
  constructor
  · unfold policy_New.f policy_within.f
    simp only [bs]
    congr 2
    unfold mx mn; omega
  · constructor <;> first | omega | (simp only [mn]; omega)
theorem pol_shown : hatstandlaw11_shown.f = some true := by decide +kernel
theorem run_loop (n : Int) (l : List Int) (hl : l.length ≤ 1000) (hw : ∀ x ∈ l, (Lit.int .i64 x).wf = true) (d : Nat) : ∀ (k : Nat) (i r e : Int), 0 ≤ i → i ≤ l.length → (l.length : Int) - i = d → d < k → RightS r e n →
    ∃ r' e', hatstandlaw11_run.l0 k n l i r e = some (r', e') ∧ RightS r' e' n := by
  induction d with
  | zero =>
    intro k i r e h0 h1 hd hk hr
    obtain ⟨k, rfl⟩ : ∃ m, k = m + 1 := ⟨k - 1, by omega⟩
    exact ⟨r, e, by simp only [hatstandlaw11_run.l0]; rw [if_neg (by omega)], hr⟩
  | succ d ih =>
    intro k i r e h0 h1 hd hk hr
    obtain ⟨k, rfl⟩ : ∃ m, k = m + 1 := ⟨k - 1, by omega⟩
    have hlt : i < (l.length : Int) := by omega
    have hx : (Lit.int .i64 (rd l i)).wf = true := by
      unfold rd
      refine hw _ ?_
      rw [List.getD_eq_getElem?_getD, List.getElem?_eq_getElem (show i.toNat < l.length by omega), Option.getD_some]
      exact List.getElem_mem _
    have hx' := wf_i64 hx
    obtain ⟨p, hp, _, _⟩ := pick_of (rd l i) 8 hx'.1 hx'.2 (by omega)
    obtain ⟨r1, e1, ha, hr1⟩ := after_any p hr
    obtain ⟨r2, e2, hq, hr2⟩ := ih k (i + 1) r1 e1 (by omega) (by omega) (by omega) (by omega) hr1
    refine ⟨r2, e2, ?_, hr2⟩
    have ew : wrap64 (i + 1) = i + 1 := by unfold wrap64; omega
    simp only [hatstandlaw11_run.l0]
    rw [if_pos hlt, if_pos h0, hp]
    simp only [bs]
    rw [ha]
    simp only [bs]
    rw [ew]
    exact hq
theorem run_any (n : Int) (l : List Int) (k : Nat) (h0 : 0 ≤ n) (h1 : n ≤ 16) (hl : l.length ≤ 300) (hk : 300 < k) (hw : ∀ x ∈ l, (Lit.int .i64 x).wf = true) : ∃ r e, hatstandlaw11_run.f k n l = some (r, e) ∧ RightS r e n := by
  obtain ⟨hn, hr⟩ := new_right h0 h1
  obtain ⟨r, e, h, hr'⟩ := run_loop n l (by omega) hw l.length k 0 (mn n 1) 0 (by omega) (by omega) (by omega) (by omega) hr
  refine ⟨r, e, ?_, hr'⟩
  unfold hatstandlaw11_run.f
  rw [hn]
  simp only [bs]
  exact h
theorem leads_step {n i ur ue dr de : Int} (k : Nat) (hi : i < 5) (h0 : 0 ≤ i) (hu : RightS ur ue n) (hd : RightS dr de n) :
    hatstandlaw11_PolicyLeads.l0 (k + 1) n i ur ue dr de = hatstandlaw11_PolicyLeads.l0 k n (i + 1) (mn (2 * ur) n) ue (mx (dr / 2) (mn n 1)) (mn (de + 1) 6) := by
  simp only [hatstandlaw11_PolicyLeads.l0]
  rw [if_pos hi, (after3 hu).1]
  simp only [bs]
  rw [(after4 hd).1]
  simp only [bs]
  obtain ⟨n0, n1, lo, hi', e0, e1⟩ := hu
  obtain ⟨m0, m1, lo', hi2, f0, f1⟩ := hd
  have ew : wrap64 (i + 1) = i + 1 := by unfold wrap64; omega
  rw [if_neg (by unfold mn at *; omega), if_neg (by unfold mx mn at *; omega), if_true, if_neg (by unfold mn at *; omega), ew]
theorem leads_end {n ur ue dr de : Int} (k : Nat) (hu : RightS ur ue n) (hd : RightS dr de n) (h1 : ur = n) (h2 : dr = mn n 1) :
    hatstandlaw11_PolicyLeads.l0 (k + 1) n 5 ur ue dr de = some true := by
  have a3 := (after3 hu).1
  have a4 := (after4 hd).1
  simp only [hatstandlaw11_PolicyLeads.l0]
  rw [if_neg (by omega), if_pos h1, if_pos h2, a3]
  simp only [bs]
  obtain ⟨n0, n1, lo, hi', e0, e1⟩ := hu
  have e2 : mn (2 * ur) n = ur := by unfold mn at *; omega
  have e3 : mx (dr / 2) (mn n 1) = dr := by unfold mx mn at *; omega
  rw [e2, a4]
  simp only [bs, beq_self_eq_true, Bool.and_self, if_true]
  rw [e3]
  simp
theorem PolicyLeads : hatstandlaw11_PolicyLeads.Pure := by
  intro a0 l1 w0 _ _ hw
  have b0 := wf_i64 w0
  refine ⟨400, ?_⟩
  unfold hatstandlaw11_PolicyLeads.f
  simp only [pol_shown, bs, if_true, hatstandlaw11_PolicyLeads.j0]
  by_cases hl : (l1.length : Int) > 300
  · simp [hl]
  · obtain ⟨p, hp, hp0, hp1⟩ := pick_of a0 17 (by omega) (by omega) (by omega)
    obtain ⟨r, e, hr, hR⟩ := run_any p l1 399 hp0 (by omega) (by omega) (by omega) hw
    simp only [hl, decide_false, Bool.false_eq_true, if_false, hp, bs, hr]
    have u1 := (after3 hR).2
    have u2 := (after3 u1).2
    have u3 := (after3 u2).2
    have u4 := (after3 u3).2
    have u5 := (after3 u4).2
    have d1 := (after4 hR).2
    have d2 := (after4 d1).2
    have d3 := (after4 d2).2
    have d4 := (after4 d3).2
    have d5 := (after4 d4).2
    rw [leads_step 398 (by omega) (by omega) hR hR, leads_step 397 (by omega) (by omega) u1 d1, leads_step 396 (by omega) (by omega) u2 d2, leads_step 395 (by omega) (by omega) u3 d3, leads_step 394 (by omega) (by omega) u4 d4]
    obtain ⟨n0, n1, lo, hi', e0, e1⟩ := hR
    refine leads_end 393 u5 d5 ?_ ?_
    · clear u1 u2 u3 u4 u5 d1 d2 d3 d4 d5
      unfold mn at *; omega
    · clear u1 u2 u3 u4 u5 d1 d2 d3 d4 d5
      unfold mx mn at *; omega
end Go.Proofs.Ytbcbmpklehobcaa.Pure
