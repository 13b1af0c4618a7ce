/- Walks, written by a program for this claim: each Go function that the laws reach comes to what its Lean function says. -/
import Derived.Test.YtmdjmfbinjnlcaaPx0
import Derived.Test.YtmdjmfbinjnlcaaPx8
namespace Go.Proofs.Ytmdjmfbinjnlcaa.P
open Go.RowKit Go.Proofs.YtmdjmfbinjnlcaaW.PrintWords Go.Proofs.YtmdjmfbinjnlcaaW.PrintLast Go.Proofs.YtmdjmfbinjnlcaaW.PrintMore
attribute [local go_sem] max2_int min2_int max_two min_two max_three min_three max_four min_four   -- for this text's walks alone
set_option linter.unusedVariables false
set_option linter.unusedSimpArgs false

/-! ### hatstandref14_Calls: function 14 -/
mutual
def hatstandref14_Calls.l0 : Nat → List (S59) → List (S55) → Int → Option ((List (S55)) × Int)
  | 0, _, _, _ => none
  | k + 1, x0, x6, x7 => if x7 < (x0.length : Int) then (if 0 ≤ x7 then (if (rd_T59 x0 x7).f1 = true then (hatstandref14_Calls.l0 k x0 x6 (wrap64 (x7 + 1))) else (hatstandref14_Calls.l1 k x0 x6 x7 (wrap64 (x7 + 1)) ((rd_T59 x0 x7).f0) ((rd_T59 x0 x7).f2) ((rd_T59 x0 x7).f3) 0 x7 (-1))) else (none)) else (some (x6, 0))
def hatstandref14_Calls.l1 : Nat → List (S59) → List (S55) → Int → Int → Int → Bool → Int → Int → Int → Int → Option ((List (S55)) × Int)
  | 0, _, _, _, _, _, _, _, _, _, _ => none
  | k + 1, x0, x6, x7, x9, x164000, x164001, x164002, x164003, x164004, x164005 => if x9 < (x0.length : Int) then (hatstandref14_Calls.j2 k x0 x6 x7 x9 (decide (x164005 < 0)) x164000 x164001 x164002 x164003 x164004 x164005) else (hatstandref14_Calls.j2 k x0 x6 x7 x9 false x164000 x164001 x164002 x164003 x164004 x164005)
def hatstandref14_Calls.j2 : Nat → List (S59) → List (S55) → Int → Int → Bool → Int → Bool → Int → Int → Int → Int → Option ((List (S55)) × Int)
  | 0, _, _, _, _, _, _, _, _, _, _, _ => none
  | k + 1, x0, x6, x7, x9, x56, x164000, x164001, x164002, x164003, x164004, x164005 => if x56 = true then (if 0 ≤ x9 then (if x9 < (x0.length : Int) then (if ((rd_T59 x0 x9).f0) = x164000 then (hatstandref14_Calls.l1 k x0 x6 x7 (wrap64 (x9 + 1)) x164000 x164001 x164002 ((rd_T59 x0 x9).f4) x164004 x9) else (hatstandref14_Calls.l1 k x0 x6 x7 (wrap64 (x9 + 1)) x164000 x164001 x164002 x164003 x164004 x164005)) else (none)) else (none)) else (if x164005 ≥ 0 then (hatstandref14_Calls.j3 k x0 x6 x7 (!x164001) x164000 x164001 x164002 x164003 x164004 x164005) else (hatstandref14_Calls.j3 k x0 x6 x7 false x164000 x164001 x164002 x164003 x164004 x164005))
def hatstandref14_Calls.j3 : Nat → List (S59) → List (S55) → Int → Bool → Int → Bool → Int → Int → Int → Int → Option ((List (S55)) × Int)
  | 0, _, _, _, _, _, _, _, _, _, _ => none
  | k + 1, x0, x6, x7, x82, x164000, x164001, x164002, x164003, x164004, x164005 => if x82 = true then (if 0 ≤ x164005 then (if x164005 < (x0.length : Int) then (if x6.length < 2932031007402 then (hatstandref14_Calls.l0 k x0 (x6 ++ [(⟨x164000, x164001, (rd_T59 x0 x164005).f3, x164003, x164004, x164005⟩ : S55)]) (wrap64 (x7 + 1))) else (none)) else (none)) else (none)) else (if x6.length < 2932031007402 then (hatstandref14_Calls.l0 k x0 (x6 ++ [(⟨x164000, x164001, x164002, x164003, x164004, x164005⟩ : S55)]) (wrap64 (x7 + 1))) else (none))
end
def hatstandref14_Calls.f (k : Nat) (l0 : List (S59)) : Option ((List (S55)) × Int) := (hatstandref14_Check.f k l0).bind fun bt157 => (if bt157.2 = 0 then (hatstandref14_Calls.l0 k l0 ([] : List (S55)) 0) else (some (([] : List (S55)), bt157.2)))
theorem hatstandref14_Calls.mono_l : ∀ k, (∀ y0 y1 y2, LeO (hatstandref14_Calls.l0 k y0 y1 y2) (hatstandref14_Calls.l0 (k + 1) y0 y1 y2)) ∧ (∀ y0 y1 y2 y3 y4 y5 y6 y7 y8 y9, LeO (hatstandref14_Calls.l1 k y0 y1 y2 y3 y4 y5 y6 y7 y8 y9) (hatstandref14_Calls.l1 (k + 1) y0 y1 y2 y3 y4 y5 y6 y7 y8 y9)) ∧ (∀ y0 y1 y2 y3 y4 y5 y6 y7 y8 y9 y10, LeO (hatstandref14_Calls.j2 k y0 y1 y2 y3 y4 y5 y6 y7 y8 y9 y10) (hatstandref14_Calls.j2 (k + 1) y0 y1 y2 y3 y4 y5 y6 y7 y8 y9 y10)) ∧ (∀ y0 y1 y2 y3 y4 y5 y6 y7 y8 y9, LeO (hatstandref14_Calls.j3 k y0 y1 y2 y3 y4 y5 y6 y7 y8 y9) (hatstandref14_Calls.j3 (k + 1) y0 y1 y2 y3 y4 y5 y6 y7 y8 y9))
  | 0 => ⟨fun _ _ _ r h => by simp [hatstandref14_Calls.l0] at h, fun _ _ _ _ _ _ _ _ _ _ r h => by simp [hatstandref14_Calls.l1] at h, fun _ _ _ _ _ _ _ _ _ _ _ r h => by simp [hatstandref14_Calls.j2] at h, fun _ _ _ _ _ _ _ _ _ _ r h => by simp [hatstandref14_Calls.j3] at h⟩
  | k + 1 => by
    obtain ⟨ih0, ih1, ih2, ih3⟩ := hatstandref14_Calls.mono_l k
    refine ⟨?_, ?_, ?_, ?_⟩
    · intro y0 y1 y2
      unfold hatstandref14_Calls.l0
      repeat' first
      | (with_reducible exact ih0 _ _ _)
      | (with_reducible exact ih1 _ _ _ _ _ _ _ _ _ _)
      | (with_reducible exact ih2 _ _ _ _ _ _ _ _ _ _ _)
      | (with_reducible exact ih3 _ _ _ _ _ _ _ _ _ _)
      | (with_reducible exact hatstandref14_Check.mono _ _)
      | (with_reducible exact LeO.refl _)
      | (with_reducible exact LeO.none _)
      | (with_reducible refine LeO.ite ?_ ?_)
      | (with_reducible refine LeO.bind ?_ (fun _ => ?_))
      | exact ih0 _ _ _
      | exact ih1 _ _ _ _ _ _ _ _ _ _
      | exact ih2 _ _ _ _ _ _ _ _ _ _ _
      | exact ih3 _ _ _ _ _ _ _ _ _ _
      | exact hatstandref14_Check.mono _ _
      | exact LeO.none _
      | refine LeO.ite ?_ ?_
      | refine LeO.bind ?_ (fun _ => ?_)
    · intro y0 y1 y2 y3 y4 y5 y6 y7 y8 y9
      unfold hatstandref14_Calls.l1
      repeat' first
      | (with_reducible exact ih0 _ _ _)
      | (with_reducible exact ih1 _ _ _ _ _ _ _ _ _ _)
      | (with_reducible exact ih2 _ _ _ _ _ _ _ _ _ _ _)
      | (with_reducible exact ih3 _ _ _ _ _ _ _ _ _ _)
      | (with_reducible exact hatstandref14_Check.mono _ _)
      | (with_reducible exact LeO.refl _)
      | (with_reducible exact LeO.none _)
      | (with_reducible refine LeO.ite ?_ ?_)
      | (with_reducible refine LeO.bind ?_ (fun _ => ?_))
      | exact ih0 _ _ _
      | exact ih1 _ _ _ _ _ _ _ _ _ _
      | exact ih2 _ _ _ _ _ _ _ _ _ _ _
      | exact ih3 _ _ _ _ _ _ _ _ _ _
      | exact hatstandref14_Check.mono _ _
      | exact LeO.none _
      | refine LeO.ite ?_ ?_
      | refine LeO.bind ?_ (fun _ => ?_)
    · intro y0 y1 y2 y3 y4 y5 y6 y7 y8 y9 y10
      unfold hatstandref14_Calls.j2
      repeat' first
      | (with_reducible exact ih0 _ _ _)
      | (with_reducible exact ih1 _ _ _ _ _ _ _ _ _ _)
      | (with_reducible exact ih2 _ _ _ _ _ _ _ _ _ _ _)
      | (with_reducible exact ih3 _ _ _ _ _ _ _ _ _ _)
      | (with_reducible exact hatstandref14_Check.mono _ _)
      | (with_reducible exact LeO.refl _)
      | (with_reducible exact LeO.none _)
      | (with_reducible refine LeO.ite ?_ ?_)
      | (with_reducible refine LeO.bind ?_ (fun _ => ?_))
      | exact ih0 _ _ _
      | exact ih1 _ _ _ _ _ _ _ _ _ _
      | exact ih2 _ _ _ _ _ _ _ _ _ _ _
      | exact ih3 _ _ _ _ _ _ _ _ _ _
      | exact hatstandref14_Check.mono _ _
      | exact LeO.none _
      | refine LeO.ite ?_ ?_
      | refine LeO.bind ?_ (fun _ => ?_)
    · intro y0 y1 y2 y3 y4 y5 y6 y7 y8 y9
      unfold hatstandref14_Calls.j3
      repeat' first
      | (with_reducible exact ih0 _ _ _)
      | (with_reducible exact ih1 _ _ _ _ _ _ _ _ _ _)
      | (with_reducible exact ih2 _ _ _ _ _ _ _ _ _ _ _)
      | (with_reducible exact ih3 _ _ _ _ _ _ _ _ _ _)
      | (with_reducible exact hatstandref14_Check.mono _ _)
      | (with_reducible exact LeO.refl _)
      | (with_reducible exact LeO.none _)
      | (with_reducible refine LeO.ite ?_ ?_)
      | (with_reducible refine LeO.bind ?_ (fun _ => ?_))
      | exact ih0 _ _ _
      | exact ih1 _ _ _ _ _ _ _ _ _ _
      | exact ih2 _ _ _ _ _ _ _ _ _ _ _
      | exact ih3 _ _ _ _ _ _ _ _ _ _
      | exact hatstandref14_Check.mono _ _
      | exact LeO.none _
      | refine LeO.ite ?_ ?_
      | refine LeO.bind ?_ (fun _ => ?_)
theorem hatstandref14_Calls.mono : ∀ a0 k, LeO (hatstandref14_Calls.f k a0) (hatstandref14_Calls.f (k + 1) a0) := by
  intro a0 k
  obtain ⟨ih0, ih1, ih2, ih3⟩ := hatstandref14_Calls.mono_l k
  unfold hatstandref14_Calls.f
  repeat' first
      | (with_reducible exact ih0 _ _ _)
      | (with_reducible exact ih1 _ _ _ _ _ _ _ _ _ _)
      | (with_reducible exact ih2 _ _ _ _ _ _ _ _ _ _ _)
      | (with_reducible exact ih3 _ _ _ _ _ _ _ _ _ _)
      | (with_reducible exact hatstandref14_Check.mono _ _)
      | (with_reducible exact LeO.refl _)
      | (with_reducible exact LeO.none _)
      | (with_reducible refine LeO.ite ?_ ?_)
      | (with_reducible refine LeO.bind ?_ (fun _ => ?_))
      | exact ih0 _ _ _
      | exact ih1 _ _ _ _ _ _ _ _ _ _
      | exact ih2 _ _ _ _ _ _ _ _ _ _ _
      | exact ih3 _ _ _ _ _ _ _ _ _ _
      | exact hatstandref14_Check.mono _ _
      | exact LeO.none _
      | refine LeO.ite ?_ ?_
      | refine LeO.bind ?_ (fun _ => ?_)
def hatstandref14_Calls.T9 : Bool × List (List Nat × List Nat) := (true, [([], []), ([], []), ([0, 1], [0, 1]), ([2], [2]), ([3], [3]), ([], []), ([], []), ([5, 6], [5, 6]), ([7], [7]), ([8], [8]), ([], []), ([], []), ([10, 11], [10, 11]), ([12], [12]), ([13], [13]), ([], []), ([4, 9, 14, 15], [4, 9, 14, 15]), ([], []), ([17, 16, 0, 1, 2, 3, 4, 5, 6, 7, 8, 9, 10, 11, 12, 13, 14, 15, 16, 17], [16, 17])])
def hatstandref14_Calls.B9 : List Nat := [0, 0, 3, 7, 15, 0, 0, 96, 224, 480, 0, 0, 3072, 7168, 15360, 0, 65535, 0, 262143]
theorem hatstandref14_Calls.tab9 : rtab .any (opsOf Try.f14 9) = hatstandref14_Calls.T9 := by kernel_rfl
theorem hatstandref14_Calls.bits9 : waitsOk hatstandref14_Calls.T9.2 hatstandref14_Calls.B9 = true := by kernel_rfl
def hatstandref14_Calls.T13 : Bool × List (List Nat × List Nat) := (true, [([], []), ([], []), ([0, 1], [0, 1]), ([2], [2]), ([3], [3]), ([], []), ([5], [5]), ([4, 6], [4, 6])])
def hatstandref14_Calls.B13 : List Nat := [0, 0, 3, 7, 15, 0, 32, 127]
theorem hatstandref14_Calls.tab13 : rtab .any (opsOf Try.f14 13) = hatstandref14_Calls.T13 := by kernel_rfl
theorem hatstandref14_Calls.bits13 : waitsOk hatstandref14_Calls.T13.2 hatstandref14_Calls.B13 = true := by kernel_rfl
set_option maxHeartbeats 8000000 in
set_option maxRecDepth 100000 in
theorem hatstandref14_Calls.calls (k : Nat) (A0 : Option Addr) (c0 : Nat) (l0 : List (S59)) (r1 : List (S55)) (r2 : Int) (w : World) (hr0 : Kd.C k59 w A0 l0.length l0) (hc0 : l0.length ≤ c0) (h : hatstandref14_Calls.f k l0 = some (r1, r2)) :
    Calls Try.prog 14 #[.slice A0 l0.length c0] w fun e w' => ∃ v0_ : Value, e = .returned (.tuple #[v0_, .int .i64 r2]) ∧ Kd.R k55 55 w' w.heap.size (fun _ => True) v0_ r1 ∧ Below w.heap.size w w' := by
  have hu55 := Try.underlying55
  have HR0 := Aside0.mk hr0
  have HC0 := Aside0.mk hc0
  clear hr0 hc0
  have HB := Aside0.mk (Below.refl w.heap.size w)
  have H : ((hatstandref14_Check.f k l0).bind fun bt157 => (if bt157.2 = 0 then (hatstandref14_Calls.l0 k l0 ([] : List (S55)) 0) else (some (([] : List (S55)), bt157.2)))) = some (r1, r2) := h
  clear h
  replace H := Option.bind_eq_some_iff.mp H
  obtain ⟨⟨t157, t158⟩, A20, H⟩ := H
  replace H : (if t158 = 0 then (hatstandref14_Calls.l0 k l0 ([] : List (S55)) 0) else (some (([] : List (S55)), t158))) = some (r1, r2) := H
  have A2 := Aside0.mk A20
  clear A20
  by_cases c3 : t158 = 0
  · rw [if_pos c3] at H
    have c3b0 : (t158 == 0) = true := beq_iff_eq.mpr c3
    have c3b1 : (t158 != 0) = false := bne_eq_false_iff_eq.mpr c3
    clear c3
    have H' := Aside0.mk H
    clear H
    go_enter Try.func14, Try.ntmps14
    go_wp2_with (first | ((with_reducible refine gate_callee (f := 11) rfl ?_); refine goesL_ (some 12) rfl rfl Try.func11 (by kernel_rfl) rfl #[.slice A0 l0.length c0] rfl (by (try simp only [List.map_toArray, List.map_cons, List.map_nil]); first | done | rfl | (simp only [List.length_drop, List.length_take]; rfl)) ?_; (with_reducible refine (hatstandref14_Check.calls k _ _ l0 t157 t158 _ ?side1 ?side2 A2.out).mono ?_); (case side1 => repeat (first | exact HR0.out | (with_reducible refine Kd.C_alloc ?_ _) | (with_reducible refine Kd.C_drewN ?_ _) | (with_reducible refine Kd.C_drew ?_))); (case side2 => exact HC0.out); rintro e w4 ⟨rfl, hb⟩; refine ⟨_, rfl, ?_⟩; have n0_ := Aside0.mk (below_step (by repeat (first | (with_reducible first | exact HB.out | apply below_alloc | apply pw_below_drewN | apply below_drew1) | exact HB.out)) hb); clear HB; have HB := n0_; clear n0_; (try clear hb); (try clear hb2); (try clear hk); (try clear hi)))
    go_loopg [6, 7] k (fun kq v6 v7 w' => ∃ (x6_1 : List (S55)) (x7_1 : Int), v7 = .int .i64 x7_1 ∧ Aside0 (hatstandref14_Calls.l0 kq l0 x6_1 x7_1 = some (r1, r2)) ∧ Aside0 (kq ≤ k) ∧ Aside0 (Kd.R k55 55 w' w.heap.size (fun _ => True) v6 x6_1) ∧ Aside0 (Below w.heap.size w w'))
    case atStart => exact ⟨(([] : List (S55))), (0), (by first | rfl | (simp; done) | (simp [*]; done)), H', ⟨Nat.le_refl _⟩, ⟨by first | exact Kd.R_nil _ _ _ _ _ | exact Kd.N_nil _ _ _ _ _ | exact Kd.V_nil _ _ _ _ _ | exact Kd.Q_nil _ _ _ _ _ | exact Kd.S_nil _ _ _ _ _⟩, ⟨by repeat (first | (with_reducible first | exact HB.out | apply below_alloc | apply pw_below_drewN | apply below_drew1) | exact HB.out)⟩⟩
    case round =>
      clear H'
      try clear c1
      try clear p2
      try clear c3
      try clear c3b0
      try clear c3b1
      obtain ⟨x6_1, x7_1, rfl, HA, HK1, HO_6, HB⟩ := hrel
      cases gk with
      | zero => exact absurd HA.out (by simp [hatstandref14_Calls.l0])
      | succ k1 =>
        have H := HA.out
        clear HA
        simp only [hatstandref14_Calls.l0] at H
        by_cases c5 : x7_1 < (l0.length : Int)
        · rw [if_pos c5] at H
          have c5b0 : decide (x7_1 < (l0.length : Int)) = true := decide_eq_true c5
          clear c5
          by_cases c6 : 0 ≤ x7_1
          · rw [if_pos c6] at H
            have c6b0 : decide (0 ≤ x7_1) = true := decide_eq_true c6
            clear c6
            obtain ⟨bq7, hbq7⟩ : ∃ b_ : Bool, b_ = ((rd_T59 l0 x7_1).f1) := ⟨_, rfl⟩
            replace H : (if bq7 = true then (hatstandref14_Calls.l0 k1 l0 x6_1 (wrap64 (x7_1 + 1))) else (hatstandref14_Calls.l1 k1 l0 x6_1 x7_1 (wrap64 (x7_1 + 1)) ((rd_T59 l0 x7_1).f0) ((rd_T59 l0 x7_1).f2) ((rd_T59 l0 x7_1).f3) 0 x7_1 (-1))) = some (r1, r2) := by rw [← hbq7] at H; exact H
            have Nbq7 := Aside0.mk hbq7
            clear hbq7
            by_cases c8 : bq7 = true
            · subst c8
              have H1 : (hatstandref14_Calls.l0 k1 l0 x6_1 (wrap64 (x7_1 + 1))) = some (r1, r2) := by rw [if_pos rfl] at H; exact H
              clear H
              have H := H1
              clear H1
              have H' := Aside0.mk H
              clear H
              have p159 : 0 ≤ (x7_1 : Int) := of_decide_eq_true (by first | (with_reducible assumption) | assumption)
              have q159 : x7_1 < (l0.length : Int) := of_decide_eq_true (by first | (with_reducible assumption) | assumption)
              obtain ⟨ad159, e159, hx159_0, hx159_1, hx159_2, hx159_3, hx159_4⟩ := at_T59 HR0.out x7_1 p159 q159
              (try rw [← Nbq7.out] at hx159_1)
              (try rw [← Nbq7.out] at hw159_1)
              (try rw [← Nbq7.out] at hx159_2)
              (try rw [← Nbq7.out] at hw159_2)
              cases e159
              replace hx159_0 := (HB.out.cell (World.block_lt_of_cell? w _ hx159_0)).trans hx159_0
              replace hx159_1 := (HB.out.cell (World.block_lt_of_cell? w _ hx159_1)).trans hx159_1
              replace hx159_2 := (HB.out.cell (World.block_lt_of_cell? w _ hx159_2)).trans hx159_2
              replace hx159_3 := (HB.out.cell (World.block_lt_of_cell? w _ hx159_3)).trans hx159_3
              replace hx159_4 := (HB.out.cell (World.block_lt_of_cell? w _ hx159_4)).trans hx159_4
              replace p159 := eq_true p159
              replace q159 := eq_true q159
              go_wp2
              go_roundg k1
              case measure => have := HK1.out; omega
              case rel => exact ⟨(x6_1), (wrap64 (x7_1 + 1)), (by first | rfl | (simp; done) | (simp [*]; done)), H', ⟨by have := HK1.out; omega⟩, ⟨by (with_reducible repeat (first | apply Kd.R_alloc | apply Kd.R_drewN | apply Kd.R_drew)); exact HO_6.out⟩, ⟨by repeat (first | (with_reducible first | exact HB.out | apply below_alloc | apply pw_below_drewN | apply below_drew1) | exact HB.out)⟩⟩
            · replace c8 := Bool.eq_false_iff.mpr c8
              subst c8
              have H1 : (hatstandref14_Calls.l1 k1 l0 x6_1 x7_1 (wrap64 (x7_1 + 1)) ((rd_T59 l0 x7_1).f0) ((rd_T59 l0 x7_1).f2) ((rd_T59 l0 x7_1).f3) 0 x7_1 (-1)) = some (r1, r2) := by rw [if_neg (show ¬ (false = true) by decide)] at H; exact H
              clear H
              have H := H1
              clear H1
              have H' := Aside0.mk H
              clear H
              have p159 : 0 ≤ (x7_1 : Int) := of_decide_eq_true (by first | (with_reducible assumption) | assumption)
              have q159 : x7_1 < (l0.length : Int) := of_decide_eq_true (by first | (with_reducible assumption) | assumption)
              obtain ⟨ad159, e159, hx159_0, hx159_1, hx159_2, hx159_3, hx159_4⟩ := at_T59 HR0.out x7_1 p159 q159
              (try rw [← Nbq7.out] at hx159_1)
              (try rw [← Nbq7.out] at hw159_1)
              (try rw [← Nbq7.out] at hx159_2)
              (try rw [← Nbq7.out] at hw159_2)
              cases e159
              replace hx159_0 := (HB.out.cell (World.block_lt_of_cell? w _ hx159_0)).trans hx159_0
              replace hx159_1 := (HB.out.cell (World.block_lt_of_cell? w _ hx159_1)).trans hx159_1
              replace hx159_2 := (HB.out.cell (World.block_lt_of_cell? w _ hx159_2)).trans hx159_2
              replace hx159_3 := (HB.out.cell (World.block_lt_of_cell? w _ hx159_3)).trans hx159_3
              replace hx159_4 := (HB.out.cell (World.block_lt_of_cell? w _ hx159_4)).trans hx159_4
              replace p159 := eq_true p159
              replace q159 := eq_true q159
              try go_wp2
              have n0_ := Aside0.mk (Kd.R_drew HO_6.out)
              have n1_ := Aside0.mk (below_drew1 HB.out)
              clear HO_6
              clear HB
              have HO_6 := n0_
              have HB := n1_
              clear n0_ n1_
              have p160 : 0 ≤ (x7_1 : Int) := of_decide_eq_true (by first | (with_reducible assumption) | assumption)
              have q160 : x7_1 < (l0.length : Int) := of_decide_eq_true (by first | (with_reducible assumption) | assumption)
              obtain ⟨ad160, e160, hx160_0, hx160_1, hx160_2, hx160_3, hx160_4⟩ := at_T59 HR0.out x7_1 p160 q160
              have hw160_4 := hx160_4
              have hw160_3 := hx160_3
              have hw160_2 := hx160_2
              have hw160_1 := hx160_1
              have hw160_0 := hx160_0
              (try rw [← Nbq7.out] at hx160_1)
              (try rw [← Nbq7.out] at hw160_1)
              (try rw [← Nbq7.out] at hx160_2)
              (try rw [← Nbq7.out] at hw160_2)
              obtain rfl : ad159 = ad160 := (by injection e160)
              replace hx160_0 := (HB.out.cell (World.block_lt_of_cell? w _ hx160_0)).trans hx160_0
              replace hx160_1 := (HB.out.cell (World.block_lt_of_cell? w _ hx160_1)).trans hx160_1
              replace hx160_2 := (HB.out.cell (World.block_lt_of_cell? w _ hx160_2)).trans hx160_2
              replace hx160_3 := (HB.out.cell (World.block_lt_of_cell? w _ hx160_3)).trans hx160_3
              replace hx160_4 := (HB.out.cell (World.block_lt_of_cell? w _ hx160_4)).trans hx160_4
              replace p160 := eq_true p160
              replace q160 := eq_true q160
              have p161 : 0 ≤ (x7_1 : Int) := of_decide_eq_true (by first | (with_reducible assumption) | assumption)
              have q161 : x7_1 < (l0.length : Int) := of_decide_eq_true (by first | (with_reducible assumption) | assumption)
              obtain ⟨ad161, e161, hx161_0, hx161_1, hx161_2, hx161_3, hx161_4⟩ := at_T59 HR0.out x7_1 p161 q161
              have hw161_4 := hx161_4
              have hw161_3 := hx161_3
              have hw161_2 := hx161_2
              have hw161_1 := hx161_1
              have hw161_0 := hx161_0
              (try rw [← Nbq7.out] at hx161_1)
              (try rw [← Nbq7.out] at hw161_1)
              (try rw [← Nbq7.out] at hx161_2)
              (try rw [← Nbq7.out] at hw161_2)
              obtain rfl : ad159 = ad161 := (by injection e161)
              replace hx161_0 := (HB.out.cell (World.block_lt_of_cell? w _ hx161_0)).trans hx161_0
              replace hx161_1 := (HB.out.cell (World.block_lt_of_cell? w _ hx161_1)).trans hx161_1
              replace hx161_2 := (HB.out.cell (World.block_lt_of_cell? w _ hx161_2)).trans hx161_2
              replace hx161_3 := (HB.out.cell (World.block_lt_of_cell? w _ hx161_3)).trans hx161_3
              replace hx161_4 := (HB.out.cell (World.block_lt_of_cell? w _ hx161_4)).trans hx161_4
              replace p161 := eq_true p161
              replace q161 := eq_true q161
              have p162 : 0 ≤ (x7_1 : Int) := of_decide_eq_true (by first | (with_reducible assumption) | assumption)
              have q162 : x7_1 < (l0.length : Int) := of_decide_eq_true (by first | (with_reducible assumption) | assumption)
              obtain ⟨ad162, e162, hx162_0, hx162_1, hx162_2, hx162_3, hx162_4⟩ := at_T59 HR0.out x7_1 p162 q162
              have hw162_4 := hx162_4
              have hw162_3 := hx162_3
              have hw162_2 := hx162_2
              have hw162_1 := hx162_1
              have hw162_0 := hx162_0
              (try rw [← Nbq7.out] at hx162_1)
              (try rw [← Nbq7.out] at hw162_1)
              (try rw [← Nbq7.out] at hx162_2)
              (try rw [← Nbq7.out] at hw162_2)
              obtain rfl : ad159 = ad162 := (by injection e162)
              replace hx162_0 := (HB.out.cell (World.block_lt_of_cell? w _ hx162_0)).trans hx162_0
              replace hx162_1 := (HB.out.cell (World.block_lt_of_cell? w _ hx162_1)).trans hx162_1
              replace hx162_2 := (HB.out.cell (World.block_lt_of_cell? w _ hx162_2)).trans hx162_2
              replace hx162_3 := (HB.out.cell (World.block_lt_of_cell? w _ hx162_3)).trans hx162_3
              replace hx162_4 := (HB.out.cell (World.block_lt_of_cell? w _ hx162_4)).trans hx162_4
              replace p162 := eq_true p162
              replace q162 := eq_true q162
              refine start_ (n := 19) (S := fun w' => w'.cell? (ad159.add ((x7_1).toNat * 5)) = some (.int .i64 ((rd_T59 l0 x7_1).f0)) ∧ w'.cell? ⟨(ad159.add ((x7_1).toNat * 5)).block, (ad159.add ((x7_1).toNat * 5)).off + 1, none⟩ = some (.bool (false)) ∧ w'.cell? ⟨(ad159.add ((x7_1).toNat * 5)).block, (ad159.add ((x7_1).toNat * 5)).off + 2, none⟩ = some (.bool ((rd_T59 l0 x7_1).f2)) ∧ w'.cell? ⟨(ad159.add ((x7_1).toNat * 5)).block, (ad159.add ((x7_1).toNat * 5)).off + 3, none⟩ = some (.int .u64 ((rd_T59 l0 x7_1).f3)) ∧ w'.cell? ⟨(ad159.add ((x7_1).toNat * 5)).block, (ad159.add ((x7_1).toNat * 5)).off + 4, none⟩ = some (.int .i64 ((rd_T59 l0 x7_1).f4)) ∧ w'.cell? (ad159.add ((x7_1).toNat * 5)) = some (.int .i64 ((rd_T59 l0 x7_1).f0)) ∧ w'.cell? ⟨(ad159.add ((x7_1).toNat * 5)).block, (ad159.add ((x7_1).toNat * 5)).off + 1, none⟩ = some (.bool (false)) ∧ w'.cell? ⟨(ad159.add ((x7_1).toNat * 5)).block, (ad159.add ((x7_1).toNat * 5)).off + 2, none⟩ = some (.bool ((rd_T59 l0 x7_1).f2)) ∧ w'.cell? ⟨(ad159.add ((x7_1).toNat * 5)).block, (ad159.add ((x7_1).toNat * 5)).off + 3, none⟩ = some (.int .u64 ((rd_T59 l0 x7_1).f3)) ∧ w'.cell? ⟨(ad159.add ((x7_1).toNat * 5)).block, (ad159.add ((x7_1).toNat * 5)).off + 4, none⟩ = some (.int .i64 ((rd_T59 l0 x7_1).f4)) ∧ w'.cell? (ad159.add ((x7_1).toNat * 5)) = some (.int .i64 ((rd_T59 l0 x7_1).f0)) ∧ w'.cell? ⟨(ad159.add ((x7_1).toNat * 5)).block, (ad159.add ((x7_1).toNat * 5)).off + 1, none⟩ = some (.bool (false)) ∧ w'.cell? ⟨(ad159.add ((x7_1).toNat * 5)).block, (ad159.add ((x7_1).toNat * 5)).off + 2, none⟩ = some (.bool ((rd_T59 l0 x7_1).f2)) ∧ w'.cell? ⟨(ad159.add ((x7_1).toNat * 5)).block, (ad159.add ((x7_1).toNat * 5)).off + 3, none⟩ = some (.int .u64 ((rd_T59 l0 x7_1).f3)) ∧ w'.cell? ⟨(ad159.add ((x7_1).toNat * 5)).block, (ad159.add ((x7_1).toNat * 5)).off + 4, none⟩ = some (.int .i64 ((rd_T59 l0 x7_1).f4))) (ds := []) #[false, false, false, false, false, false, false, false, false, false, false, false, false, false, false, false, false, false, false] (by kernel_rfl) rfl rfl ⟨((HB.out.cell (World.block_lt_of_cell? w _ hw160_0)).trans hw160_0), ((HB.out.cell (World.block_lt_of_cell? w _ hw160_1)).trans hw160_1), ((HB.out.cell (World.block_lt_of_cell? w _ hw160_2)).trans hw160_2), ((HB.out.cell (World.block_lt_of_cell? w _ hw160_3)).trans hw160_3), ((HB.out.cell (World.block_lt_of_cell? w _ hw160_4)).trans hw160_4), ((HB.out.cell (World.block_lt_of_cell? w _ hw161_0)).trans hw161_0), ((HB.out.cell (World.block_lt_of_cell? w _ hw161_1)).trans hw161_1), ((HB.out.cell (World.block_lt_of_cell? w _ hw161_2)).trans hw161_2), ((HB.out.cell (World.block_lt_of_cell? w _ hw161_3)).trans hw161_3), ((HB.out.cell (World.block_lt_of_cell? w _ hw161_4)).trans hw161_4), ((HB.out.cell (World.block_lt_of_cell? w _ hw162_0)).trans hw162_0), ((HB.out.cell (World.block_lt_of_cell? w _ hw162_1)).trans hw162_1), ((HB.out.cell (World.block_lt_of_cell? w _ hw162_2)).trans hw162_2), ((HB.out.cell (World.block_lt_of_cell? w _ hw162_3)).trans hw162_3), ((HB.out.cell (World.block_lt_of_cell? w _ hw162_4)).trans hw162_4)⟩ (fun hHeld => ?_); refine with_tabW hatstandref14_Calls.tab9 hatstandref14_Calls.bits9 (fun HT_ HW_ => ?_)
              generalize wr.drew = w9 at HO_6 HB hx160_0 hx160_1 hx160_2 hx160_3 hx160_4 hx161_0 hx161_1 hx161_2 hx161_3 hx161_4 hx162_0 hx162_1 hx162_2 hx162_3 hx162_4 hHeld ⊢
              refine pure_ (i := 0) (N := some 29) (v := ?_) (a' := ?_) #[true, false, false, false, false, false, false, false, false, false, false, false, false, false, false, false, false, false, false] rfl rfl (any_of HT_.out (by kernel_rfl)) (fun _ _ _ h => h) (Or.inl ⟨by rfl, ?_⟩) ?_ ?_
              rotate_left
              · intro w'
                go_simp
                with_reducible rfl
              rotate_left
              · simp only [Act.put, List.setIfInBounds_toArray, List.set_cons_zero, List.set_cons_succ, i64_w, i32_w, Go.IntKind.wrap_u32]
                rfl
              refine pure_ (i := 1) (N := some 30) (v := ?_) (a' := ?_) #[true, true, false, false, false, false, false, false, false, false, false, false, false, false, false, false, false, false, false] rfl rfl (any_of HT_.out (by kernel_rfl)) (fun _ _ _ h => h) (Or.inl ⟨by rfl, ?_⟩) ?_ ?_
              rotate_left
              · intro w'
                go_simp
                with_reducible rfl
              rotate_left
              · simp only [Act.put, List.setIfInBounds_toArray, List.set_cons_zero, List.set_cons_succ, i64_w, i32_w, Go.IntKind.wrap_u32]
                rfl
              refine pure_ (i := 2) (N := some 31) (v := ?_) (a' := ?_) #[true, true, true, false, false, false, false, false, false, false, false, false, false, false, false, false, false, false, false] rfl rfl (any_of HT_.out (by kernel_rfl)) (fun _ _ _ h => h) (Or.inl ⟨by rfl, ?_⟩) ?_ ?_
              rotate_left
              · intro w'
                go_simp
                with_reducible rfl
              rotate_left
              · simp only [Act.put, List.setIfInBounds_toArray, List.set_cons_zero, List.set_cons_succ, i64_w, i32_w, Go.IntKind.wrap_u32]
                rfl
              refine pure_ (i := 3) (N := some 32) (v := ?_) (a' := ?_) #[true, true, true, true, false, false, false, false, false, false, false, false, false, false, false, false, false, false, false] rfl rfl (any_of HT_.out (by kernel_rfl)) (fun _ _ _ h => h) (Or.inl ⟨by rfl, ?_⟩) ?_ ?_
              rotate_left
              · intro w'
                go_simp
                with_reducible rfl
              rotate_left
              · simp only [Act.put, List.setIfInBounds_toArray, List.set_cons_zero, List.set_cons_succ, i64_w, i32_w, Go.IntKind.wrap_u32]
                rfl
              refine pure_ (i := 5) (N := some 34) (v := ?_) (a' := ?_) #[true, true, true, true, false, true, false, false, false, false, false, false, false, false, false, false, false, false, false] rfl rfl (any_of HT_.out (by kernel_rfl)) (fun _ _ _ h => h) (Or.inl ⟨by rfl, ?_⟩) ?_ ?_
              rotate_left
              · intro w'
                go_simp
                with_reducible rfl
              rotate_left
              · simp only [Act.put, List.setIfInBounds_toArray, List.set_cons_zero, List.set_cons_succ, i64_w, i32_w, Go.IntKind.wrap_u32]
                rfl
              refine pure_ (i := 6) (N := some 35) (v := ?_) (a' := ?_) #[true, true, true, true, false, true, true, false, false, false, false, false, false, false, false, false, false, false, false] rfl rfl (any_of HT_.out (by kernel_rfl)) (fun _ _ _ h => h) (Or.inl ⟨by rfl, ?_⟩) ?_ ?_
              rotate_left
              · intro w'
                go_simp
                with_reducible rfl
              rotate_left
              · simp only [Act.put, List.setIfInBounds_toArray, List.set_cons_zero, List.set_cons_succ, i64_w, i32_w, Go.IntKind.wrap_u32]
                rfl
              refine pure_ (i := 7) (N := some 36) (v := ?_) (a' := ?_) #[true, true, true, true, false, true, true, true, false, false, false, false, false, false, false, false, false, false, false] rfl rfl (any_of HT_.out (by kernel_rfl)) (fun _ _ _ h => h) (Or.inl ⟨by rfl, ?_⟩) ?_ ?_
              rotate_left
              · intro w'
                go_simp
                with_reducible rfl
              rotate_left
              · simp only [Act.put, List.setIfInBounds_toArray, List.set_cons_zero, List.set_cons_succ, i64_w, i32_w, Go.IntKind.wrap_u32]
                rfl
              refine pure_ (i := 8) (N := some 37) (v := ?_) (a' := ?_) #[true, true, true, true, false, true, true, true, true, false, false, false, false, false, false, false, false, false, false] rfl rfl (any_of HT_.out (by kernel_rfl)) (fun _ _ _ h => h) (Or.inl ⟨by rfl, ?_⟩) ?_ ?_
              rotate_left
              · intro w'
                go_simp
                with_reducible rfl
              rotate_left
              · simp only [Act.put, List.setIfInBounds_toArray, List.set_cons_zero, List.set_cons_succ, i64_w, i32_w, Go.IntKind.wrap_u32]
                rfl
              refine pure_ (i := 10) (N := some 39) (v := ?_) (a' := ?_) #[true, true, true, true, false, true, true, true, true, false, true, false, false, false, false, false, false, false, false] rfl rfl (any_of HT_.out (by kernel_rfl)) (fun _ _ _ h => h) (Or.inl ⟨by rfl, ?_⟩) ?_ ?_
              rotate_left
              · intro w'
                go_simp
                with_reducible rfl
              rotate_left
              · simp only [Act.put, List.setIfInBounds_toArray, List.set_cons_zero, List.set_cons_succ, i64_w, i32_w, Go.IntKind.wrap_u32]
                rfl
              refine pure_ (i := 11) (N := some 40) (v := ?_) (a' := ?_) #[true, true, true, true, false, true, true, true, true, false, true, true, false, false, false, false, false, false, false] rfl rfl (any_of HT_.out (by kernel_rfl)) (fun _ _ _ h => h) (Or.inl ⟨by rfl, ?_⟩) ?_ ?_
              rotate_left
              · intro w'
                go_simp
                with_reducible rfl
              rotate_left
              · simp only [Act.put, List.setIfInBounds_toArray, List.set_cons_zero, List.set_cons_succ, i64_w, i32_w, Go.IntKind.wrap_u32]
                rfl
              refine pure_ (i := 12) (N := some 41) (v := ?_) (a' := ?_) #[true, true, true, true, false, true, true, true, true, false, true, true, true, false, false, false, false, false, false] rfl rfl (any_of HT_.out (by kernel_rfl)) (fun _ _ _ h => h) (Or.inl ⟨by rfl, ?_⟩) ?_ ?_
              rotate_left
              · intro w'
                go_simp
                with_reducible rfl
              rotate_left
              · simp only [Act.put, List.setIfInBounds_toArray, List.set_cons_zero, List.set_cons_succ, i64_w, i32_w, Go.IntKind.wrap_u32]
                rfl
              refine pure_ (i := 13) (N := some 42) (v := ?_) (a' := ?_) #[true, true, true, true, false, true, true, true, true, false, true, true, true, true, false, false, false, false, false] rfl rfl (any_of HT_.out (by kernel_rfl)) (fun _ _ _ h => h) (Or.inl ⟨by rfl, ?_⟩) ?_ ?_
              rotate_left
              · intro w'
                go_simp
                with_reducible rfl
              rotate_left
              · simp only [Act.put, List.setIfInBounds_toArray, List.set_cons_zero, List.set_cons_succ, i64_w, i32_w, Go.IntKind.wrap_u32]
                rfl
              refine pure_ (i := 15) (N := some 44) (v := ?_) (a' := ?_) #[true, true, true, true, false, true, true, true, true, false, true, true, true, true, false, true, false, false, false] rfl rfl (any_of HT_.out (by kernel_rfl)) (fun _ _ _ h => h) (Or.inl ⟨by rfl, ?_⟩) ?_ ?_
              rotate_left
              · intro w'
                go_simp
                with_reducible rfl
              rotate_left
              · simp only [Act.put, List.setIfInBounds_toArray, List.set_cons_zero, List.set_cons_succ, i64_w, i32_w, Go.IntKind.wrap_u32]
                rfl
              refine take_ (i := 4) (N := some 33) (v := ?_) (a' := ?_) #[true, true, true, true, true, true, true, true, true, false, true, true, true, true, false, true, false, false, false] rfl rfl (take_ofW HT_.out HW_.out (by kernel_rfl)) (fun _ _ _ h => h) (Or.inl ⟨by rfl, ?_⟩) hHeld ?_ ?_
              rotate_left
              · rintro w' ⟨s0, s1, s2, s3, s4, s5, s6, s7, s8, s9, s10, s11, s12, s13, s14⟩
                go_simp
                with_reducible rfl
              rotate_left
              · simp only [Act.put, List.setIfInBounds_toArray, List.set_cons_zero, List.set_cons_succ, i64_w, i32_w, Go.IntKind.wrap_u32]
                rfl
              refine take_ (i := 9) (N := some 38) (v := ?_) (a' := ?_) #[true, true, true, true, true, true, true, true, true, true, true, true, true, true, false, true, false, false, false] rfl rfl (take_ofW HT_.out HW_.out (by kernel_rfl)) (fun _ _ _ h => h) (Or.inl ⟨by rfl, ?_⟩) hHeld ?_ ?_
              rotate_left
              · rintro w' ⟨s0, s1, s2, s3, s4, s5, s6, s7, s8, s9, s10, s11, s12, s13, s14⟩
                go_simp
                with_reducible rfl
              rotate_left
              · simp only [Act.put, List.setIfInBounds_toArray, List.set_cons_zero, List.set_cons_succ, i64_w, i32_w, Go.IntKind.wrap_u32]
                rfl
              refine take_ (i := 14) (N := some 43) (v := ?_) (a' := ?_) #[true, true, true, true, true, true, true, true, true, true, true, true, true, true, true, true, false, false, false] rfl rfl (take_ofW HT_.out HW_.out (by kernel_rfl)) (fun _ _ _ h => h) (Or.inl ⟨by rfl, ?_⟩) hHeld ?_ ?_
              rotate_left
              · rintro w' ⟨s0, s1, s2, s3, s4, s5, s6, s7, s8, s9, s10, s11, s12, s13, s14⟩
                go_simp
                with_reducible rfl
              rotate_left
              · simp only [Act.put, List.setIfInBounds_toArray, List.set_cons_zero, List.set_cons_succ, i64_w, i32_w, Go.IntKind.wrap_u32]
                rfl
              refine pure_ (i := 16) (N := some 45) (v := ?_) (a' := ?_) #[true, true, true, true, true, true, true, true, true, true, true, true, true, true, true, true, true, false, false] rfl rfl (any_of HT_.out (by kernel_rfl)) (fun _ _ _ h => h) (Or.inl ⟨by rfl, ?_⟩) ?_ ?_
              rotate_left
              · intro w'
                go_simp
                with_reducible rfl
              rotate_left
              · simp only [Act.put, List.setIfInBounds_toArray, List.set_cons_zero, List.set_cons_succ, i64_w, i32_w, Go.IntKind.wrap_u32]
                rfl
              refine one_ (i := 17) (N := some 8) #[true, true, true, true, true, true, true, true, true, true, true, true, true, true, true, true, true, true, false] rfl rfl (one_of HT_.out (by kernel_rfl)) (by decide) (fun K hK => ?_)
              refine box_step ?hg (N := 8) ?hd (cs := #[.int .i64 0, .bool false, .int .u64 0, .int .i64 0, .int .i64 0, .int .i64 0]) (t := 55) ?hr ?_; (case hd => rfl); (case hg => rfl); (case hr => first | (go_simp; done) | (go_simp; rfl))
              intro gb163 hg w10 hbox hb
              have n0_ := Aside0.mk (Kd.R_below (Kd.R_elderB (by (with_reducible repeat (first | apply Kd.R_alloc | apply Kd.R_drewN | apply Kd.R_drew)); exact HO_6.out) gb163 (Nat.le_of_eq hg.symm)) hb)
              have n1_ := Aside0.mk (below_step (by repeat (first | (with_reducible first | exact HB.out | apply below_alloc | apply pw_below_drewN | apply below_drew1) | exact HB.out)) hb)
              have n2_ := Aside0.mk (hbox)
              have n3_ := Aside0.mk ((by rw [hg]; exact (below_size (by repeat (first | (with_reducible first | exact HB.out | apply below_alloc | apply pw_below_drewN | apply below_drew1) | exact HB.out))) : w.heap.size ≤ gb163))
              have n4_ := Aside0.mk ((by rw [hg]; exact (below_size (by repeat (first | (with_reducible first | exact HB.out | apply below_alloc | apply pw_below_drewN | apply below_drew1) | exact HB.out))) : w.heap.size ≤ gb163))
              clear HO_6
              clear HB
              have HO_6 := n0_
              have HB := n1_
              have BK163 := n2_
              have GW163 := n3_
              have GE163 := n4_
              clear n0_ n1_ n2_ n3_ n4_
              clear hb hbox hg
              refine hK.out _ _ ⟨((HB.out.cell (World.block_lt_of_cell? w _ hw160_0)).trans hw160_0), ((HB.out.cell (World.block_lt_of_cell? w _ hw160_1)).trans hw160_1), ((HB.out.cell (World.block_lt_of_cell? w _ hw160_2)).trans hw160_2), ((HB.out.cell (World.block_lt_of_cell? w _ hw160_3)).trans hw160_3), ((HB.out.cell (World.block_lt_of_cell? w _ hw160_4)).trans hw160_4), ((HB.out.cell (World.block_lt_of_cell? w _ hw161_0)).trans hw161_0), ((HB.out.cell (World.block_lt_of_cell? w _ hw161_1)).trans hw161_1), ((HB.out.cell (World.block_lt_of_cell? w _ hw161_2)).trans hw161_2), ((HB.out.cell (World.block_lt_of_cell? w _ hw161_3)).trans hw161_3), ((HB.out.cell (World.block_lt_of_cell? w _ hw161_4)).trans hw161_4), ((HB.out.cell (World.block_lt_of_cell? w _ hw162_0)).trans hw162_0), ((HB.out.cell (World.block_lt_of_cell? w _ hw162_1)).trans hw162_1), ((HB.out.cell (World.block_lt_of_cell? w _ hw162_2)).trans hw162_2), ((HB.out.cell (World.block_lt_of_cell? w _ hw162_3)).trans hw162_3), ((HB.out.cell (World.block_lt_of_cell? w _ hw162_4)).trans hw162_4)⟩ (fun hHeld => ?_)
              clear hK K
              refine norm_ (a' := ?_) ?_ ?_
              rotate_left
              · show Act.put _ (some 8) _ = _
                simp only [Act.put, List.setIfInBounds_toArray, List.set_cons_zero, List.set_cons_succ, i64_w, i32_w, Go.IntKind.wrap_u32]
                rfl
              refine one_ (i := 18) (N := none) #[true, true, true, true, true, true, true, true, true, true, true, true, true, true, true, true, true, true, true] rfl rfl (one_of HT_.out (by kernel_rfl)) (by decide) (fun K hK => ?_)
              have hs11 : w10.cell? ⟨gb163, 0, none⟩ = some (.int .i64 0) := (blk_cell BK163.out 0).trans rfl
              have hfs11 := blk_frozen BK163.out 0
              have hs12 : w10.cell? ⟨gb163, 1, none⟩ = some (.bool false) := (blk_cell BK163.out 1).trans rfl
              have hfs12 := blk_frozen BK163.out 1
              have hs13 : w10.cell? ⟨gb163, 2, none⟩ = some (.int .u64 0) := (blk_cell BK163.out 2).trans rfl
              have hfs13 := blk_frozen BK163.out 2
              have hs14 : w10.cell? ⟨gb163, 3, none⟩ = some (.int .i64 0) := (blk_cell BK163.out 3).trans rfl
              have hfs14 := blk_frozen BK163.out 3
              have hs15 : w10.cell? ⟨gb163, 4, none⟩ = some (.int .i64 0) := (blk_cell BK163.out 4).trans rfl
              have hfs15 := blk_frozen BK163.out 4
              have hs16 : w10.cell? ⟨gb163, 5, none⟩ = some (.int .i64 0) := (blk_cell BK163.out 5).trans rfl
              have hfs16 := blk_frozen BK163.out 5
              refine skip_ (w1 := ?_) (by rfl) rfl ?_ ?_
              rotate_left
              · go_simp
                rfl
              refine hK.out _ _ ⟨((cell_far (p := ⟨gb163, _, none⟩) (by first | exact Nat.ne_of_lt (Nat.lt_of_lt_of_le (by have := World.block_lt_of_cell? _ _ hw160_0; first | rwa [add_block] at this | exact this) GW163.out) | (rw [add_block]; exact Nat.ne_of_lt (Nat.lt_of_lt_of_le (by have := World.block_lt_of_cell? _ _ hw160_0; first | rwa [add_block] at this | exact this) GW163.out)) | (show (Addr.add _ _).block ≠ _; rw [add_block]; exact Nat.ne_of_lt (Nat.lt_of_lt_of_le (by have := World.block_lt_of_cell? _ _ hw160_0; first | rwa [add_block] at this | exact this) GW163.out)) | (dsimp only; exact Nat.ne_of_lt (Nat.lt_of_lt_of_le (by have := World.block_lt_of_cell? _ _ hw160_0; first | rwa [add_block] at this | exact this) GW163.out))) _).trans (((cell_far (p := ⟨gb163, _, none⟩) (by first | exact Nat.ne_of_lt (Nat.lt_of_lt_of_le (by have := World.block_lt_of_cell? _ _ hw160_0; first | rwa [add_block] at this | exact this) GW163.out) | (rw [add_block]; exact Nat.ne_of_lt (Nat.lt_of_lt_of_le (by have := World.block_lt_of_cell? _ _ hw160_0; first | rwa [add_block] at this | exact this) GW163.out)) | (show (Addr.add _ _).block ≠ _; rw [add_block]; exact Nat.ne_of_lt (Nat.lt_of_lt_of_le (by have := World.block_lt_of_cell? _ _ hw160_0; first | rwa [add_block] at this | exact this) GW163.out)) | (dsimp only; exact Nat.ne_of_lt (Nat.lt_of_lt_of_le (by have := World.block_lt_of_cell? _ _ hw160_0; first | rwa [add_block] at this | exact this) GW163.out))) _).trans (((cell_far (p := ⟨gb163, _, none⟩) (by first | exact Nat.ne_of_lt (Nat.lt_of_lt_of_le (by have := World.block_lt_of_cell? _ _ hw160_0; first | rwa [add_block] at this | exact this) GW163.out) | (rw [add_block]; exact Nat.ne_of_lt (Nat.lt_of_lt_of_le (by have := World.block_lt_of_cell? _ _ hw160_0; first | rwa [add_block] at this | exact this) GW163.out)) | (show (Addr.add _ _).block ≠ _; rw [add_block]; exact Nat.ne_of_lt (Nat.lt_of_lt_of_le (by have := World.block_lt_of_cell? _ _ hw160_0; first | rwa [add_block] at this | exact this) GW163.out)) | (dsimp only; exact Nat.ne_of_lt (Nat.lt_of_lt_of_le (by have := World.block_lt_of_cell? _ _ hw160_0; first | rwa [add_block] at this | exact this) GW163.out))) _).trans (((cell_far (p := ⟨gb163, _, none⟩) (by first | exact Nat.ne_of_lt (Nat.lt_of_lt_of_le (by have := World.block_lt_of_cell? _ _ hw160_0; first | rwa [add_block] at this | exact this) GW163.out) | (rw [add_block]; exact Nat.ne_of_lt (Nat.lt_of_lt_of_le (by have := World.block_lt_of_cell? _ _ hw160_0; first | rwa [add_block] at this | exact this) GW163.out)) | (show (Addr.add _ _).block ≠ _; rw [add_block]; exact Nat.ne_of_lt (Nat.lt_of_lt_of_le (by have := World.block_lt_of_cell? _ _ hw160_0; first | rwa [add_block] at this | exact this) GW163.out)) | (dsimp only; exact Nat.ne_of_lt (Nat.lt_of_lt_of_le (by have := World.block_lt_of_cell? _ _ hw160_0; first | rwa [add_block] at this | exact this) GW163.out))) _).trans (((cell_far (p := ⟨gb163, _, none⟩) (by first | exact Nat.ne_of_lt (Nat.lt_of_lt_of_le (by have := World.block_lt_of_cell? _ _ hw160_0; first | rwa [add_block] at this | exact this) GW163.out) | (rw [add_block]; exact Nat.ne_of_lt (Nat.lt_of_lt_of_le (by have := World.block_lt_of_cell? _ _ hw160_0; first | rwa [add_block] at this | exact this) GW163.out)) | (show (Addr.add _ _).block ≠ _; rw [add_block]; exact Nat.ne_of_lt (Nat.lt_of_lt_of_le (by have := World.block_lt_of_cell? _ _ hw160_0; first | rwa [add_block] at this | exact this) GW163.out)) | (dsimp only; exact Nat.ne_of_lt (Nat.lt_of_lt_of_le (by have := World.block_lt_of_cell? _ _ hw160_0; first | rwa [add_block] at this | exact this) GW163.out))) _).trans (((cell_far (p := ⟨gb163, _, none⟩) (by first | exact Nat.ne_of_lt (Nat.lt_of_lt_of_le (by have := World.block_lt_of_cell? _ _ hw160_0; first | rwa [add_block] at this | exact this) GW163.out) | (rw [add_block]; exact Nat.ne_of_lt (Nat.lt_of_lt_of_le (by have := World.block_lt_of_cell? _ _ hw160_0; first | rwa [add_block] at this | exact this) GW163.out)) | (show (Addr.add _ _).block ≠ _; rw [add_block]; exact Nat.ne_of_lt (Nat.lt_of_lt_of_le (by have := World.block_lt_of_cell? _ _ hw160_0; first | rwa [add_block] at this | exact this) GW163.out)) | (dsimp only; exact Nat.ne_of_lt (Nat.lt_of_lt_of_le (by have := World.block_lt_of_cell? _ _ hw160_0; first | rwa [add_block] at this | exact this) GW163.out))) _).trans (hHeld.1)))))))))))), ((cell_far (p := ⟨gb163, _, none⟩) (by first | exact Nat.ne_of_lt (Nat.lt_of_lt_of_le (by have := World.block_lt_of_cell? _ _ hw160_1; first | rwa [add_block] at this | exact this) GW163.out) | (rw [add_block]; exact Nat.ne_of_lt (Nat.lt_of_lt_of_le (by have := World.block_lt_of_cell? _ _ hw160_1; first | rwa [add_block] at this | exact this) GW163.out)) | (show (Addr.add _ _).block ≠ _; rw [add_block]; exact Nat.ne_of_lt (Nat.lt_of_lt_of_le (by have := World.block_lt_of_cell? _ _ hw160_1; first | rwa [add_block] at this | exact this) GW163.out)) | (dsimp only; exact Nat.ne_of_lt (Nat.lt_of_lt_of_le (by have := World.block_lt_of_cell? _ _ hw160_1; first | rwa [add_block] at this | exact this) GW163.out))) _).trans (((cell_far (p := ⟨gb163, _, none⟩) (by first | exact Nat.ne_of_lt (Nat.lt_of_lt_of_le (by have := World.block_lt_of_cell? _ _ hw160_1; first | rwa [add_block] at this | exact this) GW163.out) | (rw [add_block]; exact Nat.ne_of_lt (Nat.lt_of_lt_of_le (by have := World.block_lt_of_cell? _ _ hw160_1; first | rwa [add_block] at this | exact this) GW163.out)) | (show (Addr.add _ _).block ≠ _; rw [add_block]; exact Nat.ne_of_lt (Nat.lt_of_lt_of_le (by have := World.block_lt_of_cell? _ _ hw160_1; first | rwa [add_block] at this | exact this) GW163.out)) | (dsimp only; exact Nat.ne_of_lt (Nat.lt_of_lt_of_le (by have := World.block_lt_of_cell? _ _ hw160_1; first | rwa [add_block] at this | exact this) GW163.out))) _).trans (((cell_far (p := ⟨gb163, _, none⟩) (by first | exact Nat.ne_of_lt (Nat.lt_of_lt_of_le (by have := World.block_lt_of_cell? _ _ hw160_1; first | rwa [add_block] at this | exact this) GW163.out) | (rw [add_block]; exact Nat.ne_of_lt (Nat.lt_of_lt_of_le (by have := World.block_lt_of_cell? _ _ hw160_1; first | rwa [add_block] at this | exact this) GW163.out)) | (show (Addr.add _ _).block ≠ _; rw [add_block]; exact Nat.ne_of_lt (Nat.lt_of_lt_of_le (by have := World.block_lt_of_cell? _ _ hw160_1; first | rwa [add_block] at this | exact this) GW163.out)) | (dsimp only; exact Nat.ne_of_lt (Nat.lt_of_lt_of_le (by have := World.block_lt_of_cell? _ _ hw160_1; first | rwa [add_block] at this | exact this) GW163.out))) _).trans (((cell_far (p := ⟨gb163, _, none⟩) (by first | exact Nat.ne_of_lt (Nat.lt_of_lt_of_le (by have := World.block_lt_of_cell? _ _ hw160_1; first | rwa [add_block] at this | exact this) GW163.out) | (rw [add_block]; exact Nat.ne_of_lt (Nat.lt_of_lt_of_le (by have := World.block_lt_of_cell? _ _ hw160_1; first | rwa [add_block] at this | exact this) GW163.out)) | (show (Addr.add _ _).block ≠ _; rw [add_block]; exact Nat.ne_of_lt (Nat.lt_of_lt_of_le (by have := World.block_lt_of_cell? _ _ hw160_1; first | rwa [add_block] at this | exact this) GW163.out)) | (dsimp only; exact Nat.ne_of_lt (Nat.lt_of_lt_of_le (by have := World.block_lt_of_cell? _ _ hw160_1; first | rwa [add_block] at this | exact this) GW163.out))) _).trans (((cell_far (p := ⟨gb163, _, none⟩) (by first | exact Nat.ne_of_lt (Nat.lt_of_lt_of_le (by have := World.block_lt_of_cell? _ _ hw160_1; first | rwa [add_block] at this | exact this) GW163.out) | (rw [add_block]; exact Nat.ne_of_lt (Nat.lt_of_lt_of_le (by have := World.block_lt_of_cell? _ _ hw160_1; first | rwa [add_block] at this | exact this) GW163.out)) | (show (Addr.add _ _).block ≠ _; rw [add_block]; exact Nat.ne_of_lt (Nat.lt_of_lt_of_le (by have := World.block_lt_of_cell? _ _ hw160_1; first | rwa [add_block] at this | exact this) GW163.out)) | (dsimp only; exact Nat.ne_of_lt (Nat.lt_of_lt_of_le (by have := World.block_lt_of_cell? _ _ hw160_1; first | rwa [add_block] at this | exact this) GW163.out))) _).trans (((cell_far (p := ⟨gb163, _, none⟩) (by first | exact Nat.ne_of_lt (Nat.lt_of_lt_of_le (by have := World.block_lt_of_cell? _ _ hw160_1; first | rwa [add_block] at this | exact this) GW163.out) | (rw [add_block]; exact Nat.ne_of_lt (Nat.lt_of_lt_of_le (by have := World.block_lt_of_cell? _ _ hw160_1; first | rwa [add_block] at this | exact this) GW163.out)) | (show (Addr.add _ _).block ≠ _; rw [add_block]; exact Nat.ne_of_lt (Nat.lt_of_lt_of_le (by have := World.block_lt_of_cell? _ _ hw160_1; first | rwa [add_block] at this | exact this) GW163.out)) | (dsimp only; exact Nat.ne_of_lt (Nat.lt_of_lt_of_le (by have := World.block_lt_of_cell? _ _ hw160_1; first | rwa [add_block] at this | exact this) GW163.out))) _).trans (hHeld.2.1)))))))))))), ((cell_far (p := ⟨gb163, _, none⟩) (by first | exact Nat.ne_of_lt (Nat.lt_of_lt_of_le (by have := World.block_lt_of_cell? _ _ hw160_2; first | rwa [add_block] at this | exact this) GW163.out) | (rw [add_block]; exact Nat.ne_of_lt (Nat.lt_of_lt_of_le (by have := World.block_lt_of_cell? _ _ hw160_2; first | rwa [add_block] at this | exact this) GW163.out)) | (show (Addr.add _ _).block ≠ _; rw [add_block]; exact Nat.ne_of_lt (Nat.lt_of_lt_of_le (by have := World.block_lt_of_cell? _ _ hw160_2; first | rwa [add_block] at this | exact this) GW163.out)) | (dsimp only; exact Nat.ne_of_lt (Nat.lt_of_lt_of_le (by have := World.block_lt_of_cell? _ _ hw160_2; first | rwa [add_block] at this | exact this) GW163.out))) _).trans (((cell_far (p := ⟨gb163, _, none⟩) (by first | exact Nat.ne_of_lt (Nat.lt_of_lt_of_le (by have := World.block_lt_of_cell? _ _ hw160_2; first | rwa [add_block] at this | exact this) GW163.out) | (rw [add_block]; exact Nat.ne_of_lt (Nat.lt_of_lt_of_le (by have := World.block_lt_of_cell? _ _ hw160_2; first | rwa [add_block] at this | exact this) GW163.out)) | (show (Addr.add _ _).block ≠ _; rw [add_block]; exact Nat.ne_of_lt (Nat.lt_of_lt_of_le (by have := World.block_lt_of_cell? _ _ hw160_2; first | rwa [add_block] at this | exact this) GW163.out)) | (dsimp only; exact Nat.ne_of_lt (Nat.lt_of_lt_of_le (by have := World.block_lt_of_cell? _ _ hw160_2; first | rwa [add_block] at this | exact this) GW163.out))) _).trans (((cell_far (p := ⟨gb163, _, none⟩) (by first | exact Nat.ne_of_lt (Nat.lt_of_lt_of_le (by have := World.block_lt_of_cell? _ _ hw160_2; first | rwa [add_block] at this | exact this) GW163.out) | (rw [add_block]; exact Nat.ne_of_lt (Nat.lt_of_lt_of_le (by have := World.block_lt_of_cell? _ _ hw160_2; first | rwa [add_block] at this | exact this) GW163.out)) | (show (Addr.add _ _).block ≠ _; rw [add_block]; exact Nat.ne_of_lt (Nat.lt_of_lt_of_le (by have := World.block_lt_of_cell? _ _ hw160_2; first | rwa [add_block] at this | exact this) GW163.out)) | (dsimp only; exact Nat.ne_of_lt (Nat.lt_of_lt_of_le (by have := World.block_lt_of_cell? _ _ hw160_2; first | rwa [add_block] at this | exact this) GW163.out))) _).trans (((cell_far (p := ⟨gb163, _, none⟩) (by first | exact Nat.ne_of_lt (Nat.lt_of_lt_of_le (by have := World.block_lt_of_cell? _ _ hw160_2; first | rwa [add_block] at this | exact this) GW163.out) | (rw [add_block]; exact Nat.ne_of_lt (Nat.lt_of_lt_of_le (by have := World.block_lt_of_cell? _ _ hw160_2; first | rwa [add_block] at this | exact this) GW163.out)) | (show (Addr.add _ _).block ≠ _; rw [add_block]; exact Nat.ne_of_lt (Nat.lt_of_lt_of_le (by have := World.block_lt_of_cell? _ _ hw160_2; first | rwa [add_block] at this | exact this) GW163.out)) | (dsimp only; exact Nat.ne_of_lt (Nat.lt_of_lt_of_le (by have := World.block_lt_of_cell? _ _ hw160_2; first | rwa [add_block] at this | exact this) GW163.out))) _).trans (((cell_far (p := ⟨gb163, _, none⟩) (by first | exact Nat.ne_of_lt (Nat.lt_of_lt_of_le (by have := World.block_lt_of_cell? _ _ hw160_2; first | rwa [add_block] at this | exact this) GW163.out) | (rw [add_block]; exact Nat.ne_of_lt (Nat.lt_of_lt_of_le (by have := World.block_lt_of_cell? _ _ hw160_2; first | rwa [add_block] at this | exact this) GW163.out)) | (show (Addr.add _ _).block ≠ _; rw [add_block]; exact Nat.ne_of_lt (Nat.lt_of_lt_of_le (by have := World.block_lt_of_cell? _ _ hw160_2; first | rwa [add_block] at this | exact this) GW163.out)) | (dsimp only; exact Nat.ne_of_lt (Nat.lt_of_lt_of_le (by have := World.block_lt_of_cell? _ _ hw160_2; first | rwa [add_block] at this | exact this) GW163.out))) _).trans (((cell_far (p := ⟨gb163, _, none⟩) (by first | exact Nat.ne_of_lt (Nat.lt_of_lt_of_le (by have := World.block_lt_of_cell? _ _ hw160_2; first | rwa [add_block] at this | exact this) GW163.out) | (rw [add_block]; exact Nat.ne_of_lt (Nat.lt_of_lt_of_le (by have := World.block_lt_of_cell? _ _ hw160_2; first | rwa [add_block] at this | exact this) GW163.out)) | (show (Addr.add _ _).block ≠ _; rw [add_block]; exact Nat.ne_of_lt (Nat.lt_of_lt_of_le (by have := World.block_lt_of_cell? _ _ hw160_2; first | rwa [add_block] at this | exact this) GW163.out)) | (dsimp only; exact Nat.ne_of_lt (Nat.lt_of_lt_of_le (by have := World.block_lt_of_cell? _ _ hw160_2; first | rwa [add_block] at this | exact this) GW163.out))) _).trans (hHeld.2.2.1)))))))))))), ((cell_far (p := ⟨gb163, _, none⟩) (by first | exact Nat.ne_of_lt (Nat.lt_of_lt_of_le (by have := World.block_lt_of_cell? _ _ hw160_3; first | rwa [add_block] at this | exact this) GW163.out) | (rw [add_block]; exact Nat.ne_of_lt (Nat.lt_of_lt_of_le (by have := World.block_lt_of_cell? _ _ hw160_3; first | rwa [add_block] at this | exact this) GW163.out)) | (show (Addr.add _ _).block ≠ _; rw [add_block]; exact Nat.ne_of_lt (Nat.lt_of_lt_of_le (by have := World.block_lt_of_cell? _ _ hw160_3; first | rwa [add_block] at this | exact this) GW163.out)) | (dsimp only; exact Nat.ne_of_lt (Nat.lt_of_lt_of_le (by have := World.block_lt_of_cell? _ _ hw160_3; first | rwa [add_block] at this | exact this) GW163.out))) _).trans (((cell_far (p := ⟨gb163, _, none⟩) (by first | exact Nat.ne_of_lt (Nat.lt_of_lt_of_le (by have := World.block_lt_of_cell? _ _ hw160_3; first | rwa [add_block] at this | exact this) GW163.out) | (rw [add_block]; exact Nat.ne_of_lt (Nat.lt_of_lt_of_le (by have := World.block_lt_of_cell? _ _ hw160_3; first | rwa [add_block] at this | exact this) GW163.out)) | (show (Addr.add _ _).block ≠ _; rw [add_block]; exact Nat.ne_of_lt (Nat.lt_of_lt_of_le (by have := World.block_lt_of_cell? _ _ hw160_3; first | rwa [add_block] at this | exact this) GW163.out)) | (dsimp only; exact Nat.ne_of_lt (Nat.lt_of_lt_of_le (by have := World.block_lt_of_cell? _ _ hw160_3; first | rwa [add_block] at this | exact this) GW163.out))) _).trans (((cell_far (p := ⟨gb163, _, none⟩) (by first | exact Nat.ne_of_lt (Nat.lt_of_lt_of_le (by have := World.block_lt_of_cell? _ _ hw160_3; first | rwa [add_block] at this | exact this) GW163.out) | (rw [add_block]; exact Nat.ne_of_lt (Nat.lt_of_lt_of_le (by have := World.block_lt_of_cell? _ _ hw160_3; first | rwa [add_block] at this | exact this) GW163.out)) | (show (Addr.add _ _).block ≠ _; rw [add_block]; exact Nat.ne_of_lt (Nat.lt_of_lt_of_le (by have := World.block_lt_of_cell? _ _ hw160_3; first | rwa [add_block] at this | exact this) GW163.out)) | (dsimp only; exact Nat.ne_of_lt (Nat.lt_of_lt_of_le (by have := World.block_lt_of_cell? _ _ hw160_3; first | rwa [add_block] at this | exact this) GW163.out))) _).trans (((cell_far (p := ⟨gb163, _, none⟩) (by first | exact Nat.ne_of_lt (Nat.lt_of_lt_of_le (by have := World.block_lt_of_cell? _ _ hw160_3; first | rwa [add_block] at this | exact this) GW163.out) | (rw [add_block]; exact Nat.ne_of_lt (Nat.lt_of_lt_of_le (by have := World.block_lt_of_cell? _ _ hw160_3; first | rwa [add_block] at this | exact this) GW163.out)) | (show (Addr.add _ _).block ≠ _; rw [add_block]; exact Nat.ne_of_lt (Nat.lt_of_lt_of_le (by have := World.block_lt_of_cell? _ _ hw160_3; first | rwa [add_block] at this | exact this) GW163.out)) | (dsimp only; exact Nat.ne_of_lt (Nat.lt_of_lt_of_le (by have := World.block_lt_of_cell? _ _ hw160_3; first | rwa [add_block] at this | exact this) GW163.out))) _).trans (((cell_far (p := ⟨gb163, _, none⟩) (by first | exact Nat.ne_of_lt (Nat.lt_of_lt_of_le (by have := World.block_lt_of_cell? _ _ hw160_3; first | rwa [add_block] at this | exact this) GW163.out) | (rw [add_block]; exact Nat.ne_of_lt (Nat.lt_of_lt_of_le (by have := World.block_lt_of_cell? _ _ hw160_3; first | rwa [add_block] at this | exact this) GW163.out)) | (show (Addr.add _ _).block ≠ _; rw [add_block]; exact Nat.ne_of_lt (Nat.lt_of_lt_of_le (by have := World.block_lt_of_cell? _ _ hw160_3; first | rwa [add_block] at this | exact this) GW163.out)) | (dsimp only; exact Nat.ne_of_lt (Nat.lt_of_lt_of_le (by have := World.block_lt_of_cell? _ _ hw160_3; first | rwa [add_block] at this | exact this) GW163.out))) _).trans (((cell_far (p := ⟨gb163, _, none⟩) (by first | exact Nat.ne_of_lt (Nat.lt_of_lt_of_le (by have := World.block_lt_of_cell? _ _ hw160_3; first | rwa [add_block] at this | exact this) GW163.out) | (rw [add_block]; exact Nat.ne_of_lt (Nat.lt_of_lt_of_le (by have := World.block_lt_of_cell? _ _ hw160_3; first | rwa [add_block] at this | exact this) GW163.out)) | (show (Addr.add _ _).block ≠ _; rw [add_block]; exact Nat.ne_of_lt (Nat.lt_of_lt_of_le (by have := World.block_lt_of_cell? _ _ hw160_3; first | rwa [add_block] at this | exact this) GW163.out)) | (dsimp only; exact Nat.ne_of_lt (Nat.lt_of_lt_of_le (by have := World.block_lt_of_cell? _ _ hw160_3; first | rwa [add_block] at this | exact this) GW163.out))) _).trans (hHeld.2.2.2.1)))))))))))), ((cell_far (p := ⟨gb163, _, none⟩) (by first | exact Nat.ne_of_lt (Nat.lt_of_lt_of_le (by have := World.block_lt_of_cell? _ _ hw160_4; first | rwa [add_block] at this | exact this) GW163.out) | (rw [add_block]; exact Nat.ne_of_lt (Nat.lt_of_lt_of_le (by have := World.block_lt_of_cell? _ _ hw160_4; first | rwa [add_block] at this | exact this) GW163.out)) | (show (Addr.add _ _).block ≠ _; rw [add_block]; exact Nat.ne_of_lt (Nat.lt_of_lt_of_le (by have := World.block_lt_of_cell? _ _ hw160_4; first | rwa [add_block] at this | exact this) GW163.out)) | (dsimp only; exact Nat.ne_of_lt (Nat.lt_of_lt_of_le (by have := World.block_lt_of_cell? _ _ hw160_4; first | rwa [add_block] at this | exact this) GW163.out))) _).trans (((cell_far (p := ⟨gb163, _, none⟩) (by first | exact Nat.ne_of_lt (Nat.lt_of_lt_of_le (by have := World.block_lt_of_cell? _ _ hw160_4; first | rwa [add_block] at this | exact this) GW163.out) | (rw [add_block]; exact Nat.ne_of_lt (Nat.lt_of_lt_of_le (by have := World.block_lt_of_cell? _ _ hw160_4; first | rwa [add_block] at this | exact this) GW163.out)) | (show (Addr.add _ _).block ≠ _; rw [add_block]; exact Nat.ne_of_lt (Nat.lt_of_lt_of_le (by have := World.block_lt_of_cell? _ _ hw160_4; first | rwa [add_block] at this | exact this) GW163.out)) | (dsimp only; exact Nat.ne_of_lt (Nat.lt_of_lt_of_le (by have := World.block_lt_of_cell? _ _ hw160_4; first | rwa [add_block] at this | exact this) GW163.out))) _).trans (((cell_far (p := ⟨gb163, _, none⟩) (by first | exact Nat.ne_of_lt (Nat.lt_of_lt_of_le (by have := World.block_lt_of_cell? _ _ hw160_4; first | rwa [add_block] at this | exact this) GW163.out) | (rw [add_block]; exact Nat.ne_of_lt (Nat.lt_of_lt_of_le (by have := World.block_lt_of_cell? _ _ hw160_4; first | rwa [add_block] at this | exact this) GW163.out)) | (show (Addr.add _ _).block ≠ _; rw [add_block]; exact Nat.ne_of_lt (Nat.lt_of_lt_of_le (by have := World.block_lt_of_cell? _ _ hw160_4; first | rwa [add_block] at this | exact this) GW163.out)) | (dsimp only; exact Nat.ne_of_lt (Nat.lt_of_lt_of_le (by have := World.block_lt_of_cell? _ _ hw160_4; first | rwa [add_block] at this | exact this) GW163.out))) _).trans (((cell_far (p := ⟨gb163, _, none⟩) (by first | exact Nat.ne_of_lt (Nat.lt_of_lt_of_le (by have := World.block_lt_of_cell? _ _ hw160_4; first | rwa [add_block] at this | exact this) GW163.out) | (rw [add_block]; exact Nat.ne_of_lt (Nat.lt_of_lt_of_le (by have := World.block_lt_of_cell? _ _ hw160_4; first | rwa [add_block] at this | exact this) GW163.out)) | (show (Addr.add _ _).block ≠ _; rw [add_block]; exact Nat.ne_of_lt (Nat.lt_of_lt_of_le (by have := World.block_lt_of_cell? _ _ hw160_4; first | rwa [add_block] at this | exact this) GW163.out)) | (dsimp only; exact Nat.ne_of_lt (Nat.lt_of_lt_of_le (by have := World.block_lt_of_cell? _ _ hw160_4; first | rwa [add_block] at this | exact this) GW163.out))) _).trans (((cell_far (p := ⟨gb163, _, none⟩) (by first | exact Nat.ne_of_lt (Nat.lt_of_lt_of_le (by have := World.block_lt_of_cell? _ _ hw160_4; first | rwa [add_block] at this | exact this) GW163.out) | (rw [add_block]; exact Nat.ne_of_lt (Nat.lt_of_lt_of_le (by have := World.block_lt_of_cell? _ _ hw160_4; first | rwa [add_block] at this | exact this) GW163.out)) | (show (Addr.add _ _).block ≠ _; rw [add_block]; exact Nat.ne_of_lt (Nat.lt_of_lt_of_le (by have := World.block_lt_of_cell? _ _ hw160_4; first | rwa [add_block] at this | exact this) GW163.out)) | (dsimp only; exact Nat.ne_of_lt (Nat.lt_of_lt_of_le (by have := World.block_lt_of_cell? _ _ hw160_4; first | rwa [add_block] at this | exact this) GW163.out))) _).trans (((cell_far (p := ⟨gb163, _, none⟩) (by first | exact Nat.ne_of_lt (Nat.lt_of_lt_of_le (by have := World.block_lt_of_cell? _ _ hw160_4; first | rwa [add_block] at this | exact this) GW163.out) | (rw [add_block]; exact Nat.ne_of_lt (Nat.lt_of_lt_of_le (by have := World.block_lt_of_cell? _ _ hw160_4; first | rwa [add_block] at this | exact this) GW163.out)) | (show (Addr.add _ _).block ≠ _; rw [add_block]; exact Nat.ne_of_lt (Nat.lt_of_lt_of_le (by have := World.block_lt_of_cell? _ _ hw160_4; first | rwa [add_block] at this | exact this) GW163.out)) | (dsimp only; exact Nat.ne_of_lt (Nat.lt_of_lt_of_le (by have := World.block_lt_of_cell? _ _ hw160_4; first | rwa [add_block] at this | exact this) GW163.out))) _).trans (hHeld.2.2.2.2.1)))))))))))), ((cell_far (p := ⟨gb163, _, none⟩) (by first | exact Nat.ne_of_lt (Nat.lt_of_lt_of_le (by have := World.block_lt_of_cell? _ _ hw161_0; first | rwa [add_block] at this | exact this) GW163.out) | (rw [add_block]; exact Nat.ne_of_lt (Nat.lt_of_lt_of_le (by have := World.block_lt_of_cell? _ _ hw161_0; first | rwa [add_block] at this | exact this) GW163.out)) | (show (Addr.add _ _).block ≠ _; rw [add_block]; exact Nat.ne_of_lt (Nat.lt_of_lt_of_le (by have := World.block_lt_of_cell? _ _ hw161_0; first | rwa [add_block] at this | exact this) GW163.out)) | (dsimp only; exact Nat.ne_of_lt (Nat.lt_of_lt_of_le (by have := World.block_lt_of_cell? _ _ hw161_0; first | rwa [add_block] at this | exact this) GW163.out))) _).trans (((cell_far (p := ⟨gb163, _, none⟩) (by first | exact Nat.ne_of_lt (Nat.lt_of_lt_of_le (by have := World.block_lt_of_cell? _ _ hw161_0; first | rwa [add_block] at this | exact this) GW163.out) | (rw [add_block]; exact Nat.ne_of_lt (Nat.lt_of_lt_of_le (by have := World.block_lt_of_cell? _ _ hw161_0; first | rwa [add_block] at this | exact this) GW163.out)) | (show (Addr.add _ _).block ≠ _; rw [add_block]; exact Nat.ne_of_lt (Nat.lt_of_lt_of_le (by have := World.block_lt_of_cell? _ _ hw161_0; first | rwa [add_block] at this | exact this) GW163.out)) | (dsimp only; exact Nat.ne_of_lt (Nat.lt_of_lt_of_le (by have := World.block_lt_of_cell? _ _ hw161_0; first | rwa [add_block] at this | exact this) GW163.out))) _).trans (((cell_far (p := ⟨gb163, _, none⟩) (by first | exact Nat.ne_of_lt (Nat.lt_of_lt_of_le (by have := World.block_lt_of_cell? _ _ hw161_0; first | rwa [add_block] at this | exact this) GW163.out) | (rw [add_block]; exact Nat.ne_of_lt (Nat.lt_of_lt_of_le (by have := World.block_lt_of_cell? _ _ hw161_0; first | rwa [add_block] at this | exact this) GW163.out)) | (show (Addr.add _ _).block ≠ _; rw [add_block]; exact Nat.ne_of_lt (Nat.lt_of_lt_of_le (by have := World.block_lt_of_cell? _ _ hw161_0; first | rwa [add_block] at this | exact this) GW163.out)) | (dsimp only; exact Nat.ne_of_lt (Nat.lt_of_lt_of_le (by have := World.block_lt_of_cell? _ _ hw161_0; first | rwa [add_block] at this | exact this) GW163.out))) _).trans (((cell_far (p := ⟨gb163, _, none⟩) (by first | exact Nat.ne_of_lt (Nat.lt_of_lt_of_le (by have := World.block_lt_of_cell? _ _ hw161_0; first | rwa [add_block] at this | exact this) GW163.out) | (rw [add_block]; exact Nat.ne_of_lt (Nat.lt_of_lt_of_le (by have := World.block_lt_of_cell? _ _ hw161_0; first | rwa [add_block] at this | exact this) GW163.out)) | (show (Addr.add _ _).block ≠ _; rw [add_block]; exact Nat.ne_of_lt (Nat.lt_of_lt_of_le (by have := World.block_lt_of_cell? _ _ hw161_0; first | rwa [add_block] at this | exact this) GW163.out)) | (dsimp only; exact Nat.ne_of_lt (Nat.lt_of_lt_of_le (by have := World.block_lt_of_cell? _ _ hw161_0; first | rwa [add_block] at this | exact this) GW163.out))) _).trans (((cell_far (p := ⟨gb163, _, none⟩) (by first | exact Nat.ne_of_lt (Nat.lt_of_lt_of_le (by have := World.block_lt_of_cell? _ _ hw161_0; first | rwa [add_block] at this | exact this) GW163.out) | (rw [add_block]; exact Nat.ne_of_lt (Nat.lt_of_lt_of_le (by have := World.block_lt_of_cell? _ _ hw161_0; first | rwa [add_block] at this | exact this) GW163.out)) | (show (Addr.add _ _).block ≠ _; rw [add_block]; exact Nat.ne_of_lt (Nat.lt_of_lt_of_le (by have := World.block_lt_of_cell? _ _ hw161_0; first | rwa [add_block] at this | exact this) GW163.out)) | (dsimp only; exact Nat.ne_of_lt (Nat.lt_of_lt_of_le (by have := World.block_lt_of_cell? _ _ hw161_0; first | rwa [add_block] at this | exact this) GW163.out))) _).trans (((cell_far (p := ⟨gb163, _, none⟩) (by first | exact Nat.ne_of_lt (Nat.lt_of_lt_of_le (by have := World.block_lt_of_cell? _ _ hw161_0; first | rwa [add_block] at this | exact this) GW163.out) | (rw [add_block]; exact Nat.ne_of_lt (Nat.lt_of_lt_of_le (by have := World.block_lt_of_cell? _ _ hw161_0; first | rwa [add_block] at this | exact this) GW163.out)) | (show (Addr.add _ _).block ≠ _; rw [add_block]; exact Nat.ne_of_lt (Nat.lt_of_lt_of_le (by have := World.block_lt_of_cell? _ _ hw161_0; first | rwa [add_block] at this | exact this) GW163.out)) | (dsimp only; exact Nat.ne_of_lt (Nat.lt_of_lt_of_le (by have := World.block_lt_of_cell? _ _ hw161_0; first | rwa [add_block] at this | exact this) GW163.out))) _).trans (hHeld.2.2.2.2.2.1)))))))))))), ((cell_far (p := ⟨gb163, _, none⟩) (by first | exact Nat.ne_of_lt (Nat.lt_of_lt_of_le (by have := World.block_lt_of_cell? _ _ hw161_1; first | rwa [add_block] at this | exact this) GW163.out) | (rw [add_block]; exact Nat.ne_of_lt (Nat.lt_of_lt_of_le (by have := World.block_lt_of_cell? _ _ hw161_1; first | rwa [add_block] at this | exact this) GW163.out)) | (show (Addr.add _ _).block ≠ _; rw [add_block]; exact Nat.ne_of_lt (Nat.lt_of_lt_of_le (by have := World.block_lt_of_cell? _ _ hw161_1; first | rwa [add_block] at this | exact this) GW163.out)) | (dsimp only; exact Nat.ne_of_lt (Nat.lt_of_lt_of_le (by have := World.block_lt_of_cell? _ _ hw161_1; first | rwa [add_block] at this | exact this) GW163.out))) _).trans (((cell_far (p := ⟨gb163, _, none⟩) (by first | exact Nat.ne_of_lt (Nat.lt_of_lt_of_le (by have := World.block_lt_of_cell? _ _ hw161_1; first | rwa [add_block] at this | exact this) GW163.out) | (rw [add_block]; exact Nat.ne_of_lt (Nat.lt_of_lt_of_le (by have := World.block_lt_of_cell? _ _ hw161_1; first | rwa [add_block] at this | exact this) GW163.out)) | (show (Addr.add _ _).block ≠ _; rw [add_block]; exact Nat.ne_of_lt (Nat.lt_of_lt_of_le (by have := World.block_lt_of_cell? _ _ hw161_1; first | rwa [add_block] at this | exact this) GW163.out)) | (dsimp only; exact Nat.ne_of_lt (Nat.lt_of_lt_of_le (by have := World.block_lt_of_cell? _ _ hw161_1; first | rwa [add_block] at this | exact this) GW163.out))) _).trans (((cell_far (p := ⟨gb163, _, none⟩) (by first | exact Nat.ne_of_lt (Nat.lt_of_lt_of_le (by have := World.block_lt_of_cell? _ _ hw161_1; first | rwa [add_block] at this | exact this) GW163.out) | (rw [add_block]; exact Nat.ne_of_lt (Nat.lt_of_lt_of_le (by have := World.block_lt_of_cell? _ _ hw161_1; first | rwa [add_block] at this | exact this) GW163.out)) | (show (Addr.add _ _).block ≠ _; rw [add_block]; exact Nat.ne_of_lt (Nat.lt_of_lt_of_le (by have := World.block_lt_of_cell? _ _ hw161_1; first | rwa [add_block] at this | exact this) GW163.out)) | (dsimp only; exact Nat.ne_of_lt (Nat.lt_of_lt_of_le (by have := World.block_lt_of_cell? _ _ hw161_1; first | rwa [add_block] at this | exact this) GW163.out))) _).trans (((cell_far (p := ⟨gb163, _, none⟩) (by first | exact Nat.ne_of_lt (Nat.lt_of_lt_of_le (by have := World.block_lt_of_cell? _ _ hw161_1; first | rwa [add_block] at this | exact this) GW163.out) | (rw [add_block]; exact Nat.ne_of_lt (Nat.lt_of_lt_of_le (by have := World.block_lt_of_cell? _ _ hw161_1; first | rwa [add_block] at this | exact this) GW163.out)) | (show (Addr.add _ _).block ≠ _; rw [add_block]; exact Nat.ne_of_lt (Nat.lt_of_lt_of_le (by have := World.block_lt_of_cell? _ _ hw161_1; first | rwa [add_block] at this | exact this) GW163.out)) | (dsimp only; exact Nat.ne_of_lt (Nat.lt_of_lt_of_le (by have := World.block_lt_of_cell? _ _ hw161_1; first | rwa [add_block] at this | exact this) GW163.out))) _).trans (((cell_far (p := ⟨gb163, _, none⟩) (by first | exact Nat.ne_of_lt (Nat.lt_of_lt_of_le (by have := World.block_lt_of_cell? _ _ hw161_1; first | rwa [add_block] at this | exact this) GW163.out) | (rw [add_block]; exact Nat.ne_of_lt (Nat.lt_of_lt_of_le (by have := World.block_lt_of_cell? _ _ hw161_1; first | rwa [add_block] at this | exact this) GW163.out)) | (show (Addr.add _ _).block ≠ _; rw [add_block]; exact Nat.ne_of_lt (Nat.lt_of_lt_of_le (by have := World.block_lt_of_cell? _ _ hw161_1; first | rwa [add_block] at this | exact this) GW163.out)) | (dsimp only; exact Nat.ne_of_lt (Nat.lt_of_lt_of_le (by have := World.block_lt_of_cell? _ _ hw161_1; first | rwa [add_block] at this | exact this) GW163.out))) _).trans (((cell_far (p := ⟨gb163, _, none⟩) (by first | exact Nat.ne_of_lt (Nat.lt_of_lt_of_le (by have := World.block_lt_of_cell? _ _ hw161_1; first | rwa [add_block] at this | exact this) GW163.out) | (rw [add_block]; exact Nat.ne_of_lt (Nat.lt_of_lt_of_le (by have := World.block_lt_of_cell? _ _ hw161_1; first | rwa [add_block] at this | exact this) GW163.out)) | (show (Addr.add _ _).block ≠ _; rw [add_block]; exact Nat.ne_of_lt (Nat.lt_of_lt_of_le (by have := World.block_lt_of_cell? _ _ hw161_1; first | rwa [add_block] at this | exact this) GW163.out)) | (dsimp only; exact Nat.ne_of_lt (Nat.lt_of_lt_of_le (by have := World.block_lt_of_cell? _ _ hw161_1; first | rwa [add_block] at this | exact this) GW163.out))) _).trans (hHeld.2.2.2.2.2.2.1)))))))))))), ((cell_far (p := ⟨gb163, _, none⟩) (by first | exact Nat.ne_of_lt (Nat.lt_of_lt_of_le (by have := World.block_lt_of_cell? _ _ hw161_2; first | rwa [add_block] at this | exact this) GW163.out) | (rw [add_block]; exact Nat.ne_of_lt (Nat.lt_of_lt_of_le (by have := World.block_lt_of_cell? _ _ hw161_2; first | rwa [add_block] at this | exact this) GW163.out)) | (show (Addr.add _ _).block ≠ _; rw [add_block]; exact Nat.ne_of_lt (Nat.lt_of_lt_of_le (by have := World.block_lt_of_cell? _ _ hw161_2; first | rwa [add_block] at this | exact this) GW163.out)) | (dsimp only; exact Nat.ne_of_lt (Nat.lt_of_lt_of_le (by have := World.block_lt_of_cell? _ _ hw161_2; first | rwa [add_block] at this | exact this) GW163.out))) _).trans (((cell_far (p := ⟨gb163, _, none⟩) (by first | exact Nat.ne_of_lt (Nat.lt_of_lt_of_le (by have := World.block_lt_of_cell? _ _ hw161_2; first | rwa [add_block] at this | exact this) GW163.out) | (rw [add_block]; exact Nat.ne_of_lt (Nat.lt_of_lt_of_le (by have := World.block_lt_of_cell? _ _ hw161_2; first | rwa [add_block] at this | exact this) GW163.out)) | (show (Addr.add _ _).block ≠ _; rw [add_block]; exact Nat.ne_of_lt (Nat.lt_of_lt_of_le (by have := World.block_lt_of_cell? _ _ hw161_2; first | rwa [add_block] at this | exact this) GW163.out)) | (dsimp only; exact Nat.ne_of_lt (Nat.lt_of_lt_of_le (by have := World.block_lt_of_cell? _ _ hw161_2; first | rwa [add_block] at this | exact this) GW163.out))) _).trans (((cell_far (p := ⟨gb163, _, none⟩) (by first | exact Nat.ne_of_lt (Nat.lt_of_lt_of_le (by have := World.block_lt_of_cell? _ _ hw161_2; first | rwa [add_block] at this | exact this) GW163.out) | (rw [add_block]; exact Nat.ne_of_lt (Nat.lt_of_lt_of_le (by have := World.block_lt_of_cell? _ _ hw161_2; first | rwa [add_block] at this | exact this) GW163.out)) | (show (Addr.add _ _).block ≠ _; rw [add_block]; exact Nat.ne_of_lt (Nat.lt_of_lt_of_le (by have := World.block_lt_of_cell? _ _ hw161_2; first | rwa [add_block] at this | exact this) GW163.out)) | (dsimp only; exact Nat.ne_of_lt (Nat.lt_of_lt_of_le (by have := World.block_lt_of_cell? _ _ hw161_2; first | rwa [add_block] at this | exact this) GW163.out))) _).trans (((cell_far (p := ⟨gb163, _, none⟩) (by first | exact Nat.ne_of_lt (Nat.lt_of_lt_of_le (by have := World.block_lt_of_cell? _ _ hw161_2; first | rwa [add_block] at this | exact this) GW163.out) | (rw [add_block]; exact Nat.ne_of_lt (Nat.lt_of_lt_of_le (by have := World.block_lt_of_cell? _ _ hw161_2; first | rwa [add_block] at this | exact this) GW163.out)) | (show (Addr.add _ _).block ≠ _; rw [add_block]; exact Nat.ne_of_lt (Nat.lt_of_lt_of_le (by have := World.block_lt_of_cell? _ _ hw161_2; first | rwa [add_block] at this | exact this) GW163.out)) | (dsimp only; exact Nat.ne_of_lt (Nat.lt_of_lt_of_le (by have := World.block_lt_of_cell? _ _ hw161_2; first | rwa [add_block] at this | exact this) GW163.out))) _).trans (((cell_far (p := ⟨gb163, _, none⟩) (by first | exact Nat.ne_of_lt (Nat.lt_of_lt_of_le (by have := World.block_lt_of_cell? _ _ hw161_2; first | rwa [add_block] at this | exact this) GW163.out) | (rw [add_block]; exact Nat.ne_of_lt (Nat.lt_of_lt_of_le (by have := World.block_lt_of_cell? _ _ hw161_2; first | rwa [add_block] at this | exact this) GW163.out)) | (show (Addr.add _ _).block ≠ _; rw [add_block]; exact Nat.ne_of_lt (Nat.lt_of_lt_of_le (by have := World.block_lt_of_cell? _ _ hw161_2; first | rwa [add_block] at this | exact this) GW163.out)) | (dsimp only; exact Nat.ne_of_lt (Nat.lt_of_lt_of_le (by have := World.block_lt_of_cell? _ _ hw161_2; first | rwa [add_block] at this | exact this) GW163.out))) _).trans (((cell_far (p := ⟨gb163, _, none⟩) (by first | exact Nat.ne_of_lt (Nat.lt_of_lt_of_le (by have := World.block_lt_of_cell? _ _ hw161_2; first | rwa [add_block] at this | exact this) GW163.out) | (rw [add_block]; exact Nat.ne_of_lt (Nat.lt_of_lt_of_le (by have := World.block_lt_of_cell? _ _ hw161_2; first | rwa [add_block] at this | exact this) GW163.out)) | (show (Addr.add _ _).block ≠ _; rw [add_block]; exact Nat.ne_of_lt (Nat.lt_of_lt_of_le (by have := World.block_lt_of_cell? _ _ hw161_2; first | rwa [add_block] at this | exact this) GW163.out)) | (dsimp only; exact Nat.ne_of_lt (Nat.lt_of_lt_of_le (by have := World.block_lt_of_cell? _ _ hw161_2; first | rwa [add_block] at this | exact this) GW163.out))) _).trans (hHeld.2.2.2.2.2.2.2.1)))))))))))), ((cell_far (p := ⟨gb163, _, none⟩) (by first | exact Nat.ne_of_lt (Nat.lt_of_lt_of_le (by have := World.block_lt_of_cell? _ _ hw161_3; first | rwa [add_block] at this | exact this) GW163.out) | (rw [add_block]; exact Nat.ne_of_lt (Nat.lt_of_lt_of_le (by have := World.block_lt_of_cell? _ _ hw161_3; first | rwa [add_block] at this | exact this) GW163.out)) | (show (Addr.add _ _).block ≠ _; rw [add_block]; exact Nat.ne_of_lt (Nat.lt_of_lt_of_le (by have := World.block_lt_of_cell? _ _ hw161_3; first | rwa [add_block] at this | exact this) GW163.out)) | (dsimp only; exact Nat.ne_of_lt (Nat.lt_of_lt_of_le (by have := World.block_lt_of_cell? _ _ hw161_3; first | rwa [add_block] at this | exact this) GW163.out))) _).trans (((cell_far (p := ⟨gb163, _, none⟩) (by first | exact Nat.ne_of_lt (Nat.lt_of_lt_of_le (by have := World.block_lt_of_cell? _ _ hw161_3; first | rwa [add_block] at this | exact this) GW163.out) | (rw [add_block]; exact Nat.ne_of_lt (Nat.lt_of_lt_of_le (by have := World.block_lt_of_cell? _ _ hw161_3; first | rwa [add_block] at this | exact this) GW163.out)) | (show (Addr.add _ _).block ≠ _; rw [add_block]; exact Nat.ne_of_lt (Nat.lt_of_lt_of_le (by have := World.block_lt_of_cell? _ _ hw161_3; first | rwa [add_block] at this | exact this) GW163.out)) | (dsimp only; exact Nat.ne_of_lt (Nat.lt_of_lt_of_le (by have := World.block_lt_of_cell? _ _ hw161_3; first | rwa [add_block] at this | exact this) GW163.out))) _).trans (((cell_far (p := ⟨gb163, _, none⟩) (by first | exact Nat.ne_of_lt (Nat.lt_of_lt_of_le (by have := World.block_lt_of_cell? _ _ hw161_3; first | rwa [add_block] at this | exact this) GW163.out) | (rw [add_block]; exact Nat.ne_of_lt (Nat.lt_of_lt_of_le (by have := World.block_lt_of_cell? _ _ hw161_3; first | rwa [add_block] at this | exact this) GW163.out)) | (show (Addr.add _ _).block ≠ _; rw [add_block]; exact Nat.ne_of_lt (Nat.lt_of_lt_of_le (by have := World.block_lt_of_cell? _ _ hw161_3; first | rwa [add_block] at this | exact this) GW163.out)) | (dsimp only; exact Nat.ne_of_lt (Nat.lt_of_lt_of_le (by have := World.block_lt_of_cell? _ _ hw161_3; first | rwa [add_block] at this | exact this) GW163.out))) _).trans (((cell_far (p := ⟨gb163, _, none⟩) (by first | exact Nat.ne_of_lt (Nat.lt_of_lt_of_le (by have := World.block_lt_of_cell? _ _ hw161_3; first | rwa [add_block] at this | exact this) GW163.out) | (rw [add_block]; exact Nat.ne_of_lt (Nat.lt_of_lt_of_le (by have := World.block_lt_of_cell? _ _ hw161_3; first | rwa [add_block] at this | exact this) GW163.out)) | (show (Addr.add _ _).block ≠ _; rw [add_block]; exact Nat.ne_of_lt (Nat.lt_of_lt_of_le (by have := World.block_lt_of_cell? _ _ hw161_3; first | rwa [add_block] at this | exact this) GW163.out)) | (dsimp only; exact Nat.ne_of_lt (Nat.lt_of_lt_of_le (by have := World.block_lt_of_cell? _ _ hw161_3; first | rwa [add_block] at this | exact this) GW163.out))) _).trans (((cell_far (p := ⟨gb163, _, none⟩) (by first | exact Nat.ne_of_lt (Nat.lt_of_lt_of_le (by have := World.block_lt_of_cell? _ _ hw161_3; first | rwa [add_block] at this | exact this) GW163.out) | (rw [add_block]; exact Nat.ne_of_lt (Nat.lt_of_lt_of_le (by have := World.block_lt_of_cell? _ _ hw161_3; first | rwa [add_block] at this | exact this) GW163.out)) | (show (Addr.add _ _).block ≠ _; rw [add_block]; exact Nat.ne_of_lt (Nat.lt_of_lt_of_le (by have := World.block_lt_of_cell? _ _ hw161_3; first | rwa [add_block] at this | exact this) GW163.out)) | (dsimp only; exact Nat.ne_of_lt (Nat.lt_of_lt_of_le (by have := World.block_lt_of_cell? _ _ hw161_3; first | rwa [add_block] at this | exact this) GW163.out))) _).trans (((cell_far (p := ⟨gb163, _, none⟩) (by first | exact Nat.ne_of_lt (Nat.lt_of_lt_of_le (by have := World.block_lt_of_cell? _ _ hw161_3; first | rwa [add_block] at this | exact this) GW163.out) | (rw [add_block]; exact Nat.ne_of_lt (Nat.lt_of_lt_of_le (by have := World.block_lt_of_cell? _ _ hw161_3; first | rwa [add_block] at this | exact this) GW163.out)) | (show (Addr.add _ _).block ≠ _; rw [add_block]; exact Nat.ne_of_lt (Nat.lt_of_lt_of_le (by have := World.block_lt_of_cell? _ _ hw161_3; first | rwa [add_block] at this | exact this) GW163.out)) | (dsimp only; exact Nat.ne_of_lt (Nat.lt_of_lt_of_le (by have := World.block_lt_of_cell? _ _ hw161_3; first | rwa [add_block] at this | exact this) GW163.out))) _).trans (hHeld.2.2.2.2.2.2.2.2.1)))))))))))), ((cell_far (p := ⟨gb163, _, none⟩) (by first | exact Nat.ne_of_lt (Nat.lt_of_lt_of_le (by have := World.block_lt_of_cell? _ _ hw161_4; first | rwa [add_block] at this | exact this) GW163.out) | (rw [add_block]; exact Nat.ne_of_lt (Nat.lt_of_lt_of_le (by have := World.block_lt_of_cell? _ _ hw161_4; first | rwa [add_block] at this | exact this) GW163.out)) | (show (Addr.add _ _).block ≠ _; rw [add_block]; exact Nat.ne_of_lt (Nat.lt_of_lt_of_le (by have := World.block_lt_of_cell? _ _ hw161_4; first | rwa [add_block] at this | exact this) GW163.out)) | (dsimp only; exact Nat.ne_of_lt (Nat.lt_of_lt_of_le (by have := World.block_lt_of_cell? _ _ hw161_4; first | rwa [add_block] at this | exact this) GW163.out))) _).trans (((cell_far (p := ⟨gb163, _, none⟩) (by first | exact Nat.ne_of_lt (Nat.lt_of_lt_of_le (by have := World.block_lt_of_cell? _ _ hw161_4; first | rwa [add_block] at this | exact this) GW163.out) | (rw [add_block]; exact Nat.ne_of_lt (Nat.lt_of_lt_of_le (by have := World.block_lt_of_cell? _ _ hw161_4; first | rwa [add_block] at this | exact this) GW163.out)) | (show (Addr.add _ _).block ≠ _; rw [add_block]; exact Nat.ne_of_lt (Nat.lt_of_lt_of_le (by have := World.block_lt_of_cell? _ _ hw161_4; first | rwa [add_block] at this | exact this) GW163.out)) | (dsimp only; exact Nat.ne_of_lt (Nat.lt_of_lt_of_le (by have := World.block_lt_of_cell? _ _ hw161_4; first | rwa [add_block] at this | exact this) GW163.out))) _).trans (((cell_far (p := ⟨gb163, _, none⟩) (by first | exact Nat.ne_of_lt (Nat.lt_of_lt_of_le (by have := World.block_lt_of_cell? _ _ hw161_4; first | rwa [add_block] at this | exact this) GW163.out) | (rw [add_block]; exact Nat.ne_of_lt (Nat.lt_of_lt_of_le (by have := World.block_lt_of_cell? _ _ hw161_4; first | rwa [add_block] at this | exact this) GW163.out)) | (show (Addr.add _ _).block ≠ _; rw [add_block]; exact Nat.ne_of_lt (Nat.lt_of_lt_of_le (by have := World.block_lt_of_cell? _ _ hw161_4; first | rwa [add_block] at this | exact this) GW163.out)) | (dsimp only; exact Nat.ne_of_lt (Nat.lt_of_lt_of_le (by have := World.block_lt_of_cell? _ _ hw161_4; first | rwa [add_block] at this | exact this) GW163.out))) _).trans (((cell_far (p := ⟨gb163, _, none⟩) (by first | exact Nat.ne_of_lt (Nat.lt_of_lt_of_le (by have := World.block_lt_of_cell? _ _ hw161_4; first | rwa [add_block] at this | exact this) GW163.out) | (rw [add_block]; exact Nat.ne_of_lt (Nat.lt_of_lt_of_le (by have := World.block_lt_of_cell? _ _ hw161_4; first | rwa [add_block] at this | exact this) GW163.out)) | (show (Addr.add _ _).block ≠ _; rw [add_block]; exact Nat.ne_of_lt (Nat.lt_of_lt_of_le (by have := World.block_lt_of_cell? _ _ hw161_4; first | rwa [add_block] at this | exact this) GW163.out)) | (dsimp only; exact Nat.ne_of_lt (Nat.lt_of_lt_of_le (by have := World.block_lt_of_cell? _ _ hw161_4; first | rwa [add_block] at this | exact this) GW163.out))) _).trans (((cell_far (p := ⟨gb163, _, none⟩) (by first | exact Nat.ne_of_lt (Nat.lt_of_lt_of_le (by have := World.block_lt_of_cell? _ _ hw161_4; first | rwa [add_block] at this | exact this) GW163.out) | (rw [add_block]; exact Nat.ne_of_lt (Nat.lt_of_lt_of_le (by have := World.block_lt_of_cell? _ _ hw161_4; first | rwa [add_block] at this | exact this) GW163.out)) | (show (Addr.add _ _).block ≠ _; rw [add_block]; exact Nat.ne_of_lt (Nat.lt_of_lt_of_le (by have := World.block_lt_of_cell? _ _ hw161_4; first | rwa [add_block] at this | exact this) GW163.out)) | (dsimp only; exact Nat.ne_of_lt (Nat.lt_of_lt_of_le (by have := World.block_lt_of_cell? _ _ hw161_4; first | rwa [add_block] at this | exact this) GW163.out))) _).trans (((cell_far (p := ⟨gb163, _, none⟩) (by first | exact Nat.ne_of_lt (Nat.lt_of_lt_of_le (by have := World.block_lt_of_cell? _ _ hw161_4; first | rwa [add_block] at this | exact this) GW163.out) | (rw [add_block]; exact Nat.ne_of_lt (Nat.lt_of_lt_of_le (by have := World.block_lt_of_cell? _ _ hw161_4; first | rwa [add_block] at this | exact this) GW163.out)) | (show (Addr.add _ _).block ≠ _; rw [add_block]; exact Nat.ne_of_lt (Nat.lt_of_lt_of_le (by have := World.block_lt_of_cell? _ _ hw161_4; first | rwa [add_block] at this | exact this) GW163.out)) | (dsimp only; exact Nat.ne_of_lt (Nat.lt_of_lt_of_le (by have := World.block_lt_of_cell? _ _ hw161_4; first | rwa [add_block] at this | exact this) GW163.out))) _).trans (hHeld.2.2.2.2.2.2.2.2.2.1)))))))))))), ((cell_far (p := ⟨gb163, _, none⟩) (by first | exact Nat.ne_of_lt (Nat.lt_of_lt_of_le (by have := World.block_lt_of_cell? _ _ hw162_0; first | rwa [add_block] at this | exact this) GW163.out) | (rw [add_block]; exact Nat.ne_of_lt (Nat.lt_of_lt_of_le (by have := World.block_lt_of_cell? _ _ hw162_0; first | rwa [add_block] at this | exact this) GW163.out)) | (show (Addr.add _ _).block ≠ _; rw [add_block]; exact Nat.ne_of_lt (Nat.lt_of_lt_of_le (by have := World.block_lt_of_cell? _ _ hw162_0; first | rwa [add_block] at this | exact this) GW163.out)) | (dsimp only; exact Nat.ne_of_lt (Nat.lt_of_lt_of_le (by have := World.block_lt_of_cell? _ _ hw162_0; first | rwa [add_block] at this | exact this) GW163.out))) _).trans (((cell_far (p := ⟨gb163, _, none⟩) (by first | exact Nat.ne_of_lt (Nat.lt_of_lt_of_le (by have := World.block_lt_of_cell? _ _ hw162_0; first | rwa [add_block] at this | exact this) GW163.out) | (rw [add_block]; exact Nat.ne_of_lt (Nat.lt_of_lt_of_le (by have := World.block_lt_of_cell? _ _ hw162_0; first | rwa [add_block] at this | exact this) GW163.out)) | (show (Addr.add _ _).block ≠ _; rw [add_block]; exact Nat.ne_of_lt (Nat.lt_of_lt_of_le (by have := World.block_lt_of_cell? _ _ hw162_0; first | rwa [add_block] at this | exact this) GW163.out)) | (dsimp only; exact Nat.ne_of_lt (Nat.lt_of_lt_of_le (by have := World.block_lt_of_cell? _ _ hw162_0; first | rwa [add_block] at this | exact this) GW163.out))) _).trans (((cell_far (p := ⟨gb163, _, none⟩) (by first | exact Nat.ne_of_lt (Nat.lt_of_lt_of_le (by have := World.block_lt_of_cell? _ _ hw162_0; first | rwa [add_block] at this | exact this) GW163.out) | (rw [add_block]; exact Nat.ne_of_lt (Nat.lt_of_lt_of_le (by have := World.block_lt_of_cell? _ _ hw162_0; first | rwa [add_block] at this | exact this) GW163.out)) | (show (Addr.add _ _).block ≠ _; rw [add_block]; exact Nat.ne_of_lt (Nat.lt_of_lt_of_le (by have := World.block_lt_of_cell? _ _ hw162_0; first | rwa [add_block] at this | exact this) GW163.out)) | (dsimp only; exact Nat.ne_of_lt (Nat.lt_of_lt_of_le (by have := World.block_lt_of_cell? _ _ hw162_0; first | rwa [add_block] at this | exact this) GW163.out))) _).trans (((cell_far (p := ⟨gb163, _, none⟩) (by first | exact Nat.ne_of_lt (Nat.lt_of_lt_of_le (by have := World.block_lt_of_cell? _ _ hw162_0; first | rwa [add_block] at this | exact this) GW163.out) | (rw [add_block]; exact Nat.ne_of_lt (Nat.lt_of_lt_of_le (by have := World.block_lt_of_cell? _ _ hw162_0; first | rwa [add_block] at this | exact this) GW163.out)) | (show (Addr.add _ _).block ≠ _; rw [add_block]; exact Nat.ne_of_lt (Nat.lt_of_lt_of_le (by have := World.block_lt_of_cell? _ _ hw162_0; first | rwa [add_block] at this | exact this) GW163.out)) | (dsimp only; exact Nat.ne_of_lt (Nat.lt_of_lt_of_le (by have := World.block_lt_of_cell? _ _ hw162_0; first | rwa [add_block] at this | exact this) GW163.out))) _).trans (((cell_far (p := ⟨gb163, _, none⟩) (by first | exact Nat.ne_of_lt (Nat.lt_of_lt_of_le (by have := World.block_lt_of_cell? _ _ hw162_0; first | rwa [add_block] at this | exact this) GW163.out) | (rw [add_block]; exact Nat.ne_of_lt (Nat.lt_of_lt_of_le (by have := World.block_lt_of_cell? _ _ hw162_0; first | rwa [add_block] at this | exact this) GW163.out)) | (show (Addr.add _ _).block ≠ _; rw [add_block]; exact Nat.ne_of_lt (Nat.lt_of_lt_of_le (by have := World.block_lt_of_cell? _ _ hw162_0; first | rwa [add_block] at this | exact this) GW163.out)) | (dsimp only; exact Nat.ne_of_lt (Nat.lt_of_lt_of_le (by have := World.block_lt_of_cell? _ _ hw162_0; first | rwa [add_block] at this | exact this) GW163.out))) _).trans (((cell_far (p := ⟨gb163, _, none⟩) (by first | exact Nat.ne_of_lt (Nat.lt_of_lt_of_le (by have := World.block_lt_of_cell? _ _ hw162_0; first | rwa [add_block] at this | exact this) GW163.out) | (rw [add_block]; exact Nat.ne_of_lt (Nat.lt_of_lt_of_le (by have := World.block_lt_of_cell? _ _ hw162_0; first | rwa [add_block] at this | exact this) GW163.out)) | (show (Addr.add _ _).block ≠ _; rw [add_block]; exact Nat.ne_of_lt (Nat.lt_of_lt_of_le (by have := World.block_lt_of_cell? _ _ hw162_0; first | rwa [add_block] at this | exact this) GW163.out)) | (dsimp only; exact Nat.ne_of_lt (Nat.lt_of_lt_of_le (by have := World.block_lt_of_cell? _ _ hw162_0; first | rwa [add_block] at this | exact this) GW163.out))) _).trans (hHeld.2.2.2.2.2.2.2.2.2.2.1)))))))))))), ((cell_far (p := ⟨gb163, _, none⟩) (by first | exact Nat.ne_of_lt (Nat.lt_of_lt_of_le (by have := World.block_lt_of_cell? _ _ hw162_1; first | rwa [add_block] at this | exact this) GW163.out) | (rw [add_block]; exact Nat.ne_of_lt (Nat.lt_of_lt_of_le (by have := World.block_lt_of_cell? _ _ hw162_1; first | rwa [add_block] at this | exact this) GW163.out)) | (show (Addr.add _ _).block ≠ _; rw [add_block]; exact Nat.ne_of_lt (Nat.lt_of_lt_of_le (by have := World.block_lt_of_cell? _ _ hw162_1; first | rwa [add_block] at this | exact this) GW163.out)) | (dsimp only; exact Nat.ne_of_lt (Nat.lt_of_lt_of_le (by have := World.block_lt_of_cell? _ _ hw162_1; first | rwa [add_block] at this | exact this) GW163.out))) _).trans (((cell_far (p := ⟨gb163, _, none⟩) (by first | exact Nat.ne_of_lt (Nat.lt_of_lt_of_le (by have := World.block_lt_of_cell? _ _ hw162_1; first | rwa [add_block] at this | exact this) GW163.out) | (rw [add_block]; exact Nat.ne_of_lt (Nat.lt_of_lt_of_le (by have := World.block_lt_of_cell? _ _ hw162_1; first | rwa [add_block] at this | exact this) GW163.out)) | (show (Addr.add _ _).block ≠ _; rw [add_block]; exact Nat.ne_of_lt (Nat.lt_of_lt_of_le (by have := World.block_lt_of_cell? _ _ hw162_1; first | rwa [add_block] at this | exact this) GW163.out)) | (dsimp only; exact Nat.ne_of_lt (Nat.lt_of_lt_of_le (by have := World.block_lt_of_cell? _ _ hw162_1; first | rwa [add_block] at this | exact this) GW163.out))) _).trans (((cell_far (p := ⟨gb163, _, none⟩) (by first | exact Nat.ne_of_lt (Nat.lt_of_lt_of_le (by have := World.block_lt_of_cell? _ _ hw162_1; first | rwa [add_block] at this | exact this) GW163.out) | (rw [add_block]; exact Nat.ne_of_lt (Nat.lt_of_lt_of_le (by have := World.block_lt_of_cell? _ _ hw162_1; first | rwa [add_block] at this | exact this) GW163.out)) | (show (Addr.add _ _).block ≠ _; rw [add_block]; exact Nat.ne_of_lt (Nat.lt_of_lt_of_le (by have := World.block_lt_of_cell? _ _ hw162_1; first | rwa [add_block] at this | exact this) GW163.out)) | (dsimp only; exact Nat.ne_of_lt (Nat.lt_of_lt_of_le (by have := World.block_lt_of_cell? _ _ hw162_1; first | rwa [add_block] at this | exact this) GW163.out))) _).trans (((cell_far (p := ⟨gb163, _, none⟩) (by first | exact Nat.ne_of_lt (Nat.lt_of_lt_of_le (by have := World.block_lt_of_cell? _ _ hw162_1; first | rwa [add_block] at this | exact this) GW163.out) | (rw [add_block]; exact Nat.ne_of_lt (Nat.lt_of_lt_of_le (by have := World.block_lt_of_cell? _ _ hw162_1; first | rwa [add_block] at this | exact this) GW163.out)) | (show (Addr.add _ _).block ≠ _; rw [add_block]; exact Nat.ne_of_lt (Nat.lt_of_lt_of_le (by have := World.block_lt_of_cell? _ _ hw162_1; first | rwa [add_block] at this | exact this) GW163.out)) | (dsimp only; exact Nat.ne_of_lt (Nat.lt_of_lt_of_le (by have := World.block_lt_of_cell? _ _ hw162_1; first | rwa [add_block] at this | exact this) GW163.out))) _).trans (((cell_far (p := ⟨gb163, _, none⟩) (by first | exact Nat.ne_of_lt (Nat.lt_of_lt_of_le (by have := World.block_lt_of_cell? _ _ hw162_1; first | rwa [add_block] at this | exact this) GW163.out) | (rw [add_block]; exact Nat.ne_of_lt (Nat.lt_of_lt_of_le (by have := World.block_lt_of_cell? _ _ hw162_1; first | rwa [add_block] at this | exact this) GW163.out)) | (show (Addr.add _ _).block ≠ _; rw [add_block]; exact Nat.ne_of_lt (Nat.lt_of_lt_of_le (by have := World.block_lt_of_cell? _ _ hw162_1; first | rwa [add_block] at this | exact this) GW163.out)) | (dsimp only; exact Nat.ne_of_lt (Nat.lt_of_lt_of_le (by have := World.block_lt_of_cell? _ _ hw162_1; first | rwa [add_block] at this | exact this) GW163.out))) _).trans (((cell_far (p := ⟨gb163, _, none⟩) (by first | exact Nat.ne_of_lt (Nat.lt_of_lt_of_le (by have := World.block_lt_of_cell? _ _ hw162_1; first | rwa [add_block] at this | exact this) GW163.out) | (rw [add_block]; exact Nat.ne_of_lt (Nat.lt_of_lt_of_le (by have := World.block_lt_of_cell? _ _ hw162_1; first | rwa [add_block] at this | exact this) GW163.out)) | (show (Addr.add _ _).block ≠ _; rw [add_block]; exact Nat.ne_of_lt (Nat.lt_of_lt_of_le (by have := World.block_lt_of_cell? _ _ hw162_1; first | rwa [add_block] at this | exact this) GW163.out)) | (dsimp only; exact Nat.ne_of_lt (Nat.lt_of_lt_of_le (by have := World.block_lt_of_cell? _ _ hw162_1; first | rwa [add_block] at this | exact this) GW163.out))) _).trans (hHeld.2.2.2.2.2.2.2.2.2.2.2.1)))))))))))), ((cell_far (p := ⟨gb163, _, none⟩) (by first | exact Nat.ne_of_lt (Nat.lt_of_lt_of_le (by have := World.block_lt_of_cell? _ _ hw162_2; first | rwa [add_block] at this | exact this) GW163.out) | (rw [add_block]; exact Nat.ne_of_lt (Nat.lt_of_lt_of_le (by have := World.block_lt_of_cell? _ _ hw162_2; first | rwa [add_block] at this | exact this) GW163.out)) | (show (Addr.add _ _).block ≠ _; rw [add_block]; exact Nat.ne_of_lt (Nat.lt_of_lt_of_le (by have := World.block_lt_of_cell? _ _ hw162_2; first | rwa [add_block] at this | exact this) GW163.out)) | (dsimp only; exact Nat.ne_of_lt (Nat.lt_of_lt_of_le (by have := World.block_lt_of_cell? _ _ hw162_2; first | rwa [add_block] at this | exact this) GW163.out))) _).trans (((cell_far (p := ⟨gb163, _, none⟩) (by first | exact Nat.ne_of_lt (Nat.lt_of_lt_of_le (by have := World.block_lt_of_cell? _ _ hw162_2; first | rwa [add_block] at this | exact this) GW163.out) | (rw [add_block]; exact Nat.ne_of_lt (Nat.lt_of_lt_of_le (by have := World.block_lt_of_cell? _ _ hw162_2; first | rwa [add_block] at this | exact this) GW163.out)) | (show (Addr.add _ _).block ≠ _; rw [add_block]; exact Nat.ne_of_lt (Nat.lt_of_lt_of_le (by have := World.block_lt_of_cell? _ _ hw162_2; first | rwa [add_block] at this | exact this) GW163.out)) | (dsimp only; exact Nat.ne_of_lt (Nat.lt_of_lt_of_le (by have := World.block_lt_of_cell? _ _ hw162_2; first | rwa [add_block] at this | exact this) GW163.out))) _).trans (((cell_far (p := ⟨gb163, _, none⟩) (by first | exact Nat.ne_of_lt (Nat.lt_of_lt_of_le (by have := World.block_lt_of_cell? _ _ hw162_2; first | rwa [add_block] at this | exact this) GW163.out) | (rw [add_block]; exact Nat.ne_of_lt (Nat.lt_of_lt_of_le (by have := World.block_lt_of_cell? _ _ hw162_2; first | rwa [add_block] at this | exact this) GW163.out)) | (show (Addr.add _ _).block ≠ _; rw [add_block]; exact Nat.ne_of_lt (Nat.lt_of_lt_of_le (by have := World.block_lt_of_cell? _ _ hw162_2; first | rwa [add_block] at this | exact this) GW163.out)) | (dsimp only; exact Nat.ne_of_lt (Nat.lt_of_lt_of_le (by have := World.block_lt_of_cell? _ _ hw162_2; first | rwa [add_block] at this | exact this) GW163.out))) _).trans (((cell_far (p := ⟨gb163, _, none⟩) (by first | exact Nat.ne_of_lt (Nat.lt_of_lt_of_le (by have := World.block_lt_of_cell? _ _ hw162_2; first | rwa [add_block] at this | exact this) GW163.out) | (rw [add_block]; exact Nat.ne_of_lt (Nat.lt_of_lt_of_le (by have := World.block_lt_of_cell? _ _ hw162_2; first | rwa [add_block] at this | exact this) GW163.out)) | (show (Addr.add _ _).block ≠ _; rw [add_block]; exact Nat.ne_of_lt (Nat.lt_of_lt_of_le (by have := World.block_lt_of_cell? _ _ hw162_2; first | rwa [add_block] at this | exact this) GW163.out)) | (dsimp only; exact Nat.ne_of_lt (Nat.lt_of_lt_of_le (by have := World.block_lt_of_cell? _ _ hw162_2; first | rwa [add_block] at this | exact this) GW163.out))) _).trans (((cell_far (p := ⟨gb163, _, none⟩) (by first | exact Nat.ne_of_lt (Nat.lt_of_lt_of_le (by have := World.block_lt_of_cell? _ _ hw162_2; first | rwa [add_block] at this | exact this) GW163.out) | (rw [add_block]; exact Nat.ne_of_lt (Nat.lt_of_lt_of_le (by have := World.block_lt_of_cell? _ _ hw162_2; first | rwa [add_block] at this | exact this) GW163.out)) | (show (Addr.add _ _).block ≠ _; rw [add_block]; exact Nat.ne_of_lt (Nat.lt_of_lt_of_le (by have := World.block_lt_of_cell? _ _ hw162_2; first | rwa [add_block] at this | exact this) GW163.out)) | (dsimp only; exact Nat.ne_of_lt (Nat.lt_of_lt_of_le (by have := World.block_lt_of_cell? _ _ hw162_2; first | rwa [add_block] at this | exact this) GW163.out))) _).trans (((cell_far (p := ⟨gb163, _, none⟩) (by first | exact Nat.ne_of_lt (Nat.lt_of_lt_of_le (by have := World.block_lt_of_cell? _ _ hw162_2; first | rwa [add_block] at this | exact this) GW163.out) | (rw [add_block]; exact Nat.ne_of_lt (Nat.lt_of_lt_of_le (by have := World.block_lt_of_cell? _ _ hw162_2; first | rwa [add_block] at this | exact this) GW163.out)) | (show (Addr.add _ _).block ≠ _; rw [add_block]; exact Nat.ne_of_lt (Nat.lt_of_lt_of_le (by have := World.block_lt_of_cell? _ _ hw162_2; first | rwa [add_block] at this | exact this) GW163.out)) | (dsimp only; exact Nat.ne_of_lt (Nat.lt_of_lt_of_le (by have := World.block_lt_of_cell? _ _ hw162_2; first | rwa [add_block] at this | exact this) GW163.out))) _).trans (hHeld.2.2.2.2.2.2.2.2.2.2.2.2.1)))))))))))), ((cell_far (p := ⟨gb163, _, none⟩) (by first | exact Nat.ne_of_lt (Nat.lt_of_lt_of_le (by have := World.block_lt_of_cell? _ _ hw162_3; first | rwa [add_block] at this | exact this) GW163.out) | (rw [add_block]; exact Nat.ne_of_lt (Nat.lt_of_lt_of_le (by have := World.block_lt_of_cell? _ _ hw162_3; first | rwa [add_block] at this | exact this) GW163.out)) | (show (Addr.add _ _).block ≠ _; rw [add_block]; exact Nat.ne_of_lt (Nat.lt_of_lt_of_le (by have := World.block_lt_of_cell? _ _ hw162_3; first | rwa [add_block] at this | exact this) GW163.out)) | (dsimp only; exact Nat.ne_of_lt (Nat.lt_of_lt_of_le (by have := World.block_lt_of_cell? _ _ hw162_3; first | rwa [add_block] at this | exact this) GW163.out))) _).trans (((cell_far (p := ⟨gb163, _, none⟩) (by first | exact Nat.ne_of_lt (Nat.lt_of_lt_of_le (by have := World.block_lt_of_cell? _ _ hw162_3; first | rwa [add_block] at this | exact this) GW163.out) | (rw [add_block]; exact Nat.ne_of_lt (Nat.lt_of_lt_of_le (by have := World.block_lt_of_cell? _ _ hw162_3; first | rwa [add_block] at this | exact this) GW163.out)) | (show (Addr.add _ _).block ≠ _; rw [add_block]; exact Nat.ne_of_lt (Nat.lt_of_lt_of_le (by have := World.block_lt_of_cell? _ _ hw162_3; first | rwa [add_block] at this | exact this) GW163.out)) | (dsimp only; exact Nat.ne_of_lt (Nat.lt_of_lt_of_le (by have := World.block_lt_of_cell? _ _ hw162_3; first | rwa [add_block] at this | exact this) GW163.out))) _).trans (((cell_far (p := ⟨gb163, _, none⟩) (by first | exact Nat.ne_of_lt (Nat.lt_of_lt_of_le (by have := World.block_lt_of_cell? _ _ hw162_3; first | rwa [add_block] at this | exact this) GW163.out) | (rw [add_block]; exact Nat.ne_of_lt (Nat.lt_of_lt_of_le (by have := World.block_lt_of_cell? _ _ hw162_3; first | rwa [add_block] at this | exact this) GW163.out)) | (show (Addr.add _ _).block ≠ _; rw [add_block]; exact Nat.ne_of_lt (Nat.lt_of_lt_of_le (by have := World.block_lt_of_cell? _ _ hw162_3; first | rwa [add_block] at this | exact this) GW163.out)) | (dsimp only; exact Nat.ne_of_lt (Nat.lt_of_lt_of_le (by have := World.block_lt_of_cell? _ _ hw162_3; first | rwa [add_block] at this | exact this) GW163.out))) _).trans (((cell_far (p := ⟨gb163, _, none⟩) (by first | exact Nat.ne_of_lt (Nat.lt_of_lt_of_le (by have := World.block_lt_of_cell? _ _ hw162_3; first | rwa [add_block] at this | exact this) GW163.out) | (rw [add_block]; exact Nat.ne_of_lt (Nat.lt_of_lt_of_le (by have := World.block_lt_of_cell? _ _ hw162_3; first | rwa [add_block] at this | exact this) GW163.out)) | (show (Addr.add _ _).block ≠ _; rw [add_block]; exact Nat.ne_of_lt (Nat.lt_of_lt_of_le (by have := World.block_lt_of_cell? _ _ hw162_3; first | rwa [add_block] at this | exact this) GW163.out)) | (dsimp only; exact Nat.ne_of_lt (Nat.lt_of_lt_of_le (by have := World.block_lt_of_cell? _ _ hw162_3; first | rwa [add_block] at this | exact this) GW163.out))) _).trans (((cell_far (p := ⟨gb163, _, none⟩) (by first | exact Nat.ne_of_lt (Nat.lt_of_lt_of_le (by have := World.block_lt_of_cell? _ _ hw162_3; first | rwa [add_block] at this | exact this) GW163.out) | (rw [add_block]; exact Nat.ne_of_lt (Nat.lt_of_lt_of_le (by have := World.block_lt_of_cell? _ _ hw162_3; first | rwa [add_block] at this | exact this) GW163.out)) | (show (Addr.add _ _).block ≠ _; rw [add_block]; exact Nat.ne_of_lt (Nat.lt_of_lt_of_le (by have := World.block_lt_of_cell? _ _ hw162_3; first | rwa [add_block] at this | exact this) GW163.out)) | (dsimp only; exact Nat.ne_of_lt (Nat.lt_of_lt_of_le (by have := World.block_lt_of_cell? _ _ hw162_3; first | rwa [add_block] at this | exact this) GW163.out))) _).trans (((cell_far (p := ⟨gb163, _, none⟩) (by first | exact Nat.ne_of_lt (Nat.lt_of_lt_of_le (by have := World.block_lt_of_cell? _ _ hw162_3; first | rwa [add_block] at this | exact this) GW163.out) | (rw [add_block]; exact Nat.ne_of_lt (Nat.lt_of_lt_of_le (by have := World.block_lt_of_cell? _ _ hw162_3; first | rwa [add_block] at this | exact this) GW163.out)) | (show (Addr.add _ _).block ≠ _; rw [add_block]; exact Nat.ne_of_lt (Nat.lt_of_lt_of_le (by have := World.block_lt_of_cell? _ _ hw162_3; first | rwa [add_block] at this | exact this) GW163.out)) | (dsimp only; exact Nat.ne_of_lt (Nat.lt_of_lt_of_le (by have := World.block_lt_of_cell? _ _ hw162_3; first | rwa [add_block] at this | exact this) GW163.out))) _).trans (hHeld.2.2.2.2.2.2.2.2.2.2.2.2.2.1)))))))))))), ((cell_far (p := ⟨gb163, _, none⟩) (by first | exact Nat.ne_of_lt (Nat.lt_of_lt_of_le (by have := World.block_lt_of_cell? _ _ hw162_4; first | rwa [add_block] at this | exact this) GW163.out) | (rw [add_block]; exact Nat.ne_of_lt (Nat.lt_of_lt_of_le (by have := World.block_lt_of_cell? _ _ hw162_4; first | rwa [add_block] at this | exact this) GW163.out)) | (show (Addr.add _ _).block ≠ _; rw [add_block]; exact Nat.ne_of_lt (Nat.lt_of_lt_of_le (by have := World.block_lt_of_cell? _ _ hw162_4; first | rwa [add_block] at this | exact this) GW163.out)) | (dsimp only; exact Nat.ne_of_lt (Nat.lt_of_lt_of_le (by have := World.block_lt_of_cell? _ _ hw162_4; first | rwa [add_block] at this | exact this) GW163.out))) _).trans (((cell_far (p := ⟨gb163, _, none⟩) (by first | exact Nat.ne_of_lt (Nat.lt_of_lt_of_le (by have := World.block_lt_of_cell? _ _ hw162_4; first | rwa [add_block] at this | exact this) GW163.out) | (rw [add_block]; exact Nat.ne_of_lt (Nat.lt_of_lt_of_le (by have := World.block_lt_of_cell? _ _ hw162_4; first | rwa [add_block] at this | exact this) GW163.out)) | (show (Addr.add _ _).block ≠ _; rw [add_block]; exact Nat.ne_of_lt (Nat.lt_of_lt_of_le (by have := World.block_lt_of_cell? _ _ hw162_4; first | rwa [add_block] at this | exact this) GW163.out)) | (dsimp only; exact Nat.ne_of_lt (Nat.lt_of_lt_of_le (by have := World.block_lt_of_cell? _ _ hw162_4; first | rwa [add_block] at this | exact this) GW163.out))) _).trans (((cell_far (p := ⟨gb163, _, none⟩) (by first | exact Nat.ne_of_lt (Nat.lt_of_lt_of_le (by have := World.block_lt_of_cell? _ _ hw162_4; first | rwa [add_block] at this | exact this) GW163.out) | (rw [add_block]; exact Nat.ne_of_lt (Nat.lt_of_lt_of_le (by have := World.block_lt_of_cell? _ _ hw162_4; first | rwa [add_block] at this | exact this) GW163.out)) | (show (Addr.add _ _).block ≠ _; rw [add_block]; exact Nat.ne_of_lt (Nat.lt_of_lt_of_le (by have := World.block_lt_of_cell? _ _ hw162_4; first | rwa [add_block] at this | exact this) GW163.out)) | (dsimp only; exact Nat.ne_of_lt (Nat.lt_of_lt_of_le (by have := World.block_lt_of_cell? _ _ hw162_4; first | rwa [add_block] at this | exact this) GW163.out))) _).trans (((cell_far (p := ⟨gb163, _, none⟩) (by first | exact Nat.ne_of_lt (Nat.lt_of_lt_of_le (by have := World.block_lt_of_cell? _ _ hw162_4; first | rwa [add_block] at this | exact this) GW163.out) | (rw [add_block]; exact Nat.ne_of_lt (Nat.lt_of_lt_of_le (by have := World.block_lt_of_cell? _ _ hw162_4; first | rwa [add_block] at this | exact this) GW163.out)) | (show (Addr.add _ _).block ≠ _; rw [add_block]; exact Nat.ne_of_lt (Nat.lt_of_lt_of_le (by have := World.block_lt_of_cell? _ _ hw162_4; first | rwa [add_block] at this | exact this) GW163.out)) | (dsimp only; exact Nat.ne_of_lt (Nat.lt_of_lt_of_le (by have := World.block_lt_of_cell? _ _ hw162_4; first | rwa [add_block] at this | exact this) GW163.out))) _).trans (((cell_far (p := ⟨gb163, _, none⟩) (by first | exact Nat.ne_of_lt (Nat.lt_of_lt_of_le (by have := World.block_lt_of_cell? _ _ hw162_4; first | rwa [add_block] at this | exact this) GW163.out) | (rw [add_block]; exact Nat.ne_of_lt (Nat.lt_of_lt_of_le (by have := World.block_lt_of_cell? _ _ hw162_4; first | rwa [add_block] at this | exact this) GW163.out)) | (show (Addr.add _ _).block ≠ _; rw [add_block]; exact Nat.ne_of_lt (Nat.lt_of_lt_of_le (by have := World.block_lt_of_cell? _ _ hw162_4; first | rwa [add_block] at this | exact this) GW163.out)) | (dsimp only; exact Nat.ne_of_lt (Nat.lt_of_lt_of_le (by have := World.block_lt_of_cell? _ _ hw162_4; first | rwa [add_block] at this | exact this) GW163.out))) _).trans (((cell_far (p := ⟨gb163, _, none⟩) (by first | exact Nat.ne_of_lt (Nat.lt_of_lt_of_le (by have := World.block_lt_of_cell? _ _ hw162_4; first | rwa [add_block] at this | exact this) GW163.out) | (rw [add_block]; exact Nat.ne_of_lt (Nat.lt_of_lt_of_le (by have := World.block_lt_of_cell? _ _ hw162_4; first | rwa [add_block] at this | exact this) GW163.out)) | (show (Addr.add _ _).block ≠ _; rw [add_block]; exact Nat.ne_of_lt (Nat.lt_of_lt_of_le (by have := World.block_lt_of_cell? _ _ hw162_4; first | rwa [add_block] at this | exact this) GW163.out)) | (dsimp only; exact Nat.ne_of_lt (Nat.lt_of_lt_of_le (by have := World.block_lt_of_cell? _ _ hw162_4; first | rwa [add_block] at this | exact this) GW163.out))) _).trans (hHeld.2.2.2.2.2.2.2.2.2.2.2.2.2.2))))))))))))⟩ (fun hHeld => ?_)
              clear hK K
              refine done_ (done_of HT_.out (by kernel_rfl)) ?_
              try go_wp2
              go_loopg [9] k1 (fun kq v9 w' => ∃ (x9_2 : Int) (x164003_2 : Int) (x164005_2 : Int), v9 = .int .i64 x9_2 ∧ Aside0 (hatstandref14_Calls.l1 kq l0 x6_1 x7_1 x9_2 ((rd_T59 l0 x7_1).f0) ((rd_T59 l0 x7_1).f2) ((rd_T59 l0 x7_1).f3) x164003_2 x7_1 x164005_2 = some (r1, r2)) ∧ Aside0 (kq ≤ k1) ∧ Aside0 (Kd.R k55 55 w' w.heap.size (fun k_ => k_ ≠ gb163) u6 x6_1) ∧ Aside0 (w'.heap[gb163]? = some (.cells #[.int .i64 ((rd_T59 l0 x7_1).f0), .bool ((rd_T59 l0 x7_1).f2), .int .u64 ((rd_T59 l0 x7_1).f3), .int .i64 x164003_2, .int .i64 x7_1, .int .i64 x164005_2] 55 (0, 0))) ∧ Aside0 (Below w.heap.size w w'))
              case atStart => exact ⟨(wrap64 (x7_1 + 1)), (0), ((-1)), (by first | rfl | (simp; done) | (simp [*]; done)), H', ⟨Nat.le_refl _⟩, ⟨by (with_reducible repeat (first | apply Kd.R_alloc | apply Kd.R_drewN | apply Kd.R_drew)); exact Kd.R_mono (Kd.R_far (p := ⟨gb163, 5, none⟩) (Kd.R_far (p := ⟨gb163, 4, none⟩) (Kd.R_far (p := ⟨gb163, 3, none⟩) (Kd.R_far (p := ⟨gb163, 2, none⟩) (Kd.R_far (p := ⟨gb163, 1, none⟩) (Kd.R_far (p := ⟨gb163, 0, none⟩) (Kd.R_mono HO_6.out (fun k_ hk => (⟨hk, hk.2⟩ : _ ∧ k_ ≠ gb163))) (fun _ hk => hk.2) (.int .i64 ((rd_T59 l0 x7_1).f0))) (fun _ hk => hk.2) (.bool ((rd_T59 l0 x7_1).f2))) (fun _ hk => hk.2) (.int .u64 ((rd_T59 l0 x7_1).f3))) (fun _ hk => hk.2) (.int .i64 0)) (fun _ hk => hk.2) (.int .i64 x7_1)) (fun _ hk => hk.2) (.int .i64 (-1))) (fun _ hk => hk.1.2)⟩, ⟨by (with_reducible repeat (first | refine blk_drewN ?_ _ | refine blk_drew ?_ | refine blk_alloc ?_ _)); refine blk_put (cs := #[.int .i64 ((rd_T59 l0 x7_1).f0), .bool ((rd_T59 l0 x7_1).f2), .int .u64 ((rd_T59 l0 x7_1).f3), .int .i64 0, .int .i64 x7_1, .int .i64 0]) ?_ 5 _ rfl; (with_reducible repeat (first | refine blk_drewN ?_ _ | refine blk_drew ?_ | refine blk_alloc ?_ _)); refine blk_put (cs := #[.int .i64 ((rd_T59 l0 x7_1).f0), .bool ((rd_T59 l0 x7_1).f2), .int .u64 ((rd_T59 l0 x7_1).f3), .int .i64 0, .int .i64 0, .int .i64 0]) ?_ 4 _ rfl; (with_reducible repeat (first | refine blk_drewN ?_ _ | refine blk_drew ?_ | refine blk_alloc ?_ _)); refine blk_put (cs := #[.int .i64 ((rd_T59 l0 x7_1).f0), .bool ((rd_T59 l0 x7_1).f2), .int .u64 ((rd_T59 l0 x7_1).f3), .int .i64 0, .int .i64 0, .int .i64 0]) ?_ 3 _ rfl; (with_reducible repeat (first | refine blk_drewN ?_ _ | refine blk_drew ?_ | refine blk_alloc ?_ _)); refine blk_put (cs := #[.int .i64 ((rd_T59 l0 x7_1).f0), .bool ((rd_T59 l0 x7_1).f2), .int .u64 0, .int .i64 0, .int .i64 0, .int .i64 0]) ?_ 2 _ rfl; (with_reducible repeat (first | refine blk_drewN ?_ _ | refine blk_drew ?_ | refine blk_alloc ?_ _)); refine blk_put (cs := #[.int .i64 ((rd_T59 l0 x7_1).f0), .bool false, .int .u64 0, .int .i64 0, .int .i64 0, .int .i64 0]) ?_ 1 _ rfl; (with_reducible repeat (first | refine blk_drewN ?_ _ | refine blk_drew ?_ | refine blk_alloc ?_ _)); refine blk_put (cs := #[.int .i64 0, .bool false, .int .u64 0, .int .i64 0, .int .i64 0, .int .i64 0]) ?_ 0 _ rfl; (with_reducible repeat (first | refine blk_drewN ?_ _ | refine blk_drew ?_ | refine blk_alloc ?_ _)); exact BK163.out⟩, ⟨by repeat (first | (with_reducible first | exact HB.out | apply below_alloc | apply pw_below_drewN | apply below_drew1 | refine below_set ?_ GE163.out) | exact HB.out)⟩⟩
              case round =>
                clear H'
                try clear c1
                try clear p1
                try clear q1
                try clear hx1
                try clear p2
                try clear c3
                try clear c3b0
                try clear c3b1
                try clear c5
                try clear c5b0
                try clear c6
                try clear c6b0
                try clear p6
                try clear q7
                try clear c8
                try clear c11
                try clear c14
                try clear p15
                try clear q15
                try clear hx15
                try clear p16
                try clear q16
                try clear hx16
                try clear hx159_0
                try clear hx159_1
                try clear hx159_2
                try clear hx159_3
                try clear hx159_4
                try clear hx160_0
                try clear hx160_1
                try clear hx160_2
                try clear hx160_3
                try clear hx160_4
                try clear hx161_0
                try clear hx161_1
                try clear hx161_2
                try clear hx161_3
                try clear hx161_4
                try clear hx162_0
                try clear hx162_1
                try clear hx162_2
                try clear hx162_3
                try clear hx162_4
                try clear p159
                try clear p160
                try clear p161
                try clear p162
                try clear p2
                try clear q159
                try clear q160
                try clear q161
                try clear q162
                obtain ⟨x9_2, x164003_2, x164005_2, rfl, HA, HK2, HO_6, BK163, HB⟩ := hrel
                cases gk with
                | zero => exact absurd HA.out (by simp [hatstandref14_Calls.l1])
                | succ k2 =>
                  have H := HA.out
                  clear HA
                  simp only [hatstandref14_Calls.l1] at H
                  have HC17 := Aside0.mk H
                  clear H
                  go_upto_region 11 with (fail)
                  go_cut [56] (fun v56 wc => ∃ (kq : Nat) (x56_16 : Bool), v56 = .bool x56_16 ∧ Aside0 (hatstandref14_Calls.j2 kq l0 x6_1 x7_1 x9_2 x56_16 ((rd_T59 l0 x7_1).f0) ((rd_T59 l0 x7_1).f2) ((rd_T59 l0 x7_1).f3) x164003_2 x7_1 x164005_2 = some (r1, r2)) ∧ Aside0 (kq ≤ k2) ∧ Aside0 (Kd.R k55 55 wc w.heap.size (fun k_ => k_ ≠ gb163) u6 x6_1) ∧ Aside0 (wc.heap[gb163]? = some (.cells #[.int .i64 ((rd_T59 l0 x7_1).f0), .bool ((rd_T59 l0 x7_1).f2), .int .u64 ((rd_T59 l0 x7_1).f3), .int .i64 x164003_2, .int .i64 x7_1, .int .i64 x164005_2] 55 (0, 0))) ∧ Aside0 (Below w.heap.size w wc))
                  case first =>
                    have H := HC17.out
                    clear HC17
                    by_cases c18 : x9_2 < (l0.length : Int)
                    · rw [if_pos c18] at H
                      have c18b0 : decide (x9_2 < (l0.length : Int)) = true := decide_eq_true c18
                      clear c18
                      (first | rw [c18b0] | (simp only [i64_w, i32_w, Go.IntKind.wrap_u32]; rw [c18b0]) | skip)
                      have H' := Aside0.mk H
                      clear H
                      have hcz19_0 : wr.cell? ⟨gb163, 0, none⟩ = some (.int .i64 ((rd_T59 l0 x7_1).f0)) := (blk_cell BK163.out 0).trans rfl
                      have hcz19_1 : wr.cell? ⟨gb163, 1, none⟩ = some (.bool ((rd_T59 l0 x7_1).f2)) := (blk_cell BK163.out 1).trans rfl
                      have hcz19_2 : wr.cell? ⟨gb163, 2, none⟩ = some (.int .u64 ((rd_T59 l0 x7_1).f3)) := (blk_cell BK163.out 2).trans rfl
                      have hcz19_3 : wr.cell? ⟨gb163, 3, none⟩ = some (.int .i64 x164003_2) := (blk_cell BK163.out 3).trans rfl
                      have hcz19_4 : wr.cell? ⟨gb163, 4, none⟩ = some (.int .i64 x7_1) := (blk_cell BK163.out 4).trans rfl
                      have hcz19_5 : wr.cell? ⟨gb163, 5, none⟩ = some (.int .i64 x164005_2) := (blk_cell BK163.out 5).trans rfl
                      have hfz19_0 := blk_frozen BK163.out 0
                      have hfz19_1 := blk_frozen BK163.out 1
                      have hfz19_2 := blk_frozen BK163.out 2
                      have hfz19_3 := blk_frozen BK163.out 3
                      have hfz19_4 := blk_frozen BK163.out 4
                      have hfz19_5 := blk_frozen BK163.out 5
                      go_wp2
                      go_meet
                      case rel => exact ⟨_, (decide (x164005_2 < 0)), (by first | rfl | (simp; done) | (simp [*]; done)), H', ⟨by have := HK1.out; have := HK2.out; first | omega | exact Nat.le_refl _⟩, ⟨by (with_reducible repeat (first | apply Kd.R_alloc | apply Kd.R_drewN | apply Kd.R_drew)); exact HO_6.out⟩, ⟨by (with_reducible repeat (first | refine blk_drewN ?_ _ | refine blk_drew ?_ | refine blk_alloc ?_ _)); exact BK163.out⟩, ⟨by repeat (first | (with_reducible first | exact HB.out | apply below_alloc | apply pw_below_drewN | apply below_drew1 | refine below_set ?_ GE163.out) | exact HB.out)⟩⟩
                    · rw [if_neg c18] at H
                      have c18b0 : decide (x9_2 < (l0.length : Int)) = false := decide_eq_false c18
                      clear c18
                      (first | rw [c18b0] | (simp only [i64_w, i32_w, Go.IntKind.wrap_u32]; rw [c18b0]) | skip)
                      have H' := Aside0.mk H
                      clear H
                      go_wp2
                      go_meet
                      case rel => exact ⟨_, (false), (by first | rfl | (simp; done) | (simp [*]; done)), H', ⟨by have := HK1.out; have := HK2.out; first | omega | exact Nat.le_refl _⟩, ⟨by (with_reducible repeat (first | apply Kd.R_alloc | apply Kd.R_drewN | apply Kd.R_drew)); exact HO_6.out⟩, ⟨by (with_reducible repeat (first | refine blk_drewN ?_ _ | refine blk_drew ?_ | refine blk_alloc ?_ _)); exact BK163.out⟩, ⟨by repeat (first | (with_reducible first | exact HB.out | apply below_alloc | apply pw_below_drewN | apply below_drew1 | refine below_set ?_ GE163.out) | exact HB.out)⟩⟩
                  case rest =>
                    clear HC17
                    try clear c1
                    try clear p1
                    try clear q1
                    try clear hx1
                    try clear p2
                    try clear c3
                    try clear c3b0
                    try clear c3b1
                    try clear c5
                    try clear c5b0
                    try clear c6
                    try clear c6b0
                    try clear p6
                    try clear q7
                    try clear c8
                    try clear c11
                    try clear c14
                    try clear p15
                    try clear q15
                    try clear hx15
                    try clear p16
                    try clear q16
                    try clear hx16
                    try clear c18
                    try clear c18b0
                    try clear hcz19_0
                    try clear hcz19_1
                    try clear hcz19_2
                    try clear hcz19_3
                    try clear hcz19_4
                    try clear hcz19_5
                    try clear hfz19_0
                    try clear hfz19_1
                    try clear hfz19_2
                    try clear hfz19_3
                    try clear hfz19_4
                    try clear hfz19_5
                    try clear hx159_0
                    try clear hx159_1
                    try clear hx159_2
                    try clear hx159_3
                    try clear hx159_4
                    try clear hx160_0
                    try clear hx160_1
                    try clear hx160_2
                    try clear hx160_3
                    try clear hx160_4
                    try clear hx161_0
                    try clear hx161_1
                    try clear hx161_2
                    try clear hx161_3
                    try clear hx161_4
                    try clear hx162_0
                    try clear hx162_1
                    try clear hx162_2
                    try clear hx162_3
                    try clear hx162_4
                    try clear p1
                    try clear p15
                    try clear p159
                    try clear p16
                    try clear p160
                    try clear p161
                    try clear p162
                    try clear p2
                    try clear p6
                    try clear q1
                    try clear q15
                    try clear q159
                    try clear q16
                    try clear q160
                    try clear q161
                    try clear q162
                    try clear q7
                    obtain ⟨kq, x56_16, rfl, HA, HJ16, HO_6, BK163, HB⟩ := hcut
                    cases kq with
                    | zero => exact absurd HA.out (by simp [hatstandref14_Calls.j2])
                    | succ kj16 =>
                      have H := HA.out
                      clear HA
                      simp only [hatstandref14_Calls.j2] at H
                      by_cases c20 : x56_16 = true
                      · subst c20
                        have H1 : (if 0 ≤ x9_2 then (if x9_2 < (l0.length : Int) then (if ((rd_T59 l0 x9_2).f0) = ((rd_T59 l0 x7_1).f0) then (hatstandref14_Calls.l1 kj16 l0 x6_1 x7_1 (wrap64 (x9_2 + 1)) ((rd_T59 l0 x7_1).f0) ((rd_T59 l0 x7_1).f2) ((rd_T59 l0 x7_1).f3) ((rd_T59 l0 x9_2).f4) x7_1 x9_2) else (hatstandref14_Calls.l1 kj16 l0 x6_1 x7_1 (wrap64 (x9_2 + 1)) ((rd_T59 l0 x7_1).f0) ((rd_T59 l0 x7_1).f2) ((rd_T59 l0 x7_1).f3) x164003_2 x7_1 x164005_2)) else (none)) else (none)) = some (r1, r2) := by rw [if_pos rfl] at H; exact H
                        clear H
                        have H := H1
                        clear H1
                        by_cases c21 : 0 ≤ x9_2
                        · rw [if_pos c21] at H
                          have c21b0 : decide (0 ≤ x9_2) = true := decide_eq_true c21
                          clear c21
                          by_cases c22 : x9_2 < (l0.length : Int)
                          · rw [if_pos c22] at H
                            have c22b0 : decide (x9_2 < (l0.length : Int)) = true := decide_eq_true c22
                            clear c22
                            by_cases c23 : ((rd_T59 l0 x9_2).f0) = ((rd_T59 l0 x7_1).f0)
                            · rw [if_pos c23] at H
                              have c23b0 : (((rd_T59 l0 x9_2).f0) == ((rd_T59 l0 x7_1).f0)) = true := beq_iff_eq.mpr c23
                              have c23b1 : (((rd_T59 l0 x9_2).f0) != ((rd_T59 l0 x7_1).f0)) = false := bne_eq_false_iff_eq.mpr c23
                              clear c23
                              have H' := Aside0.mk H
                              clear H
                              try go_wp2
                              have n0_ := Aside0.mk (Kd.R_drew HO_6.out)
                              have n1_ := Aside0.mk (blk_drew BK163.out)
                              have n2_ := Aside0.mk (below_drew1 HB.out)
                              clear HO_6
                              clear BK163
                              clear HB
                              have HO_6 := n0_
                              have BK163 := n1_
                              have HB := n2_
                              clear n0_ n1_ n2_
                              have p164 : 0 ≤ (x9_2 : Int) := of_decide_eq_true (by first | (with_reducible assumption) | assumption)
                              have q164 : x9_2 < (l0.length : Int) := of_decide_eq_true (by first | (with_reducible assumption) | assumption)
                              obtain ⟨ad164, e164, hx164_0, hx164_1, hx164_2, hx164_3, hx164_4⟩ := at_T59 HR0.out x9_2 p164 q164
                              have hw164_4 := hx164_4
                              have hw164_3 := hx164_3
                              have hw164_2 := hx164_2
                              have hw164_1 := hx164_1
                              have hw164_0 := hx164_0
                              (try rw [← Nbq7.out] at hx164_1)
                              (try rw [← Nbq7.out] at hw164_1)
                              (try rw [← Nbq7.out] at hx164_2)
                              (try rw [← Nbq7.out] at hw164_2)
                              obtain rfl : ad159 = ad164 := (by injection e164)
                              replace hx164_0 := (HB.out.cell (World.block_lt_of_cell? w _ hx164_0)).trans hx164_0
                              replace hx164_1 := (HB.out.cell (World.block_lt_of_cell? w _ hx164_1)).trans hx164_1
                              replace hx164_2 := (HB.out.cell (World.block_lt_of_cell? w _ hx164_2)).trans hx164_2
                              replace hx164_3 := (HB.out.cell (World.block_lt_of_cell? w _ hx164_3)).trans hx164_3
                              replace hx164_4 := (HB.out.cell (World.block_lt_of_cell? w _ hx164_4)).trans hx164_4
                              replace p164 := eq_true p164
                              replace q164 := eq_true q164
                              refine start_ (n := 8) (S := fun w' => w'.cell? ⟨gb163, 0, none⟩ = some (.int .i64 ((rd_T59 l0 x7_1).f0)) ∧ w'.cell? ⟨gb163, 1, none⟩ = some (.bool ((rd_T59 l0 x7_1).f2)) ∧ w'.cell? ⟨gb163, 2, none⟩ = some (.int .u64 ((rd_T59 l0 x7_1).f3)) ∧ w'.cell? ⟨gb163, 3, none⟩ = some (.int .i64 x164003_2) ∧ w'.cell? ⟨gb163, 4, none⟩ = some (.int .i64 x7_1) ∧ w'.cell? ⟨gb163, 5, none⟩ = some (.int .i64 x164005_2) ∧ w'.cell? (ad159.add ((x9_2).toNat * 5)) = some (.int .i64 ((rd_T59 l0 x9_2).f0)) ∧ w'.cell? ⟨(ad159.add ((x9_2).toNat * 5)).block, (ad159.add ((x9_2).toNat * 5)).off + 1, none⟩ = some (.bool ((rd_T59 l0 x9_2).f1)) ∧ w'.cell? ⟨(ad159.add ((x9_2).toNat * 5)).block, (ad159.add ((x9_2).toNat * 5)).off + 2, none⟩ = some (.bool ((rd_T59 l0 x9_2).f2)) ∧ w'.cell? ⟨(ad159.add ((x9_2).toNat * 5)).block, (ad159.add ((x9_2).toNat * 5)).off + 3, none⟩ = some (.int .u64 ((rd_T59 l0 x9_2).f3)) ∧ w'.cell? ⟨(ad159.add ((x9_2).toNat * 5)).block, (ad159.add ((x9_2).toNat * 5)).off + 4, none⟩ = some (.int .i64 ((rd_T59 l0 x9_2).f4))) (ds := []) #[false, false, false, false, false, false, false, false] (by kernel_rfl) rfl rfl ⟨(blk_cell BK163.out 0).trans rfl, (blk_cell BK163.out 1).trans rfl, (blk_cell BK163.out 2).trans rfl, (blk_cell BK163.out 3).trans rfl, (blk_cell BK163.out 4).trans rfl, (blk_cell BK163.out 5).trans rfl, ((HB.out.cell (World.block_lt_of_cell? w _ hw164_0)).trans hw164_0), ((HB.out.cell (World.block_lt_of_cell? w _ hw164_1)).trans hw164_1), ((HB.out.cell (World.block_lt_of_cell? w _ hw164_2)).trans hw164_2), ((HB.out.cell (World.block_lt_of_cell? w _ hw164_3)).trans hw164_3), ((HB.out.cell (World.block_lt_of_cell? w _ hw164_4)).trans hw164_4)⟩ (fun hHeld => ?_); refine with_tabW hatstandref14_Calls.tab13 hatstandref14_Calls.bits13 (fun HT_ HW_ => ?_)
                              generalize wc.drew = w24 at HO_6 BK163 HB hx164_0 hx164_1 hx164_2 hx164_3 hx164_4 hHeld ⊢
                              refine pure_ (i := 0) (N := some 59) (v := ?_) (a' := ?_) #[true, false, false, false, false, false, false, false] rfl rfl (any_of HT_.out (by kernel_rfl)) (fun _ _ _ h => h) (Or.inl ⟨by rfl, ?_⟩) ?_ ?_
                              rotate_left
                              · intro w'
                                go_simp
                                with_reducible rfl
                              rotate_left
                              · simp only [Act.put, List.setIfInBounds_toArray, List.set_cons_zero, List.set_cons_succ, i64_w, i32_w, Go.IntKind.wrap_u32]
                                rfl
                              refine pure_ (i := 1) (N := some 60) (v := ?_) (a' := ?_) #[true, true, false, false, false, false, false, false] rfl rfl (any_of HT_.out (by kernel_rfl)) (fun _ _ _ h => h) (Or.inl ⟨by rfl, ?_⟩) ?_ ?_
                              rotate_left
                              · intro w'
                                go_simp
                                with_reducible rfl
                              rotate_left
                              · simp only [Act.put, List.setIfInBounds_toArray, List.set_cons_zero, List.set_cons_succ, i64_w, i32_w, Go.IntKind.wrap_u32]
                                rfl
                              refine pure_ (i := 2) (N := some 61) (v := ?_) (a' := ?_) #[true, true, true, false, false, false, false, false] rfl rfl (any_of HT_.out (by kernel_rfl)) (fun _ _ _ h => h) (Or.inl ⟨by rfl, ?_⟩) ?_ ?_
                              rotate_left
                              · intro w'
                                go_simp
                                with_reducible rfl
                              rotate_left
                              · simp only [Act.put, List.setIfInBounds_toArray, List.set_cons_zero, List.set_cons_succ, i64_w, i32_w, Go.IntKind.wrap_u32]
                                rfl
                              refine pure_ (i := 3) (N := some 62) (v := ?_) (a' := ?_) #[true, true, true, true, false, false, false, false] rfl rfl (any_of HT_.out (by kernel_rfl)) (fun _ _ _ h => h) (Or.inl ⟨by rfl, ?_⟩) ?_ ?_
                              rotate_left
                              · intro w'
                                go_simp
                                with_reducible rfl
                              rotate_left
                              · simp only [Act.put, List.setIfInBounds_toArray, List.set_cons_zero, List.set_cons_succ, i64_w, i32_w, Go.IntKind.wrap_u32]
                                rfl
                              refine pure_ (i := 5) (N := some 64) (v := ?_) (a' := ?_) #[true, true, true, true, false, true, false, false] rfl rfl (any_of HT_.out (by kernel_rfl)) (fun _ _ _ h => h) (Or.inl ⟨by rfl, ?_⟩) ?_ ?_
                              rotate_left
                              · intro w'
                                go_simp
                                with_reducible rfl
                              rotate_left
                              · simp only [Act.put, List.setIfInBounds_toArray, List.set_cons_zero, List.set_cons_succ, i64_w, i32_w, Go.IntKind.wrap_u32]
                                rfl
                              refine take_ (i := 4) (N := some 63) (v := ?_) (a' := ?_) #[true, true, true, true, true, true, false, false] rfl rfl (take_ofW HT_.out HW_.out (by kernel_rfl)) (fun _ _ _ h => h) (Or.inl ⟨by rfl, ?_⟩) hHeld ?_ ?_
                              rotate_left
                              · rintro w' ⟨s0, s1, s2, s3, s4, s5, s6, s7, s8, s9, s10⟩
                                go_simp
                                with_reducible rfl
                              rotate_left
                              · simp only [Act.put, List.setIfInBounds_toArray, List.set_cons_zero, List.set_cons_succ, i64_w, i32_w, Go.IntKind.wrap_u32]
                                rfl
                              refine take_ (i := 6) (N := some 65) (v := ?_) (a' := ?_) #[true, true, true, true, true, true, true, false] rfl rfl (take_ofW HT_.out HW_.out (by kernel_rfl)) (fun _ _ _ h => h) (Or.inl ⟨by rfl, ?_⟩) hHeld ?_ ?_
                              rotate_left
                              · rintro w' ⟨s0, s1, s2, s3, s4, s5, s6, s7, s8, s9, s10⟩
                                go_simp
                                with_reducible rfl
                              rotate_left
                              · simp only [Act.put, List.setIfInBounds_toArray, List.set_cons_zero, List.set_cons_succ, i64_w, i32_w, Go.IntKind.wrap_u32]
                                rfl
                              refine pure_ (i := 7) (N := some 66) (v := ?_) (a' := ?_) #[true, true, true, true, true, true, true, true] rfl rfl (any_of HT_.out (by kernel_rfl)) (fun _ _ _ h => h) (Or.inl ⟨by rfl, ?_⟩) ?_ ?_
                              rotate_left
                              · intro w'
                                go_simp
                                with_reducible rfl
                              rotate_left
                              · simp only [Act.put, List.setIfInBounds_toArray, List.set_cons_zero, List.set_cons_succ, i64_w, i32_w, Go.IntKind.wrap_u32]
                                rfl
                              refine done_ (done_of HT_.out (by kernel_rfl)) ?_
                              have hcz25_0 : w24.cell? ⟨gb163, 0, none⟩ = some (.int .i64 ((rd_T59 l0 x7_1).f0)) := (blk_cell BK163.out 0).trans rfl
                              have hcz25_1 : w24.cell? ⟨gb163, 1, none⟩ = some (.bool ((rd_T59 l0 x7_1).f2)) := (blk_cell BK163.out 1).trans rfl
                              have hcz25_2 : w24.cell? ⟨gb163, 2, none⟩ = some (.int .u64 ((rd_T59 l0 x7_1).f3)) := (blk_cell BK163.out 2).trans rfl
                              have hcz25_3 : w24.cell? ⟨gb163, 3, none⟩ = some (.int .i64 x164003_2) := (blk_cell BK163.out 3).trans rfl
                              have hcz25_4 : w24.cell? ⟨gb163, 4, none⟩ = some (.int .i64 x7_1) := (blk_cell BK163.out 4).trans rfl
                              have hcz25_5 : w24.cell? ⟨gb163, 5, none⟩ = some (.int .i64 x164005_2) := (blk_cell BK163.out 5).trans rfl
                              have hfz25_0 := blk_frozen BK163.out 0
                              have hfz25_1 := blk_frozen BK163.out 1
                              have hfz25_2 := blk_frozen BK163.out 2
                              have hfz25_3 := blk_frozen BK163.out 3
                              have hfz25_4 := blk_frozen BK163.out 4
                              have hfz25_5 := blk_frozen BK163.out 5
                              have p165 : 0 ≤ (x9_2 : Int) := of_decide_eq_true (by first | (with_reducible assumption) | assumption)
                              have q165 : x9_2 < (l0.length : Int) := of_decide_eq_true (by first | (with_reducible assumption) | assumption)
                              obtain ⟨ad165, e165, hx165_0, hx165_1, hx165_2, hx165_3, hx165_4⟩ := at_T59 HR0.out x9_2 p165 q165
                              (try rw [← Nbq7.out] at hx165_1)
                              (try rw [← Nbq7.out] at hw165_1)
                              (try rw [← Nbq7.out] at hx165_2)
                              (try rw [← Nbq7.out] at hw165_2)
                              obtain rfl : ad159 = ad165 := (by injection e165)
                              have hn165_0 : ad159.block ≠ gb163 := Nat.ne_of_lt (Nat.lt_of_lt_of_le (by have := World.block_lt_of_cell? _ _ hx165_0; first | rwa [add_block] at this | exact this) GW163.out)
                              replace hx165_0 := (HB.out.cell (World.block_lt_of_cell? w _ hx165_0)).trans hx165_0
                              replace hx165_1 := (HB.out.cell (World.block_lt_of_cell? w _ hx165_1)).trans hx165_1
                              replace hx165_2 := (HB.out.cell (World.block_lt_of_cell? w _ hx165_2)).trans hx165_2
                              replace hx165_3 := (HB.out.cell (World.block_lt_of_cell? w _ hx165_3)).trans hx165_3
                              replace hx165_4 := (HB.out.cell (World.block_lt_of_cell? w _ hx165_4)).trans hx165_4
                              replace hx165_0 := (cell_far (p := ⟨gb163, 5, none⟩) (by first | (rw [add_block]; exact hn165_0) | (show (Addr.add _ _).block ≠ _; rw [add_block]; exact hn165_0) | exact hn165_0) (.int .i64 x9_2)).trans hx165_0
                              replace hx165_1 := (cell_far (p := ⟨gb163, 5, none⟩) (by first | (rw [add_block]; exact hn165_0) | (show (Addr.add _ _).block ≠ _; rw [add_block]; exact hn165_0) | exact hn165_0) (.int .i64 x9_2)).trans hx165_1
                              replace hx165_2 := (cell_far (p := ⟨gb163, 5, none⟩) (by first | (rw [add_block]; exact hn165_0) | (show (Addr.add _ _).block ≠ _; rw [add_block]; exact hn165_0) | exact hn165_0) (.int .i64 x9_2)).trans hx165_2
                              replace hx165_3 := (cell_far (p := ⟨gb163, 5, none⟩) (by first | (rw [add_block]; exact hn165_0) | (show (Addr.add _ _).block ≠ _; rw [add_block]; exact hn165_0) | exact hn165_0) (.int .i64 x9_2)).trans hx165_3
                              replace hx165_4 := (cell_far (p := ⟨gb163, 5, none⟩) (by first | (rw [add_block]; exact hn165_0) | (show (Addr.add _ _).block ≠ _; rw [add_block]; exact hn165_0) | exact hn165_0) (.int .i64 x9_2)).trans hx165_4
                              clear hn165_0
                              replace p165 := eq_true p165
                              replace q165 := eq_true q165
                              try go_wp2
                              go_roundg kj16
                              case measure => have := HK1.out; have := HK2.out; have := HJ16.out; omega
                              case rel => exact ⟨(wrap64 (x9_2 + 1)), ((rd_T59 l0 x9_2).f4), (x9_2), (by first | rfl | (simp; done) | (simp [*]; done)), H', ⟨by have := HK1.out; have := HK2.out; have := HJ16.out; omega⟩, ⟨by (with_reducible repeat (first | apply Kd.R_alloc | apply Kd.R_drewN | apply Kd.R_drew)); exact Kd.R_mono (Kd.R_far (p := ⟨gb163, 3, none⟩) (Kd.R_far (p := ⟨gb163, 5, none⟩) (Kd.R_mono HO_6.out (fun k_ hk => (⟨hk, hk⟩ : _ ∧ k_ ≠ gb163))) (fun _ hk => hk.2) (.int .i64 x9_2)) (fun _ hk => hk.2) (.int .i64 ((rd_T59 l0 x9_2).f4))) (fun _ hk => hk.1)⟩, ⟨by (with_reducible repeat (first | refine blk_drewN ?_ _ | refine blk_drew ?_ | refine blk_alloc ?_ _)); refine blk_put (cs := #[.int .i64 ((rd_T59 l0 x7_1).f0), .bool ((rd_T59 l0 x7_1).f2), .int .u64 ((rd_T59 l0 x7_1).f3), .int .i64 x164003_2, .int .i64 x7_1, .int .i64 x9_2]) ?_ 3 _ rfl; (with_reducible repeat (first | refine blk_drewN ?_ _ | refine blk_drew ?_ | refine blk_alloc ?_ _)); refine blk_put (cs := #[.int .i64 ((rd_T59 l0 x7_1).f0), .bool ((rd_T59 l0 x7_1).f2), .int .u64 ((rd_T59 l0 x7_1).f3), .int .i64 x164003_2, .int .i64 x7_1, .int .i64 x164005_2]) ?_ 5 _ rfl; (with_reducible repeat (first | refine blk_drewN ?_ _ | refine blk_drew ?_ | refine blk_alloc ?_ _)); exact BK163.out⟩, ⟨by repeat (first | (with_reducible first | exact HB.out | apply below_alloc | apply pw_below_drewN | apply below_drew1 | refine below_set ?_ GE163.out) | exact HB.out)⟩⟩
                            · rw [if_neg c23] at H
                              have c23b0 : (((rd_T59 l0 x9_2).f0) == ((rd_T59 l0 x7_1).f0)) = false := beq_eq_false_iff_ne.mpr c23
                              have c23b1 : (((rd_T59 l0 x9_2).f0) != ((rd_T59 l0 x7_1).f0)) = true := bne_iff_ne.mpr c23
                              have H' := Aside0.mk H
                              clear H
                              try go_wp2
                              have n0_ := Aside0.mk (Kd.R_drew HO_6.out)
                              have n1_ := Aside0.mk (blk_drew BK163.out)
                              have n2_ := Aside0.mk (below_drew1 HB.out)
                              clear HO_6
                              clear BK163
                              clear HB
                              have HO_6 := n0_
                              have BK163 := n1_
                              have HB := n2_
                              clear n0_ n1_ n2_
                              have p164 : 0 ≤ (x9_2 : Int) := of_decide_eq_true (by first | (with_reducible assumption) | assumption)
                              have q164 : x9_2 < (l0.length : Int) := of_decide_eq_true (by first | (with_reducible assumption) | assumption)
                              obtain ⟨ad164, e164, hx164_0, hx164_1, hx164_2, hx164_3, hx164_4⟩ := at_T59 HR0.out x9_2 p164 q164
                              have hw164_4 := hx164_4
                              have hw164_3 := hx164_3
                              have hw164_2 := hx164_2
                              have hw164_1 := hx164_1
                              have hw164_0 := hx164_0
                              (try rw [← Nbq7.out] at hx164_1)
                              (try rw [← Nbq7.out] at hw164_1)
                              (try rw [← Nbq7.out] at hx164_2)
                              (try rw [← Nbq7.out] at hw164_2)
                              obtain rfl : ad159 = ad164 := (by injection e164)
                              replace hx164_0 := (HB.out.cell (World.block_lt_of_cell? w _ hx164_0)).trans hx164_0
                              replace hx164_1 := (HB.out.cell (World.block_lt_of_cell? w _ hx164_1)).trans hx164_1
                              replace hx164_2 := (HB.out.cell (World.block_lt_of_cell? w _ hx164_2)).trans hx164_2
                              replace hx164_3 := (HB.out.cell (World.block_lt_of_cell? w _ hx164_3)).trans hx164_3
                              replace hx164_4 := (HB.out.cell (World.block_lt_of_cell? w _ hx164_4)).trans hx164_4
                              replace p164 := eq_true p164
                              replace q164 := eq_true q164
                              refine start_ (n := 8) (S := fun w' => w'.cell? ⟨gb163, 0, none⟩ = some (.int .i64 ((rd_T59 l0 x7_1).f0)) ∧ w'.cell? ⟨gb163, 1, none⟩ = some (.bool ((rd_T59 l0 x7_1).f2)) ∧ w'.cell? ⟨gb163, 2, none⟩ = some (.int .u64 ((rd_T59 l0 x7_1).f3)) ∧ w'.cell? ⟨gb163, 3, none⟩ = some (.int .i64 x164003_2) ∧ w'.cell? ⟨gb163, 4, none⟩ = some (.int .i64 x7_1) ∧ w'.cell? ⟨gb163, 5, none⟩ = some (.int .i64 x164005_2) ∧ w'.cell? (ad159.add ((x9_2).toNat * 5)) = some (.int .i64 ((rd_T59 l0 x9_2).f0)) ∧ w'.cell? ⟨(ad159.add ((x9_2).toNat * 5)).block, (ad159.add ((x9_2).toNat * 5)).off + 1, none⟩ = some (.bool ((rd_T59 l0 x9_2).f1)) ∧ w'.cell? ⟨(ad159.add ((x9_2).toNat * 5)).block, (ad159.add ((x9_2).toNat * 5)).off + 2, none⟩ = some (.bool ((rd_T59 l0 x9_2).f2)) ∧ w'.cell? ⟨(ad159.add ((x9_2).toNat * 5)).block, (ad159.add ((x9_2).toNat * 5)).off + 3, none⟩ = some (.int .u64 ((rd_T59 l0 x9_2).f3)) ∧ w'.cell? ⟨(ad159.add ((x9_2).toNat * 5)).block, (ad159.add ((x9_2).toNat * 5)).off + 4, none⟩ = some (.int .i64 ((rd_T59 l0 x9_2).f4))) (ds := []) #[false, false, false, false, false, false, false, false] (by kernel_rfl) rfl rfl ⟨(blk_cell BK163.out 0).trans rfl, (blk_cell BK163.out 1).trans rfl, (blk_cell BK163.out 2).trans rfl, (blk_cell BK163.out 3).trans rfl, (blk_cell BK163.out 4).trans rfl, (blk_cell BK163.out 5).trans rfl, ((HB.out.cell (World.block_lt_of_cell? w _ hw164_0)).trans hw164_0), ((HB.out.cell (World.block_lt_of_cell? w _ hw164_1)).trans hw164_1), ((HB.out.cell (World.block_lt_of_cell? w _ hw164_2)).trans hw164_2), ((HB.out.cell (World.block_lt_of_cell? w _ hw164_3)).trans hw164_3), ((HB.out.cell (World.block_lt_of_cell? w _ hw164_4)).trans hw164_4)⟩ (fun hHeld => ?_); refine with_tabW hatstandref14_Calls.tab13 hatstandref14_Calls.bits13 (fun HT_ HW_ => ?_)
                              generalize wc.drew = w26 at HO_6 BK163 HB hx164_0 hx164_1 hx164_2 hx164_3 hx164_4 hHeld ⊢
                              refine pure_ (i := 0) (N := some 59) (v := ?_) (a' := ?_) #[true, false, false, false, false, false, false, false] rfl rfl (any_of HT_.out (by kernel_rfl)) (fun _ _ _ h => h) (Or.inl ⟨by rfl, ?_⟩) ?_ ?_
                              rotate_left
                              · intro w'
                                go_simp
                                with_reducible rfl
                              rotate_left
                              · simp only [Act.put, List.setIfInBounds_toArray, List.set_cons_zero, List.set_cons_succ, i64_w, i32_w, Go.IntKind.wrap_u32]
                                rfl
                              refine pure_ (i := 1) (N := some 60) (v := ?_) (a' := ?_) #[true, true, false, false, false, false, false, false] rfl rfl (any_of HT_.out (by kernel_rfl)) (fun _ _ _ h => h) (Or.inl ⟨by rfl, ?_⟩) ?_ ?_
                              rotate_left
                              · intro w'
                                go_simp
                                with_reducible rfl
                              rotate_left
                              · simp only [Act.put, List.setIfInBounds_toArray, List.set_cons_zero, List.set_cons_succ, i64_w, i32_w, Go.IntKind.wrap_u32]
                                rfl
                              refine pure_ (i := 2) (N := some 61) (v := ?_) (a' := ?_) #[true, true, true, false, false, false, false, false] rfl rfl (any_of HT_.out (by kernel_rfl)) (fun _ _ _ h => h) (Or.inl ⟨by rfl, ?_⟩) ?_ ?_
                              rotate_left
                              · intro w'
                                go_simp
                                with_reducible rfl
                              rotate_left
                              · simp only [Act.put, List.setIfInBounds_toArray, List.set_cons_zero, List.set_cons_succ, i64_w, i32_w, Go.IntKind.wrap_u32]
                                rfl
                              refine pure_ (i := 3) (N := some 62) (v := ?_) (a' := ?_) #[true, true, true, true, false, false, false, false] rfl rfl (any_of HT_.out (by kernel_rfl)) (fun _ _ _ h => h) (Or.inl ⟨by rfl, ?_⟩) ?_ ?_
                              rotate_left
                              · intro w'
                                go_simp
                                with_reducible rfl
                              rotate_left
                              · simp only [Act.put, List.setIfInBounds_toArray, List.set_cons_zero, List.set_cons_succ, i64_w, i32_w, Go.IntKind.wrap_u32]
                                rfl
                              refine pure_ (i := 5) (N := some 64) (v := ?_) (a' := ?_) #[true, true, true, true, false, true, false, false] rfl rfl (any_of HT_.out (by kernel_rfl)) (fun _ _ _ h => h) (Or.inl ⟨by rfl, ?_⟩) ?_ ?_
                              rotate_left
                              · intro w'
                                go_simp
                                with_reducible rfl
                              rotate_left
                              · simp only [Act.put, List.setIfInBounds_toArray, List.set_cons_zero, List.set_cons_succ, i64_w, i32_w, Go.IntKind.wrap_u32]
                                rfl
                              refine take_ (i := 4) (N := some 63) (v := ?_) (a' := ?_) #[true, true, true, true, true, true, false, false] rfl rfl (take_ofW HT_.out HW_.out (by kernel_rfl)) (fun _ _ _ h => h) (Or.inl ⟨by rfl, ?_⟩) hHeld ?_ ?_
                              rotate_left
                              · rintro w' ⟨s0, s1, s2, s3, s4, s5, s6, s7, s8, s9, s10⟩
                                go_simp
                                with_reducible rfl
                              rotate_left
                              · simp only [Act.put, List.setIfInBounds_toArray, List.set_cons_zero, List.set_cons_succ, i64_w, i32_w, Go.IntKind.wrap_u32]
                                rfl
                              refine take_ (i := 6) (N := some 65) (v := ?_) (a' := ?_) #[true, true, true, true, true, true, true, false] rfl rfl (take_ofW HT_.out HW_.out (by kernel_rfl)) (fun _ _ _ h => h) (Or.inl ⟨by rfl, ?_⟩) hHeld ?_ ?_
                              rotate_left
                              · rintro w' ⟨s0, s1, s2, s3, s4, s5, s6, s7, s8, s9, s10⟩
                                go_simp
                                with_reducible rfl
                              rotate_left
                              · simp only [Act.put, List.setIfInBounds_toArray, List.set_cons_zero, List.set_cons_succ, i64_w, i32_w, Go.IntKind.wrap_u32]
                                rfl
                              refine pure_ (i := 7) (N := some 66) (v := ?_) (a' := ?_) #[true, true, true, true, true, true, true, true] rfl rfl (any_of HT_.out (by kernel_rfl)) (fun _ _ _ h => h) (Or.inl ⟨by rfl, ?_⟩) ?_ ?_
                              rotate_left
                              · intro w'
                                go_simp
                                with_reducible rfl
                              rotate_left
                              · simp only [Act.put, List.setIfInBounds_toArray, List.set_cons_zero, List.set_cons_succ, i64_w, i32_w, Go.IntKind.wrap_u32]
                                rfl
                              refine done_ (done_of HT_.out (by kernel_rfl)) ?_
                              try go_wp2
                              go_roundg kj16
                              case measure => have := HK1.out; have := HK2.out; have := HJ16.out; omega
                              case rel => exact ⟨(wrap64 (x9_2 + 1)), (x164003_2), (x164005_2), (by first | rfl | (simp; done) | (simp [*]; done)), H', ⟨by have := HK1.out; have := HK2.out; have := HJ16.out; omega⟩, ⟨by (with_reducible repeat (first | apply Kd.R_alloc | apply Kd.R_drewN | apply Kd.R_drew)); exact HO_6.out⟩, ⟨by (with_reducible repeat (first | refine blk_drewN ?_ _ | refine blk_drew ?_ | refine blk_alloc ?_ _)); exact BK163.out⟩, ⟨by repeat (first | (with_reducible first | exact HB.out | apply below_alloc | apply pw_below_drewN | apply below_drew1 | refine below_set ?_ GE163.out) | exact HB.out)⟩⟩
                          · rw [if_neg c22] at H
                            exact absurd H (by simp)
                        · rw [if_neg c21] at H
                          exact absurd H (by simp)
                      · replace c20 := Bool.eq_false_iff.mpr c20
                        subst c20
                        have H1 : (if x164005_2 ≥ 0 then (hatstandref14_Calls.j3 kj16 l0 x6_1 x7_1 (!((rd_T59 l0 x7_1).f2)) ((rd_T59 l0 x7_1).f0) ((rd_T59 l0 x7_1).f2) ((rd_T59 l0 x7_1).f3) x164003_2 x7_1 x164005_2) else (hatstandref14_Calls.j3 kj16 l0 x6_1 x7_1 false ((rd_T59 l0 x7_1).f0) ((rd_T59 l0 x7_1).f2) ((rd_T59 l0 x7_1).f3) x164003_2 x7_1 x164005_2)) = some (r1, r2) := by rw [if_neg (show ¬ (false = true) by decide)] at H; exact H
                        clear H
                        have H := H1
                        clear H1
                        have HC27 := Aside0.mk H
                        clear H
                        go_upto_region 16 with (fail)
                        go_cut [82] (fun v82 wc => ∃ (kq : Nat) (x82_26 : Bool), v82 = .bool x82_26 ∧ Aside0 (hatstandref14_Calls.j3 kq l0 x6_1 x7_1 x82_26 ((rd_T59 l0 x7_1).f0) ((rd_T59 l0 x7_1).f2) ((rd_T59 l0 x7_1).f3) x164003_2 x7_1 x164005_2 = some (r1, r2)) ∧ Aside0 (kq ≤ kj16) ∧ Aside0 (Kd.R k55 55 wc w.heap.size (fun k_ => k_ ≠ gb163) u6 x6_1) ∧ Aside0 (wc.heap[gb163]? = some (.cells #[.int .i64 ((rd_T59 l0 x7_1).f0), .bool ((rd_T59 l0 x7_1).f2), .int .u64 ((rd_T59 l0 x7_1).f3), .int .i64 x164003_2, .int .i64 x7_1, .int .i64 x164005_2] 55 (0, 0))) ∧ Aside0 (Below w.heap.size w wc))
                        case first =>
                          have H := HC27.out
                          clear HC27
                          by_cases c28 : x164005_2 ≥ 0
                          · rw [if_pos c28] at H
                            have c28b0 : decide (0 ≤ x164005_2) = true := decide_eq_true c28
                            clear c28
                            (first | rw [c28b0] | (simp only [i64_w, i32_w, Go.IntKind.wrap_u32]; rw [c28b0]) | skip)
                            have H' := Aside0.mk H
                            clear H
                            have hcz29_0 : wc.cell? ⟨gb163, 0, none⟩ = some (.int .i64 ((rd_T59 l0 x7_1).f0)) := (blk_cell BK163.out 0).trans rfl
                            have hcz29_1 : wc.cell? ⟨gb163, 1, none⟩ = some (.bool ((rd_T59 l0 x7_1).f2)) := (blk_cell BK163.out 1).trans rfl
                            have hcz29_2 : wc.cell? ⟨gb163, 2, none⟩ = some (.int .u64 ((rd_T59 l0 x7_1).f3)) := (blk_cell BK163.out 2).trans rfl
                            have hcz29_3 : wc.cell? ⟨gb163, 3, none⟩ = some (.int .i64 x164003_2) := (blk_cell BK163.out 3).trans rfl
                            have hcz29_4 : wc.cell? ⟨gb163, 4, none⟩ = some (.int .i64 x7_1) := (blk_cell BK163.out 4).trans rfl
                            have hcz29_5 : wc.cell? ⟨gb163, 5, none⟩ = some (.int .i64 x164005_2) := (blk_cell BK163.out 5).trans rfl
                            have hfz29_0 := blk_frozen BK163.out 0
                            have hfz29_1 := blk_frozen BK163.out 1
                            have hfz29_2 := blk_frozen BK163.out 2
                            have hfz29_3 := blk_frozen BK163.out 3
                            have hfz29_4 := blk_frozen BK163.out 4
                            have hfz29_5 := blk_frozen BK163.out 5
                            go_wp2
                            go_meet
                            case rel => exact ⟨_, (!((rd_T59 l0 x7_1).f2)), (by first | rfl | (simp; done) | (simp [*]; done)), H', ⟨by have := HK1.out; have := HK2.out; have := HJ16.out; first | omega | exact Nat.le_refl _⟩, ⟨by (with_reducible repeat (first | apply Kd.R_alloc | apply Kd.R_drewN | apply Kd.R_drew)); exact HO_6.out⟩, ⟨by (with_reducible repeat (first | refine blk_drewN ?_ _ | refine blk_drew ?_ | refine blk_alloc ?_ _)); exact BK163.out⟩, ⟨by repeat (first | (with_reducible first | exact HB.out | apply below_alloc | apply pw_below_drewN | apply below_drew1 | refine below_set ?_ GE163.out) | exact HB.out)⟩⟩
                          · rw [if_neg c28] at H
                            have c28b0 : decide (0 ≤ x164005_2) = false := decide_eq_false c28
                            clear c28
                            (first | rw [c28b0] | (simp only [i64_w, i32_w, Go.IntKind.wrap_u32]; rw [c28b0]) | skip)
                            have H' := Aside0.mk H
                            clear H
                            have hcz30_0 : wc.cell? ⟨gb163, 0, none⟩ = some (.int .i64 ((rd_T59 l0 x7_1).f0)) := (blk_cell BK163.out 0).trans rfl
                            have hcz30_1 : wc.cell? ⟨gb163, 1, none⟩ = some (.bool ((rd_T59 l0 x7_1).f2)) := (blk_cell BK163.out 1).trans rfl
                            have hcz30_2 : wc.cell? ⟨gb163, 2, none⟩ = some (.int .u64 ((rd_T59 l0 x7_1).f3)) := (blk_cell BK163.out 2).trans rfl
                            have hcz30_3 : wc.cell? ⟨gb163, 3, none⟩ = some (.int .i64 x164003_2) := (blk_cell BK163.out 3).trans rfl
                            have hcz30_4 : wc.cell? ⟨gb163, 4, none⟩ = some (.int .i64 x7_1) := (blk_cell BK163.out 4).trans rfl
                            have hcz30_5 : wc.cell? ⟨gb163, 5, none⟩ = some (.int .i64 x164005_2) := (blk_cell BK163.out 5).trans rfl
                            have hfz30_0 := blk_frozen BK163.out 0
                            have hfz30_1 := blk_frozen BK163.out 1
                            have hfz30_2 := blk_frozen BK163.out 2
                            have hfz30_3 := blk_frozen BK163.out 3
                            have hfz30_4 := blk_frozen BK163.out 4
                            have hfz30_5 := blk_frozen BK163.out 5
                            go_wp2
                            go_meet
                            case rel => exact ⟨_, (false), (by first | rfl | (simp; done) | (simp [*]; done)), H', ⟨by have := HK1.out; have := HK2.out; have := HJ16.out; first | omega | exact Nat.le_refl _⟩, ⟨by (with_reducible repeat (first | apply Kd.R_alloc | apply Kd.R_drewN | apply Kd.R_drew)); exact HO_6.out⟩, ⟨by (with_reducible repeat (first | refine blk_drewN ?_ _ | refine blk_drew ?_ | refine blk_alloc ?_ _)); exact BK163.out⟩, ⟨by repeat (first | (with_reducible first | exact HB.out | apply below_alloc | apply pw_below_drewN | apply below_drew1 | refine below_set ?_ GE163.out) | exact HB.out)⟩⟩
                        case rest =>
                          clear HC27
                          try clear c1
                          try clear p1
                          try clear q1
                          try clear hx1
                          try clear c2
                          try clear p2
                          try clear c3
                          try clear c3b0
                          try clear c3b1
                          try clear c5
                          try clear c5b0
                          try clear c6
                          try clear c6b0
                          try clear p6
                          try clear q7
                          try clear c8
                          try clear c11
                          try clear c14
                          try clear p15
                          try clear q15
                          try clear hx15
                          try clear p16
                          try clear q16
                          try clear hx16
                          try clear c18
                          try clear c18b0
                          try clear c20
                          try clear c21
                          try clear c21b0
                          try clear c22
                          try clear c22b0
                          try clear c23
                          try clear c23b0
                          try clear c23b1
                          try clear c28
                          try clear c28b0
                          try clear hcz19_0
                          try clear hcz19_1
                          try clear hcz19_2
                          try clear hcz19_3
                          try clear hcz19_4
                          try clear hcz19_5
                          try clear hcz25_0
                          try clear hcz25_1
                          try clear hcz25_2
                          try clear hcz25_3
                          try clear hcz25_4
                          try clear hcz25_5
                          try clear hcz29_0
                          try clear hcz29_1
                          try clear hcz29_2
                          try clear hcz29_3
                          try clear hcz29_4
                          try clear hcz29_5
                          try clear hcz30_0
                          try clear hcz30_1
                          try clear hcz30_2
                          try clear hcz30_3
                          try clear hcz30_4
                          try clear hcz30_5
                          try clear hfz19_0
                          try clear hfz19_1
                          try clear hfz19_2
                          try clear hfz19_3
                          try clear hfz19_4
                          try clear hfz19_5
                          try clear hfz25_0
                          try clear hfz25_1
                          try clear hfz25_2
                          try clear hfz25_3
                          try clear hfz25_4
                          try clear hfz25_5
                          try clear hfz29_0
                          try clear hfz29_1
                          try clear hfz29_2
                          try clear hfz29_3
                          try clear hfz29_4
                          try clear hfz29_5
                          try clear hfz30_0
                          try clear hfz30_1
                          try clear hfz30_2
                          try clear hfz30_3
                          try clear hfz30_4
                          try clear hfz30_5
                          try clear hx159_0
                          try clear hx159_1
                          try clear hx159_2
                          try clear hx159_3
                          try clear hx159_4
                          try clear hx160_0
                          try clear hx160_1
                          try clear hx160_2
                          try clear hx160_3
                          try clear hx160_4
                          try clear hx161_0
                          try clear hx161_1
                          try clear hx161_2
                          try clear hx161_3
                          try clear hx161_4
                          try clear hx162_0
                          try clear hx162_1
                          try clear hx162_2
                          try clear hx162_3
                          try clear hx162_4
                          try clear hx164_0
                          try clear hx164_1
                          try clear hx164_2
                          try clear hx164_3
                          try clear hx164_4
                          try clear hx165_0
                          try clear hx165_1
                          try clear hx165_2
                          try clear hx165_3
                          try clear hx165_4
                          try clear p1
                          try clear p15
                          try clear p159
                          try clear p16
                          try clear p160
                          try clear p161
                          try clear p162
                          try clear p164
                          try clear p165
                          try clear p2
                          try clear p6
                          try clear q1
                          try clear q15
                          try clear q159
                          try clear q16
                          try clear q160
                          try clear q161
                          try clear q162
                          try clear q164
                          try clear q165
                          try clear q7
                          obtain ⟨kq, x82_26, rfl, HA, HJ26, HO_6, BK163, HB⟩ := hcut
                          cases kq with
                          | zero => exact absurd HA.out (by simp [hatstandref14_Calls.j3])
                          | succ kj26 =>
                            have H := HA.out
                            clear HA
                            simp only [hatstandref14_Calls.j3] at H
                            by_cases c31 : x82_26 = true
                            · subst c31
                              have H1 : (if 0 ≤ x164005_2 then (if x164005_2 < (l0.length : Int) then (if x6_1.length < 2932031007402 then (hatstandref14_Calls.l0 kj26 l0 (x6_1 ++ [(⟨((rd_T59 l0 x7_1).f0), ((rd_T59 l0 x7_1).f2), (rd_T59 l0 x164005_2).f3, x164003_2, x7_1, x164005_2⟩ : S55)]) (wrap64 (x7_1 + 1))) else (none)) else (none)) else (none)) = some (r1, r2) := by rw [if_pos rfl] at H; exact H
                              clear H
                              have H := H1
                              clear H1
                              by_cases c32 : 0 ≤ x164005_2
                              · rw [if_pos c32] at H
                                have c32b0 : decide (0 ≤ x164005_2) = true := decide_eq_true c32
                                clear c32
                                by_cases c33 : x164005_2 < (l0.length : Int)
                                · rw [if_pos c33] at H
                                  have c33b0 : decide (x164005_2 < (l0.length : Int)) = true := decide_eq_true c33
                                  clear c33
                                  by_cases c34 : x6_1.length < 2932031007402
                                  · rw [if_pos c34] at H
                                    have LMc34 := Aside0.mk c34
                                    clear c34
                                    obtain ⟨y167, hy167⟩ : ∃ y_ : List (S55), y_ = (x6_1 ++ [(⟨((rd_T59 l0 x7_1).f0), ((rd_T59 l0 x7_1).f2), (rd_T59 l0 x164005_2).f3, x164003_2, x7_1, x164005_2⟩ : S55)]) := ⟨_, rfl⟩
                                    replace H : (hatstandref14_Calls.l0 kj26 l0 y167 (wrap64 (x7_1 + 1))) = some (r1, r2) := by first | (rw [hy167]; with_reducible exact H) | (have H2_ := (Option.bind_some _ _).symm.trans H; rw [hy167]; with_reducible exact H2_) | (have H2_ := (Option.bind_some _ _).symm.trans H; with_reducible exact H2_) | with_reducible exact H | (rw [hy167]; exact H) | exact H
                                    have Ny167 := Aside0.mk hy167
                                    clear hy167
                                    have H' := Aside0.mk H
                                    clear H
                                    have hcz35_0 : wc.cell? ⟨gb163, 0, none⟩ = some (.int .i64 ((rd_T59 l0 x7_1).f0)) := (blk_cell BK163.out 0).trans rfl
                                    have hcz35_1 : wc.cell? ⟨gb163, 1, none⟩ = some (.bool ((rd_T59 l0 x7_1).f2)) := (blk_cell BK163.out 1).trans rfl
                                    have hcz35_2 : wc.cell? ⟨gb163, 2, none⟩ = some (.int .u64 ((rd_T59 l0 x7_1).f3)) := (blk_cell BK163.out 2).trans rfl
                                    have hcz35_3 : wc.cell? ⟨gb163, 3, none⟩ = some (.int .i64 x164003_2) := (blk_cell BK163.out 3).trans rfl
                                    have hcz35_4 : wc.cell? ⟨gb163, 4, none⟩ = some (.int .i64 x7_1) := (blk_cell BK163.out 4).trans rfl
                                    have hcz35_5 : wc.cell? ⟨gb163, 5, none⟩ = some (.int .i64 x164005_2) := (blk_cell BK163.out 5).trans rfl
                                    have hfz35_0 := blk_frozen BK163.out 0
                                    have hfz35_1 := blk_frozen BK163.out 1
                                    have hfz35_2 := blk_frozen BK163.out 2
                                    have hfz35_3 := blk_frozen BK163.out 3
                                    have hfz35_4 := blk_frozen BK163.out 4
                                    have hfz35_5 := blk_frozen BK163.out 5
                                    have p166 : 0 ≤ (x164005_2 : Int) := of_decide_eq_true (by first | (with_reducible assumption) | assumption)
                                    have q166 : x164005_2 < (l0.length : Int) := of_decide_eq_true (by first | (with_reducible assumption) | assumption)
                                    obtain ⟨ad166, e166, hx166_0, hx166_1, hx166_2, hx166_3, hx166_4⟩ := at_T59 HR0.out x164005_2 p166 q166
                                    (try rw [← Nbq7.out] at hx166_1)
                                    (try rw [← Nbq7.out] at hw166_1)
                                    (try rw [← Nbq7.out] at hx166_2)
                                    (try rw [← Nbq7.out] at hw166_2)
                                    obtain rfl : ad159 = ad166 := (by injection e166)
                                    replace hx166_0 := (HB.out.cell (World.block_lt_of_cell? w _ hx166_0)).trans hx166_0
                                    replace hx166_1 := (HB.out.cell (World.block_lt_of_cell? w _ hx166_1)).trans hx166_1
                                    replace hx166_2 := (HB.out.cell (World.block_lt_of_cell? w _ hx166_2)).trans hx166_2
                                    replace hx166_3 := (HB.out.cell (World.block_lt_of_cell? w _ hx166_3)).trans hx166_3
                                    replace hx166_4 := (HB.out.cell (World.block_lt_of_cell? w _ hx166_4)).trans hx166_4
                                    replace p166 := eq_true p166
                                    replace q166 := eq_true q166
                                    go_wp2_with (first | ((with_reducible refine gate_builtin (b := .append) (xs := #[.tmp 90, .tmp 92]) rfl ?_); at_builtin; refine Kd.R_append k55 (w0 := w) w.heap.size rfl (.tmp 90) (.tmp 92) 33 55 (.agg #[(.int .i64 0), (.bool false), (.int .u64 0), (.int .i64 0), (.int .i64 0), (.int .i64 0)]) 48 rfl Try.underlying33 info55 rfl (by decide) (by omega) u6 x6_1 (⟨((rd_T59 l0 x7_1).f0), ((rd_T59 l0 x7_1).f2), (rd_T59 l0 x164005_2).f3, x164003_2, x7_1, x164005_2⟩ : S55) [.int .i64 ((rd_T59 l0 x7_1).f0), .bool ((rd_T59 l0 x7_1).f2), .int .u64 ((rd_T59 l0 x164005_2).f3), .int .i64 x164003_2, .int .i64 x7_1, .int .i64 x164005_2] (fun k_ => k_ ≠ gb163) (fun _ => False) rfl (by first | (go_simp; done) | (go_simp; rfl)) ?aP (fun _ hk => hk.elim) ?aF ?aO ?aB ?aS ?aL ?_; (case aP => exact k55_mkM _ _ _ (⟨((rd_T59 l0 x7_1).f0), ((rd_T59 l0 x7_1).f2), (rd_T59 l0 x164005_2).f3, x164003_2, x7_1, x164005_2⟩ : S55)); (case aB => exact (by repeat (first | (with_reducible first | exact HB.out | apply below_alloc | apply pw_below_drewN | apply below_drew1 | refine below_set ?_ GE163.out) | exact HB.out))); (case aF => exact (fun k_ hk => Kd.freshB (g := gb163) (o := .cells #[.int .i64 ((rd_T59 l0 x7_1).f0), .bool ((rd_T59 l0 x7_1).f2), .int .u64 ((rd_T59 l0 x164005_2).f3), .int .i64 x164003_2, .int .i64 x7_1, .int .i64 x164005_2] 55 (0, 0)) (by (with_reducible repeat (first | refine blk_drewN ?_ _ | refine blk_drew ?_ | refine blk_alloc ?_ _)); refine blk_put (cs := #[.int .i64 ((rd_T59 l0 x7_1).f0), .bool ((rd_T59 l0 x7_1).f2), .int .u64 ((rd_T59 l0 x7_1).f3), .int .i64 x164003_2, .int .i64 x7_1, .int .i64 x164005_2]) ?_ 2 _ rfl; (with_reducible repeat (first | refine blk_drewN ?_ _ | refine blk_drew ?_ | refine blk_alloc ?_ _)); exact BK163.out) k_ hk)); (case aO => exact (by (with_reducible repeat (first | apply Kd.R_alloc | apply Kd.R_drewN | apply Kd.R_drew)); exact Kd.R_mono (Kd.R_far (p := ⟨gb163, 2, none⟩) (Kd.R_mono HO_6.out (fun k_ hk => (⟨hk, hk⟩ : _ ∧ k_ ≠ gb163))) (fun _ hk => hk.2) (.int .u64 ((rd_T59 l0 x164005_2).f3))) (fun _ hk => hk.1))); (case aS => exact (below_size (by repeat (first | (with_reducible first | exact HB.out | apply below_alloc | apply pw_below_drewN | apply below_drew1 | refine below_set ?_ GE163.out) | exact HB.out)))); (case aL => have := LMc34.out; omega); intro v168 w36 ho hb hg hat; rw [← Ny167.out] at ho; have n0_ := Aside0.mk (blk_grown (g := gb163) (o := .cells #[.int .i64 ((rd_T59 l0 x7_1).f0), .bool ((rd_T59 l0 x7_1).f2), .int .u64 ((rd_T59 l0 x164005_2).f3), .int .i64 x164003_2, .int .i64 x7_1, .int .i64 x164005_2] 55 (0, 0)) (by (with_reducible repeat (first | refine blk_drewN ?_ _ | refine blk_drew ?_ | refine blk_alloc ?_ _)); refine blk_put (cs := #[.int .i64 ((rd_T59 l0 x7_1).f0), .bool ((rd_T59 l0 x7_1).f2), .int .u64 ((rd_T59 l0 x7_1).f3), .int .i64 x164003_2, .int .i64 x7_1, .int .i64 x164005_2]) ?_ 2 _ rfl; (with_reducible repeat (first | refine blk_drewN ?_ _ | refine blk_drew ?_ | refine blk_alloc ?_ _)); exact BK163.out) hg (Kd.R_away HO_6.out (fun _ hk => hk))); have n1_ := Aside0.mk (hb); have n2_ := Aside0.mk (ho); clear BK163; clear HB; clear HO_6; have BK163 := n0_; have HB := n1_; have HO169 := n2_; clear n0_ n1_ n2_; clear ho hb hg hat))
                                    go_roundg kj26
                                    case measure => have := HK1.out; have := HK2.out; have := HJ16.out; have := HJ26.out; omega
                                    case rel => exact ⟨(y167), (wrap64 (x7_1 + 1)), (by first | rfl | (simp; done) | (simp [*]; done)), H', ⟨by have := HK1.out; have := HK2.out; have := HJ16.out; have := HJ26.out; omega⟩, ⟨by (with_reducible repeat (first | apply Kd.R_alloc | apply Kd.R_drewN | apply Kd.R_drew)); exact Kd.R_mono HO169.out (fun _ hk => trivial)⟩, ⟨by repeat (first | (with_reducible first | exact HB.out | apply below_alloc | apply pw_below_drewN | apply below_drew1 | refine below_set ?_ GE163.out) | exact HB.out)⟩⟩
                                  · rw [if_neg c34] at H
                                    exact absurd H (by simp)
                                · rw [if_neg c33] at H
                                  exact absurd H (by simp)
                              · rw [if_neg c32] at H
                                exact absurd H (by simp)
                            · replace c31 := Bool.eq_false_iff.mpr c31
                              subst c31
                              have H1 : (if x6_1.length < 2932031007402 then (hatstandref14_Calls.l0 kj26 l0 (x6_1 ++ [(⟨((rd_T59 l0 x7_1).f0), ((rd_T59 l0 x7_1).f2), ((rd_T59 l0 x7_1).f3), x164003_2, x7_1, x164005_2⟩ : S55)]) (wrap64 (x7_1 + 1))) else (none)) = some (r1, r2) := by rw [if_neg (show ¬ (false = true) by decide)] at H; exact H
                              clear H
                              have H := H1
                              clear H1
                              by_cases c37 : x6_1.length < 2932031007402
                              · rw [if_pos c37] at H
                                have LMc37 := Aside0.mk c37
                                clear c37
                                obtain ⟨y170, hy170⟩ : ∃ y_ : List (S55), y_ = (x6_1 ++ [(⟨((rd_T59 l0 x7_1).f0), ((rd_T59 l0 x7_1).f2), ((rd_T59 l0 x7_1).f3), x164003_2, x7_1, x164005_2⟩ : S55)]) := ⟨_, rfl⟩
                                replace H : (hatstandref14_Calls.l0 kj26 l0 y170 (wrap64 (x7_1 + 1))) = some (r1, r2) := by first | (rw [hy170]; with_reducible exact H) | (have H2_ := (Option.bind_some _ _).symm.trans H; rw [hy170]; with_reducible exact H2_) | (have H2_ := (Option.bind_some _ _).symm.trans H; with_reducible exact H2_) | with_reducible exact H | (rw [hy170]; exact H) | exact H
                                have Ny170 := Aside0.mk hy170
                                clear hy170
                                have H' := Aside0.mk H
                                clear H
                                have hcz38_0 : wc.cell? ⟨gb163, 0, none⟩ = some (.int .i64 ((rd_T59 l0 x7_1).f0)) := (blk_cell BK163.out 0).trans rfl
                                have hcz38_1 : wc.cell? ⟨gb163, 1, none⟩ = some (.bool ((rd_T59 l0 x7_1).f2)) := (blk_cell BK163.out 1).trans rfl
                                have hcz38_2 : wc.cell? ⟨gb163, 2, none⟩ = some (.int .u64 ((rd_T59 l0 x7_1).f3)) := (blk_cell BK163.out 2).trans rfl
                                have hcz38_3 : wc.cell? ⟨gb163, 3, none⟩ = some (.int .i64 x164003_2) := (blk_cell BK163.out 3).trans rfl
                                have hcz38_4 : wc.cell? ⟨gb163, 4, none⟩ = some (.int .i64 x7_1) := (blk_cell BK163.out 4).trans rfl
                                have hcz38_5 : wc.cell? ⟨gb163, 5, none⟩ = some (.int .i64 x164005_2) := (blk_cell BK163.out 5).trans rfl
                                have hfz38_0 := blk_frozen BK163.out 0
                                have hfz38_1 := blk_frozen BK163.out 1
                                have hfz38_2 := blk_frozen BK163.out 2
                                have hfz38_3 := blk_frozen BK163.out 3
                                have hfz38_4 := blk_frozen BK163.out 4
                                have hfz38_5 := blk_frozen BK163.out 5
                                go_wp2_with (first | ((with_reducible refine gate_builtin (b := .append) (xs := #[.tmp 90, .tmp 92]) rfl ?_); at_builtin; refine Kd.R_append k55 (w0 := w) w.heap.size rfl (.tmp 90) (.tmp 92) 33 55 (.agg #[(.int .i64 0), (.bool false), (.int .u64 0), (.int .i64 0), (.int .i64 0), (.int .i64 0)]) 48 rfl Try.underlying33 info55 rfl (by decide) (by omega) u6 x6_1 (⟨((rd_T59 l0 x7_1).f0), ((rd_T59 l0 x7_1).f2), ((rd_T59 l0 x7_1).f3), x164003_2, x7_1, x164005_2⟩ : S55) [.int .i64 ((rd_T59 l0 x7_1).f0), .bool ((rd_T59 l0 x7_1).f2), .int .u64 ((rd_T59 l0 x7_1).f3), .int .i64 x164003_2, .int .i64 x7_1, .int .i64 x164005_2] (fun k_ => k_ ≠ gb163) (fun _ => False) rfl rfl ?aP (fun _ hk => hk.elim) ?aF ?aO ?aB ?aS ?aL ?_; (case aP => exact k55_mkM _ _ _ (⟨((rd_T59 l0 x7_1).f0), ((rd_T59 l0 x7_1).f2), ((rd_T59 l0 x7_1).f3), x164003_2, x7_1, x164005_2⟩ : S55)); (case aB => exact (by repeat (first | (with_reducible first | exact HB.out | apply below_alloc | apply pw_below_drewN | apply below_drew1 | refine below_set ?_ GE163.out) | exact HB.out))); (case aF => exact (fun k_ hk => Kd.freshB (g := gb163) (o := .cells #[.int .i64 ((rd_T59 l0 x7_1).f0), .bool ((rd_T59 l0 x7_1).f2), .int .u64 ((rd_T59 l0 x7_1).f3), .int .i64 x164003_2, .int .i64 x7_1, .int .i64 x164005_2] 55 (0, 0)) (by (with_reducible repeat (first | refine blk_drewN ?_ _ | refine blk_drew ?_ | refine blk_alloc ?_ _)); exact BK163.out) k_ hk)); (case aO => exact (by (with_reducible repeat (first | apply Kd.R_alloc | apply Kd.R_drewN | apply Kd.R_drew)); exact HO_6.out)); (case aS => exact (below_size (by repeat (first | (with_reducible first | exact HB.out | apply below_alloc | apply pw_below_drewN | apply below_drew1 | refine below_set ?_ GE163.out) | exact HB.out)))); (case aL => have := LMc37.out; omega); intro v171 w39 ho hb hg hat; rw [← Ny170.out] at ho; have n0_ := Aside0.mk (blk_grown (g := gb163) (o := .cells #[.int .i64 ((rd_T59 l0 x7_1).f0), .bool ((rd_T59 l0 x7_1).f2), .int .u64 ((rd_T59 l0 x7_1).f3), .int .i64 x164003_2, .int .i64 x7_1, .int .i64 x164005_2] 55 (0, 0)) (by (with_reducible repeat (first | refine blk_drewN ?_ _ | refine blk_drew ?_ | refine blk_alloc ?_ _)); exact BK163.out) hg (Kd.R_away HO_6.out (fun _ hk => hk))); have n1_ := Aside0.mk (hb); have n2_ := Aside0.mk (ho); clear BK163; clear HB; clear HO_6; have BK163 := n0_; have HB := n1_; have HO172 := n2_; clear n0_ n1_ n2_; clear ho hb hg hat))
                                go_roundg kj26
                                case measure => have := HK1.out; have := HK2.out; have := HJ16.out; have := HJ26.out; omega
                                case rel => exact ⟨(y170), (wrap64 (x7_1 + 1)), (by first | rfl | (simp; done) | (simp [*]; done)), H', ⟨by have := HK1.out; have := HK2.out; have := HJ16.out; have := HJ26.out; omega⟩, ⟨by (with_reducible repeat (first | apply Kd.R_alloc | apply Kd.R_drewN | apply Kd.R_drew)); exact Kd.R_mono HO172.out (fun _ hk => trivial)⟩, ⟨by repeat (first | (with_reducible first | exact HB.out | apply below_alloc | apply pw_below_drewN | apply below_drew1 | refine below_set ?_ GE163.out) | exact HB.out)⟩⟩
                              · rw [if_neg c37] at H
                                exact absurd H (by simp)
          · rw [if_neg c6] at H
            exact absurd H (by simp)
        · rw [if_neg c5] at H
          have c5b0 : decide (x7_1 < (l0.length : Int)) = false := decide_eq_false c5
          clear c5
          simp only [Option.some.injEq, Prod.mk.injEq] at H
          obtain ⟨rfl, rfl⟩ := H
          go_wp2
          go_ret2
          exact ⟨_, by first | rfl | (simp [errW_none, errW_some] <;> rfl) | (simp [*, errW_none, errW_some] <;> rfl), by (with_reducible repeat (first | apply Kd.R_alloc | apply Kd.R_drewN | apply Kd.R_drew)); exact HO_6.out, by repeat (first | (with_reducible first | exact HB.out | apply below_alloc | apply pw_below_drewN | apply below_drew1) | exact HB.out)⟩
  · rw [if_neg c3] at H
    have c3b0 : (t158 == 0) = false := beq_eq_false_iff_ne.mpr c3
    have c3b1 : (t158 != 0) = true := bne_iff_ne.mpr c3
    simp only [Option.some.injEq, Prod.mk.injEq] at H
    obtain ⟨rfl, rfl⟩ := H
    go_enter Try.func14, Try.ntmps14
    go_wp2_with (first | ((with_reducible refine gate_callee (f := 11) rfl ?_); refine goesL_ (some 12) rfl rfl Try.func11 (by kernel_rfl) rfl #[.slice A0 l0.length c0] rfl (by (try simp only [List.map_toArray, List.map_cons, List.map_nil]); first | done | rfl | (simp only [List.length_drop, List.length_take]; rfl)) ?_; (with_reducible refine (hatstandref14_Check.calls k _ _ l0 t157 t158 _ ?side1 ?side2 A2.out).mono ?_); (case side1 => repeat (first | exact HR0.out | (with_reducible refine Kd.C_alloc ?_ _) | (with_reducible refine Kd.C_drewN ?_ _) | (with_reducible refine Kd.C_drew ?_))); (case side2 => exact HC0.out); rintro e w40 ⟨rfl, hb⟩; refine ⟨_, rfl, ?_⟩; have n0_ := Aside0.mk (below_step (by repeat (first | (with_reducible first | exact HB.out | apply below_alloc | apply pw_below_drewN | apply below_drew1) | exact HB.out)) hb); clear HB; have HB := n0_; clear n0_; (try clear hb); (try clear hb2); (try clear hk); (try clear hi)))
    go_ret2
    exact ⟨_, by first | rfl | (simp [errW_none, errW_some] <;> rfl) | (simp [*, errW_none, errW_some] <;> rfl), by first | exact Kd.R_nil _ _ _ _ _ | exact Kd.N_nil _ _ _ _ _ | exact Kd.V_nil _ _ _ _ _ | exact Kd.Q_nil _ _ _ _ _ | exact Kd.S_nil _ _ _ _ _, by repeat (first | (with_reducible first | exact HB.out | apply below_alloc | apply pw_below_drewN | apply below_drew1) | exact HB.out)⟩

end Go.Proofs.Ytmdjmfbinjnlcaa.P
