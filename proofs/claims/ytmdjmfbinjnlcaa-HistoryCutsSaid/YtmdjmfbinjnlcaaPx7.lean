/- Walks, written by a program for this claim: each Go function that the laws reach comes to what its Lean function says. -/
import Derived.Test.YtmdjmfbinjnlcaaPx0
import Derived.Test.YtmdjmfbinjnlcaaPx6
namespace Go.Proofs.Ytmdjmfbinjnlcaa.P
open Go.RowKit Go.Proofs.YtmdjmfbinjnlcaaW.PrintWords Go.Proofs.YtmdjmfbinjnlcaaW.PrintLast Go.Proofs.YtmdjmfbinjnlcaaW.PrintMore
attribute [local go_sem] max2_int min2_int max_two min_two max_three min_three max_four min_four   -- for this text's walks alone
set_option linter.unusedVariables false
set_option linter.unusedSimpArgs false
/-- A cell that was written twice. -/
theorem cell_twice (w : World) (a : Addr) (u v : Value) (h : (w.cell? a).isSome = true) : ((w.setCell a u).setCell a v).cell? a = some v := by
  obtain ⟨x, hx⟩ := Option.isSome_iff_exists.1 h
  exact World.cell?_setCell_same _ _ _ (World.cell?_setCell_same _ _ _ hx)
theorem cell_twice_behind (w : World) (a b : Addr) (u v x : Value) (hn : b ≠ a) (h : (w.cell? a).isSome = true) : (((w.setCell a u).setCell b x).setCell a v).cell? a = some v := by
  obtain ⟨x, hx⟩ := Option.isSome_iff_exists.1 h
  refine World.cell?_setCell_same _ _ _ (u := u) ?_
  rw [World.cell?_setCell_other _ _ _ _ hn]
  exact World.cell?_setCell_same _ _ _ hx
attribute [local go_sem] cell_twice cell_twice_behind

/-! ### hatstandlaw14_events: function 17 -/
mutual
def hatstandlaw14_events.l0 : Nat → List (S61) → List (S47) → List Int → Int → Option ((List (S47)))
  | 0, _, _, _, _ => none
  | k + 1, x0, x3, x4, x5 => if x5 < (x0.length : Int) then (if 0 ≤ x5 then ((hatstandlaw14_pick.f ((rd_T61 x0 x5).f0) 8).bind fun t145 => (if 0 ≤ t145 then (if t145 < (x4.length : Int) then (if (rd x4 t145) = 0 then (if (rd_T61 x0 x5).f2 = true then (if x3.length < 4398046511104 then ((some (x3 ++ [(⟨t145, false, (rd_T61 x0 x5).f2, (rd_T61 x0 x5).f3, 0⟩ : S47)] : List (S47))).bind fun y150 => (hatstandlaw14_events.l0 k x0 y150 (x4.set (t145 : Int).toNat (y150.length : Int)) (wrap64 (x5 + 1)))) else (none)) else (if x3.length < 4398046511104 then ((some (x3 ++ [(⟨t145, false, (rd_T61 x0 x5).f2, 0, 0⟩ : S47)] : List (S47))).bind fun y154 => (hatstandlaw14_events.l0 k x0 y154 (x4.set (t145 : Int).toNat (y154.length : Int)) (wrap64 (x5 + 1)))) else (none))) else (if 0 ≤ (wrap64 ((rd x4 t145) - 1)) then (if (wrap64 ((rd x4 t145) - 1)) < (x3.length : Int) then ((some (([1, 1, 2, 6] : List Int) : List Int)).bind fun y160 => ((hatstandlaw14_pick.f ((rd_T61 x0 x5).f1) 4).bind fun t164 => (if 0 ≤ t164 then (if t164 < (y160.length : Int) then (if ((rd_T47 x3 (wrap64 ((rd x4 t145) - 1))).f2 = true) then (hatstandlaw14_events.j1 k x0 x3 x4 x5 t145 false t145 true ((rd_T47 x3 (wrap64 ((rd x4 t145) - 1))).f2) 0 (rd y160 t164)) else (hatstandlaw14_events.j1 k x0 x3 x4 x5 t145 ((rd y160 t164) == 1) t145 true ((rd_T47 x3 (wrap64 ((rd x4 t145) - 1))).f2) 0 (rd y160 t164))) else (none)) else (none)))) else (none)) else (none))) else (none)) else (none))) else (none)) else (some x3)
def hatstandlaw14_events.j1 : Nat → List (S61) → List (S47) → List Int → Int → Int → Bool → Int → Bool → Bool → Int → Int → Option ((List (S47)))
  | 0, _, _, _, _, _, _, _, _, _, _, _ => none
  | k + 1, x0, x3, x4, x5, x6, x78, x167000, x167001, x167002, x167003, x167004 => if x78 = true then (if 0 ≤ x5 then (if x5 < (x0.length : Int) then (if x3.length < 4398046511104 then (if 0 ≤ x6 then (if x6 < (x4.length : Int) then (hatstandlaw14_events.l0 k x0 (x3 ++ [(⟨x167000, x167001, x167002, (rd_T61 x0 x5).f3, x167004⟩ : S47)]) (x4.set (x6 : Int).toNat 0) (wrap64 (x5 + 1))) else (none)) else (none)) else (none)) else (none)) else (none)) else (if x3.length < 4398046511104 then (if 0 ≤ x6 then (if x6 < (x4.length : Int) then (hatstandlaw14_events.l0 k x0 (x3 ++ [(⟨x167000, x167001, x167002, x167003, x167004⟩ : S47)]) (x4.set (x6 : Int).toNat 0) (wrap64 (x5 + 1))) else (none)) else (none)) else (none))
end
def hatstandlaw14_events.f (k : Nat) (l0 : List (S61)) : Option ((List (S47))) := if 8 ≤ 35184372088832 then (hatstandlaw14_events.l0 k l0 ([] : List (S47)) (List.replicate 8 0) 0) else (none)
theorem hatstandlaw14_events.mono_l : ∀ k, (∀ y0 y1 y2 y3, LeO (hatstandlaw14_events.l0 k y0 y1 y2 y3) (hatstandlaw14_events.l0 (k + 1) y0 y1 y2 y3)) ∧ (∀ y0 y1 y2 y3 y4 y5 y6 y7 y8 y9 y10, LeO (hatstandlaw14_events.j1 k y0 y1 y2 y3 y4 y5 y6 y7 y8 y9 y10) (hatstandlaw14_events.j1 (k + 1) y0 y1 y2 y3 y4 y5 y6 y7 y8 y9 y10))
  | 0 => ⟨fun _ _ _ _ r h => by simp [hatstandlaw14_events.l0] at h, fun _ _ _ _ _ _ _ _ _ _ _ r h => by simp [hatstandlaw14_events.j1] at h⟩
  | k + 1 => by
    obtain ⟨ih0, ih1⟩ := hatstandlaw14_events.mono_l k
    refine ⟨?_, ?_⟩
    · intro y0 y1 y2 y3
      unfold hatstandlaw14_events.l0
      repeat' first
      | (with_reducible exact ih0 _ _ _ _)
      | (with_reducible exact ih1 _ _ _ _ _ _ _ _ _ _ _)
      | (with_reducible exact LeO.refl _)
      | (with_reducible exact LeO.none _)
      | (with_reducible refine LeO.ite ?_ ?_)
      | (with_reducible refine LeO.bind ?_ (fun _ => ?_))
      | exact ih0 _ _ _ _
      | exact ih1 _ _ _ _ _ _ _ _ _ _ _
      | exact LeO.none _
      | refine LeO.ite ?_ ?_
      | refine LeO.bind ?_ (fun _ => ?_)
    · intro y0 y1 y2 y3 y4 y5 y6 y7 y8 y9 y10
      unfold hatstandlaw14_events.j1
      repeat' first
      | (with_reducible exact ih0 _ _ _ _)
      | (with_reducible exact ih1 _ _ _ _ _ _ _ _ _ _ _)
      | (with_reducible exact LeO.refl _)
      | (with_reducible exact LeO.none _)
      | (with_reducible refine LeO.ite ?_ ?_)
      | (with_reducible refine LeO.bind ?_ (fun _ => ?_))
      | exact ih0 _ _ _ _
      | exact ih1 _ _ _ _ _ _ _ _ _ _ _
      | exact LeO.none _
      | refine LeO.ite ?_ ?_
      | refine LeO.bind ?_ (fun _ => ?_)
theorem hatstandlaw14_events.mono : ∀ a0 k, LeO (hatstandlaw14_events.f k a0) (hatstandlaw14_events.f (k + 1) a0) := by
  intro a0 k
  obtain ⟨ih0, ih1⟩ := hatstandlaw14_events.mono_l k
  unfold hatstandlaw14_events.f
  repeat' first
      | (with_reducible exact ih0 _ _ _ _)
      | (with_reducible exact ih1 _ _ _ _ _ _ _ _ _ _ _)
      | (with_reducible exact LeO.refl _)
      | (with_reducible exact LeO.none _)
      | (with_reducible refine LeO.ite ?_ ?_)
      | (with_reducible refine LeO.bind ?_ (fun _ => ?_))
      | exact ih0 _ _ _ _
      | exact ih1 _ _ _ _ _ _ _ _ _ _ _
      | exact LeO.none _
      | refine LeO.ite ?_ ?_
      | refine LeO.bind ?_ (fun _ => ?_)
def hatstandlaw14_events.T13 : Bool × List (List Nat × List Nat) := (true, [([], []), ([], []), ([], []), ([], []), ([2, 3], [2, 3]), ([4], [4]), ([5], [5]), ([1, 6], [1, 6]), ([7], [7]), ([8], [8]), ([], []), ([], []), ([], []), ([11, 12], [11, 12]), ([13], [13]), ([14], [14]), ([15], [15]), ([10, 16], [10, 16]), ([17], [17]), ([0, 9, 18], [0, 9, 18]), ([], []), ([20, 19, 16, 0, 1, 2, 3, 4, 5, 6, 7, 8, 9, 10, 11, 12, 13, 14, 15, 16, 17, 18, 19, 20], [19, 20])])
def hatstandlaw14_events.B13 : List Nat := [0, 0, 0, 0, 12, 28, 60, 126, 254, 510, 0, 0, 0, 6144, 14336, 30720, 63488, 130048, 261120, 524287, 0, 2097151]
theorem hatstandlaw14_events.tab13 : rtab .any (opsOf Try.f17 13) = hatstandlaw14_events.T13 := by kernel_rfl
theorem hatstandlaw14_events.bits13 : waitsOk hatstandlaw14_events.T13.2 hatstandlaw14_events.B13 = true := by kernel_rfl
set_option maxHeartbeats 8000000 in
set_option maxRecDepth 100000 in
theorem hatstandlaw14_events.calls (k : Nat) (A0 : Option Addr) (c0 : Nat) (l0 : List (S61)) (r : List (S47)) (w : World) (hr0 : Kd.C k61 w A0 l0.length l0) (hc0 : l0.length ≤ c0) (h : hatstandlaw14_events.f k l0 = some r) :
    Calls Try.prog 17 #[.slice A0 l0.length c0] w fun e w' => ∃ v0_ : Value, e = .returned (v0_) ∧ Kd.R k47 47 w' w.heap.size (fun _ => True) v0_ r ∧ Below w.heap.size w w' := by
  have hu47 := Try.underlying47
  have HR0 := Aside0.mk hr0
  have HC0 := Aside0.mk hc0
  clear hr0 hc0
  have HB := Aside0.mk (Below.refl w.heap.size w)
  have H : (if 8 ≤ 35184372088832 then (hatstandlaw14_events.l0 k l0 ([] : List (S47)) (List.replicate 8 0) 0) else (none)) = some r := h
  clear h
  by_cases c2 : 8 ≤ 35184372088832
  · rw [if_pos c2] at H
    have c2b0 := eq_true c2
    have c2b1 : decide (8 ≤ 35184372088832) = true := decide_eq_true c2
    clear c2
    obtain ⟨y141, hy141⟩ : ∃ y_ : List Int, y_ = (List.replicate 8 0) := ⟨_, rfl⟩
    replace H : (hatstandlaw14_events.l0 k l0 ([] : List (S47)) y141 0) = some r := by first | (rw [hy141]; with_reducible exact H) | (have H2_ := (Option.bind_some _ _).symm.trans H; rw [hy141]; with_reducible exact H2_) | (have H2_ := (Option.bind_some _ _).symm.trans H; with_reducible exact H2_) | with_reducible exact H | (rw [hy141]; exact H) | exact H
    have Ny141 := Aside0.mk hy141
    clear hy141
    have H' := Aside0.mk H
    clear H
    go_enter Try.func17, Try.ntmps17
    go_wp2_with (first | ((with_reducible refine gate_dst (N := 9) rfl ?_); refine Kd.R_make (Kd.int .i64) _ 3 rfl (N := 9) rfl 41 _ _ rfl 8 rfl rfl Try.underlying41 (.int .i64 0) 8 info3 rfl (by decide) (by omega) 0 (ok := fun _ => True) (okp := fun _ => True) rfl (fun _ hk => hk) trivial (by omega) (by omega) (Below.refl _ _) (Nat.le_refl _) ?_; intro v142 w3 ho4 hb hg_ hnew_; clear hg_ hnew_; (first | rw [← Ny141.out] at ho4 | (simp only [Int.reduceToNat] at ho4; rw [← Ny141.out] at ho4)); have n0_ := Aside0.mk (Kd.R_lower ho4 (below_size (by repeat (first | (with_reducible first | exact HB.out | apply below_alloc | apply pw_below_drewN | apply below_drew1) | exact HB.out)))); have n1_ := Aside0.mk (below_step (by repeat (first | (with_reducible first | exact HB.out | apply below_alloc | apply pw_below_drewN | apply below_drew1) | exact HB.out)) hb); clear HB; have HO143 := n0_; have HB := n1_; clear n0_ n1_; clear hb ho4))
    go_loopg [3, 5] k (fun kq v3 v5 w' => ∃ (x3_1 : List (S47)) (x4_1 : List Int) (x5_1 : Int), v5 = .int .i64 x5_1 ∧ Aside0 (hatstandlaw14_events.l0 kq l0 x3_1 x4_1 x5_1 = some r) ∧ Aside0 (kq ≤ k) ∧ Aside0 (Kd.R k47 47 w' w.heap.size (fun _ => True) v3 x3_1) ∧ Aside0 (Kd.R (Kd.int .i64) 3 w' w.heap.size (fun _ => True) v142 x4_1) ∧ Aside0 (Below w.heap.size w w'))
    case atStart => exact ⟨(([] : List (S47))), (y141), (0), (by first | rfl | (simp; done) | (simp [*]; done)), H', ⟨Nat.le_refl _⟩, ⟨by first | exact Kd.R_nil _ _ _ _ _ | exact Kd.N_nil _ _ _ _ _ | exact Kd.V_nil _ _ _ _ _ | exact Kd.Q_nil _ _ _ _ _ | exact Kd.S_nil _ _ _ _ _⟩, ⟨by (with_reducible repeat (first | apply Kd.R_alloc | apply Kd.R_drewN | apply Kd.R_drew)); exact HO143.out⟩, ⟨by repeat (first | (with_reducible first | exact HB.out | apply below_alloc | apply pw_below_drewN | apply below_drew1) | exact HB.out)⟩⟩
    case round =>
      clear H'
      try clear c1
      try clear c2
      try clear c2b0
      try clear c2b1
      try clear p2
      obtain ⟨x3_1, x4_1, x5_1, rfl, HA, HK1, HO_3, HO_4, HB⟩ := hrel
      cases gk with
      | zero => exact absurd HA.out (by simp [hatstandlaw14_events.l0])
      | succ k1 =>
        have H := HA.out
        clear HA
        simp only [hatstandlaw14_events.l0] at H
        by_cases c5 : x5_1 < (l0.length : Int)
        · rw [if_pos c5] at H
          have c5b0 : decide (x5_1 < (l0.length : Int)) = true := decide_eq_true c5
          clear c5
          by_cases c6 : 0 ≤ x5_1
          · rw [if_pos c6] at H
            have c6b0 : decide (0 ≤ x5_1) = true := decide_eq_true c6
            clear c6
            replace H := Option.bind_eq_some_iff.mp H
            obtain ⟨t145, A70, H⟩ := H
            replace H : (if 0 ≤ t145 then (if t145 < (x4_1.length : Int) then (if (rd x4_1 t145) = 0 then (if (rd_T61 l0 x5_1).f2 = true then (if x3_1.length < 4398046511104 then ((some (x3_1 ++ [(⟨t145, false, (rd_T61 l0 x5_1).f2, (rd_T61 l0 x5_1).f3, 0⟩ : S47)] : List (S47))).bind fun y150 => (hatstandlaw14_events.l0 k1 l0 y150 (x4_1.set (t145 : Int).toNat (y150.length : Int)) (wrap64 (x5_1 + 1)))) else (none)) else (if x3_1.length < 4398046511104 then ((some (x3_1 ++ [(⟨t145, false, (rd_T61 l0 x5_1).f2, 0, 0⟩ : S47)] : List (S47))).bind fun y154 => (hatstandlaw14_events.l0 k1 l0 y154 (x4_1.set (t145 : Int).toNat (y154.length : Int)) (wrap64 (x5_1 + 1)))) else (none))) else (if 0 ≤ (wrap64 ((rd x4_1 t145) - 1)) then (if (wrap64 ((rd x4_1 t145) - 1)) < (x3_1.length : Int) then ((some (([1, 1, 2, 6] : List Int) : List Int)).bind fun y160 => ((hatstandlaw14_pick.f ((rd_T61 l0 x5_1).f1) 4).bind fun t164 => (if 0 ≤ t164 then (if t164 < (y160.length : Int) then (if ((rd_T47 x3_1 (wrap64 ((rd x4_1 t145) - 1))).f2 = true) then (hatstandlaw14_events.j1 k1 l0 x3_1 x4_1 x5_1 t145 false t145 true ((rd_T47 x3_1 (wrap64 ((rd x4_1 t145) - 1))).f2) 0 (rd y160 t164)) else (hatstandlaw14_events.j1 k1 l0 x3_1 x4_1 x5_1 t145 ((rd y160 t164) == 1) t145 true ((rd_T47 x3_1 (wrap64 ((rd x4_1 t145) - 1))).f2) 0 (rd y160 t164))) else (none)) else (none)))) else (none)) else (none))) else (none)) else (none)) = some r := H
            have A7 := Aside0.mk A70
            clear A70
            by_cases c8 : 0 ≤ t145
            · rw [if_pos c8] at H
              have c8b0 : decide (0 ≤ t145) = true := decide_eq_true c8
              clear c8
              by_cases c9 : t145 < (x4_1.length : Int)
              · rw [if_pos c9] at H
                have c9b0 : decide (t145 < (x4_1.length : Int)) = true := decide_eq_true c9
                clear c9
                by_cases c10 : (rd x4_1 t145) = 0
                · rw [if_pos c10] at H
                  have c10b0 : ((rd x4_1 t145) == 0) = true := beq_iff_eq.mpr c10
                  have c10b1 : ((rd x4_1 t145) != 0) = false := bne_eq_false_iff_eq.mpr c10
                  clear c10
                  obtain ⟨bq11, hbq11⟩ : ∃ b_ : Bool, b_ = ((rd_T61 l0 x5_1).f2) := ⟨_, rfl⟩
                  replace H : (if bq11 = true then (if x3_1.length < 4398046511104 then ((some (x3_1 ++ [(⟨t145, false, bq11, (rd_T61 l0 x5_1).f3, 0⟩ : S47)] : List (S47))).bind fun y150 => (hatstandlaw14_events.l0 k1 l0 y150 (x4_1.set (t145 : Int).toNat (y150.length : Int)) (wrap64 (x5_1 + 1)))) else (none)) else (if x3_1.length < 4398046511104 then ((some (x3_1 ++ [(⟨t145, false, bq11, 0, 0⟩ : S47)] : List (S47))).bind fun y154 => (hatstandlaw14_events.l0 k1 l0 y154 (x4_1.set (t145 : Int).toNat (y154.length : Int)) (wrap64 (x5_1 + 1)))) else (none))) = some r := by rw [← hbq11] at H; exact H
                  have Nbq11 := Aside0.mk hbq11
                  clear hbq11
                  by_cases c12 : bq11 = true
                  · subst c12
                    have H1 : (if x3_1.length < 4398046511104 then ((some (x3_1 ++ [(⟨t145, false, true, (rd_T61 l0 x5_1).f3, 0⟩ : S47)] : List (S47))).bind fun y150 => (hatstandlaw14_events.l0 k1 l0 y150 (x4_1.set (t145 : Int).toNat (y150.length : Int)) (wrap64 (x5_1 + 1)))) else (none)) = some r := by rw [if_pos rfl] at H; exact H
                    clear H
                    have H := H1
                    clear H1
                    by_cases c13 : x3_1.length < 4398046511104
                    · rw [if_pos c13] at H
                      have LMc13 := Aside0.mk c13
                      clear c13
                      obtain ⟨y150, hy150⟩ : ∃ y_ : List (S47), y_ = (x3_1 ++ [(⟨t145, false, true, (rd_T61 l0 x5_1).f3, 0⟩ : S47)]) := ⟨_, rfl⟩
                      replace H : (hatstandlaw14_events.l0 k1 l0 y150 (x4_1.set (t145 : Int).toNat (y150.length : Int)) (wrap64 (x5_1 + 1))) = some r := by first | (rw [hy150]; with_reducible exact H) | (have H2_ := (Option.bind_some _ _).symm.trans H; rw [hy150]; with_reducible exact H2_) | (have H2_ := (Option.bind_some _ _).symm.trans H; with_reducible exact H2_) | with_reducible exact H | (rw [hy150]; exact H) | exact H
                      have Ny150 := Aside0.mk hy150
                      clear hy150
                      obtain ⟨y153, hy153⟩ : ∃ y_ : List Int, y_ = (x4_1.set (t145 : Int).toNat (y150.length : Int)) := ⟨_, rfl⟩
                      replace H : (hatstandlaw14_events.l0 k1 l0 y150 y153 (wrap64 (x5_1 + 1))) = some r := by first | (rw [hy153]; with_reducible exact H) | (have H2_ := (Option.bind_some _ _).symm.trans H; rw [hy153]; with_reducible exact H2_) | (have H2_ := (Option.bind_some _ _).symm.trans H; with_reducible exact H2_) | with_reducible exact H | (rw [hy153]; exact H) | exact H
                      have Ny153 := Aside0.mk hy153
                      clear hy153
                      have H' := Aside0.mk H
                      clear H
                      have p144 : 0 ≤ (x5_1 : Int) := of_decide_eq_true (by first | (with_reducible assumption) | assumption)
                      have q144 : x5_1 < (l0.length : Int) := of_decide_eq_true (by first | (with_reducible assumption) | assumption)
                      obtain ⟨ad144, e144, hx144_0, hx144_1, hx144_2, hx144_3⟩ := at_T61 HR0.out x5_1 p144 q144
                      (try rw [← Nbq11.out] at hx144_2)
                      (try rw [← Nbq11.out] at hw144_2)
                      cases e144
                      replace hx144_0 := (HB.out.cell (World.block_lt_of_cell? w _ hx144_0)).trans hx144_0
                      replace hx144_1 := (HB.out.cell (World.block_lt_of_cell? w _ hx144_1)).trans hx144_1
                      replace hx144_2 := (HB.out.cell (World.block_lt_of_cell? w _ hx144_2)).trans hx144_2
                      replace hx144_3 := (HB.out.cell (World.block_lt_of_cell? w _ hx144_3)).trans hx144_3
                      replace p144 := eq_true p144
                      replace q144 := eq_true q144
                      go_wp2_with (first | ((with_reducible refine gate_callee (f := 18) rfl ?_); refine goesL_ (some 21) rfl rfl Try.func18 (by kernel_rfl) rfl #[.int .i64 ((rd_T61 l0 x5_1).f0), .int .i64 8] rfl (by (try simp only [List.map_toArray, List.map_cons, List.map_nil]); first | done | rfl | (simp only [List.length_drop, List.length_take]; rfl)) ?_; (with_reducible refine (hatstandlaw14_pick.calls ((rd_T61 l0 x5_1).f0) 8 t145 _ A7.out).mono ?_); rintro e w' ⟨rfl, ⟨nd, rfl⟩⟩; refine ⟨_, rfl, ?_⟩; (try (rw [drewN_self wr]; generalize hq_ : World.drewN wr _ = wr; have n0_ : Aside0 (Kd.R k47 47 wr w.heap.size (fun _ => True) u3 x3_1) := ⟨by rw [← hq_]; exact (by (with_reducible repeat (first | apply Kd.R_alloc | apply Kd.R_drewN | apply Kd.R_drew)); exact HO_3.out)⟩; have n1_ : Aside0 (Kd.R (Kd.int .i64) 3 wr w.heap.size (fun _ => True) v142 x4_1) := ⟨by rw [← hq_]; exact (by (with_reducible repeat (first | apply Kd.R_alloc | apply Kd.R_drewN | apply Kd.R_drew)); exact HO_4.out)⟩; have n2_ : Aside0 (Below w.heap.size w wr) := ⟨by rw [← hq_]; exact (by repeat (first | (with_reducible first | exact HB.out | apply below_alloc | apply pw_below_drewN | apply below_drew1) | exact HB.out))⟩; clear HO_3 HO_4 HB hq_; have HO_3 := n0_; have HO_4 := n1_; have HB := n2_; clear n0_ n1_ n2_)); obtain ⟨Ao15, co15, eo15⟩ := Kd.R_slice HO_4.out; subst eo15; have p146 : 0 ≤ (t145 : Int) := of_decide_eq_true (by first | (with_reducible assumption) | assumption); have q146 : t145 < (x4_1.length : Int) := of_decide_eq_true (by first | (with_reducible assumption) | assumption); obtain ⟨ad146, e146, hx146_0⟩ := Kd.at_int (Kd.R_reads' HO_4.out).2.2 t145 p146 q146; cases e146; replace p146 := eq_true p146; replace q146 := eq_true q146; have p147 : 0 ≤ (x5_1 : Int) := of_decide_eq_true (by first | (with_reducible assumption) | assumption); have q147 : x5_1 < (l0.length : Int) := of_decide_eq_true (by first | (with_reducible assumption) | assumption); obtain ⟨ad147, e147, hx147_0, hx147_1, hx147_2, hx147_3⟩ := at_T61 HR0.out x5_1 p147 q147; (try rw [← Nbq11.out] at hx147_2); (try rw [← Nbq11.out] at hw147_2); obtain rfl : ad144 = ad147 := (by injection e147); replace hx147_0 := (HB.out.cell (World.block_lt_of_cell? w _ hx147_0)).trans hx147_0; replace hx147_1 := (HB.out.cell (World.block_lt_of_cell? w _ hx147_1)).trans hx147_1; replace hx147_2 := (HB.out.cell (World.block_lt_of_cell? w _ hx147_2)).trans hx147_2; replace hx147_3 := (HB.out.cell (World.block_lt_of_cell? w _ hx147_3)).trans hx147_3; replace p147 := eq_true p147; replace q147 := eq_true q147) | ((with_reducible refine gate_dst (N := 7) rfl ?_); refine box_event ?hg (N := 7) ?hd (cs := #[.int .i64 0, .bool false, .bool false, .int .u64 0, .int .i64 0]) (t := 47) ?hr ?_; (case hd => rfl); (case hg => rfl); (case hr => first | (go_simp; done) | (go_simp; rfl)); intro gb148 hg w16 hbox hb; have n0_ := Aside0.mk (Kd.R_below (Kd.R_elderB (by (with_reducible repeat (first | apply Kd.R_alloc | apply Kd.R_drewN | apply Kd.R_drew)); exact HO_3.out) gb148 (Nat.le_of_eq hg.symm)) hb); have n1_ := Aside0.mk (Kd.R_below (by (with_reducible repeat (first | apply Kd.R_alloc | apply Kd.R_drewN | apply Kd.R_drew)); exact HO_4.out) hb); have n2_ := Aside0.mk (below_step (by repeat (first | (with_reducible first | exact HB.out | apply below_alloc | apply pw_below_drewN | apply below_drew1) | exact HB.out)) hb); have n3_ := Aside0.mk (hbox); have n4_ := Aside0.mk ((by rw [hg]; exact (below_size (by repeat (first | (with_reducible first | exact HB.out | apply below_alloc | apply pw_below_drewN | apply below_drew1) | exact HB.out))) : w.heap.size ≤ gb148)); have n5_ := Aside0.mk ((by rw [hg]; exact (below_size (by repeat (first | (with_reducible first | exact HB.out | apply below_alloc | apply pw_below_drewN | apply below_drew1) | exact HB.out))) : w.heap.size ≤ gb148)); clear HO_3; clear HO_4; clear HB; have HO_3 := n0_; have HO_4 := n1_; have HB := n2_; have BK148 := n3_; have GW148 := n4_; have GE148 := n5_; clear n0_ n1_ n2_ n3_ n4_ n5_; clear hb hbox hg; have hcz17_0 : w16.cell? ⟨gb148, 0, none⟩ = some (.int .i64 0) := (blk_cell BK148.out 0).trans rfl; have hcz17_1 : w16.cell? ⟨gb148, 1, none⟩ = some (.bool false) := (blk_cell BK148.out 1).trans rfl; have hcz17_2 : w16.cell? ⟨gb148, 2, none⟩ = some (.bool false) := (blk_cell BK148.out 2).trans rfl; have hcz17_3 : w16.cell? ⟨gb148, 3, none⟩ = some (.int .u64 0) := (blk_cell BK148.out 3).trans rfl; have hcz17_4 : w16.cell? ⟨gb148, 4, none⟩ = some (.int .i64 0) := (blk_cell BK148.out 4).trans rfl; have hfz17_0 := blk_frozen BK148.out 0; have hfz17_1 := blk_frozen BK148.out 1; have hfz17_2 := blk_frozen BK148.out 2; have hfz17_3 := blk_frozen BK148.out 3; have hfz17_4 := blk_frozen BK148.out 4; have p149 : 0 ≤ (x5_1 : Int) := of_decide_eq_true (by first | (with_reducible assumption) | assumption); have q149 : x5_1 < (l0.length : Int) := of_decide_eq_true (by first | (with_reducible assumption) | assumption); obtain ⟨ad149, e149, hx149_0, hx149_1, hx149_2, hx149_3⟩ := at_T61 HR0.out x5_1 p149 q149; (try rw [← Nbq11.out] at hx149_2); (try rw [← Nbq11.out] at hw149_2); obtain rfl : ad144 = ad149 := (by injection e149); have hn149_0 : ad144.block ≠ gb148 := Nat.ne_of_lt (Nat.lt_of_lt_of_le (by have := World.block_lt_of_cell? _ _ hx149_0; first | rwa [add_block] at this | exact this) GW148.out); have hn149_1 : ad144.block ≠ gb148 := Nat.ne_of_lt (Nat.lt_of_lt_of_le (by have := World.block_lt_of_cell? _ _ hx149_0; first | rwa [add_block] at this | exact this) GW148.out); have hn149_2 : ad144.block ≠ gb148 := Nat.ne_of_lt (Nat.lt_of_lt_of_le (by have := World.block_lt_of_cell? _ _ hx149_0; first | rwa [add_block] at this | exact this) GW148.out); have hn149_3 : ad144.block ≠ gb148 := Nat.ne_of_lt (Nat.lt_of_lt_of_le (by have := World.block_lt_of_cell? _ _ hx149_0; first | rwa [add_block] at this | exact this) GW148.out); have hn149_4 : ad144.block ≠ gb148 := Nat.ne_of_lt (Nat.lt_of_lt_of_le (by have := World.block_lt_of_cell? _ _ hx149_0; first | rwa [add_block] at this | exact this) GW148.out); replace hx149_0 := (HB.out.cell (World.block_lt_of_cell? w _ hx149_0)).trans hx149_0; replace hx149_1 := (HB.out.cell (World.block_lt_of_cell? w _ hx149_1)).trans hx149_1; replace hx149_2 := (HB.out.cell (World.block_lt_of_cell? w _ hx149_2)).trans hx149_2; replace hx149_3 := (HB.out.cell (World.block_lt_of_cell? w _ hx149_3)).trans hx149_3; replace hx149_0 := (cell_far (p := ⟨gb148, 0, none⟩) (by first | (rw [add_block]; exact hn149_0) | (show (Addr.add _ _).block ≠ _; rw [add_block]; exact hn149_0) | exact hn149_0) (.int .i64 t145)).trans hx149_0; replace hx149_1 := (cell_far (p := ⟨gb148, 0, none⟩) (by first | (rw [add_block]; exact hn149_0) | (show (Addr.add _ _).block ≠ _; rw [add_block]; exact hn149_0) | exact hn149_0) (.int .i64 t145)).trans hx149_1; replace hx149_2 := (cell_far (p := ⟨gb148, 0, none⟩) (by first | (rw [add_block]; exact hn149_0) | (show (Addr.add _ _).block ≠ _; rw [add_block]; exact hn149_0) | exact hn149_0) (.int .i64 t145)).trans hx149_2; replace hx149_3 := (cell_far (p := ⟨gb148, 0, none⟩) (by first | (rw [add_block]; exact hn149_0) | (show (Addr.add _ _).block ≠ _; rw [add_block]; exact hn149_0) | exact hn149_0) (.int .i64 t145)).trans hx149_3; replace hx149_0 := (cell_far (p := ⟨gb148, 1, none⟩) (by first | (rw [add_block]; exact hn149_1) | (show (Addr.add _ _).block ≠ _; rw [add_block]; exact hn149_1) | exact hn149_1) (.bool false)).trans hx149_0; replace hx149_1 := (cell_far (p := ⟨gb148, 1, none⟩) (by first | (rw [add_block]; exact hn149_1) | (show (Addr.add _ _).block ≠ _; rw [add_block]; exact hn149_1) | exact hn149_1) (.bool false)).trans hx149_1; replace hx149_2 := (cell_far (p := ⟨gb148, 1, none⟩) (by first | (rw [add_block]; exact hn149_1) | (show (Addr.add _ _).block ≠ _; rw [add_block]; exact hn149_1) | exact hn149_1) (.bool false)).trans hx149_2; replace hx149_3 := (cell_far (p := ⟨gb148, 1, none⟩) (by first | (rw [add_block]; exact hn149_1) | (show (Addr.add _ _).block ≠ _; rw [add_block]; exact hn149_1) | exact hn149_1) (.bool false)).trans hx149_3; replace hx149_0 := (cell_far (p := ⟨gb148, 2, none⟩) (by first | (rw [add_block]; exact hn149_2) | (show (Addr.add _ _).block ≠ _; rw [add_block]; exact hn149_2) | exact hn149_2) (.bool true)).trans hx149_0; replace hx149_1 := (cell_far (p := ⟨gb148, 2, none⟩) (by first | (rw [add_block]; exact hn149_2) | (show (Addr.add _ _).block ≠ _; rw [add_block]; exact hn149_2) | exact hn149_2) (.bool true)).trans hx149_1; replace hx149_2 := (cell_far (p := ⟨gb148, 2, none⟩) (by first | (rw [add_block]; exact hn149_2) | (show (Addr.add _ _).block ≠ _; rw [add_block]; exact hn149_2) | exact hn149_2) (.bool true)).trans hx149_2; replace hx149_3 := (cell_far (p := ⟨gb148, 2, none⟩) (by first | (rw [add_block]; exact hn149_2) | (show (Addr.add _ _).block ≠ _; rw [add_block]; exact hn149_2) | exact hn149_2) (.bool true)).trans hx149_3; replace hx149_0 := (cell_far (p := ⟨gb148, 3, none⟩) (by first | (rw [add_block]; exact hn149_3) | (show (Addr.add _ _).block ≠ _; rw [add_block]; exact hn149_3) | exact hn149_3) (.int .u64 0)).trans hx149_0; replace hx149_1 := (cell_far (p := ⟨gb148, 3, none⟩) (by first | (rw [add_block]; exact hn149_3) | (show (Addr.add _ _).block ≠ _; rw [add_block]; exact hn149_3) | exact hn149_3) (.int .u64 0)).trans hx149_1; replace hx149_2 := (cell_far (p := ⟨gb148, 3, none⟩) (by first | (rw [add_block]; exact hn149_3) | (show (Addr.add _ _).block ≠ _; rw [add_block]; exact hn149_3) | exact hn149_3) (.int .u64 0)).trans hx149_2; replace hx149_3 := (cell_far (p := ⟨gb148, 3, none⟩) (by first | (rw [add_block]; exact hn149_3) | (show (Addr.add _ _).block ≠ _; rw [add_block]; exact hn149_3) | exact hn149_3) (.int .u64 0)).trans hx149_3; replace hx149_0 := (cell_far (p := ⟨gb148, 4, none⟩) (by first | (rw [add_block]; exact hn149_4) | (show (Addr.add _ _).block ≠ _; rw [add_block]; exact hn149_4) | exact hn149_4) (.int .i64 0)).trans hx149_0; replace hx149_1 := (cell_far (p := ⟨gb148, 4, none⟩) (by first | (rw [add_block]; exact hn149_4) | (show (Addr.add _ _).block ≠ _; rw [add_block]; exact hn149_4) | exact hn149_4) (.int .i64 0)).trans hx149_1; replace hx149_2 := (cell_far (p := ⟨gb148, 4, none⟩) (by first | (rw [add_block]; exact hn149_4) | (show (Addr.add _ _).block ≠ _; rw [add_block]; exact hn149_4) | exact hn149_4) (.int .i64 0)).trans hx149_2; replace hx149_3 := (cell_far (p := ⟨gb148, 4, none⟩) (by first | (rw [add_block]; exact hn149_4) | (show (Addr.add _ _).block ≠ _; rw [add_block]; exact hn149_4) | exact hn149_4) (.int .i64 0)).trans hx149_3; clear hn149_0; clear hn149_1; clear hn149_2; clear hn149_3; clear hn149_4; replace p149 := eq_true p149; replace q149 := eq_true q149) | ((with_reducible refine gate_builtin (b := .append) (xs := #[.tmp 42, .tmp 44]) rfl ?_); at_builtin; refine Kd.R_append k47 (w0 := w) w.heap.size rfl (.tmp 42) (.tmp 44) 22 47 (.agg #[(.int .i64 0), (.bool false), (.bool false), (.int .u64 0), (.int .i64 0)]) 32 rfl Try.underlying22 info47 rfl (by decide) (by omega) u3 x3_1 (⟨t145, false, true, (rd_T61 l0 x5_1).f3, 0⟩ : S47) [.int .i64 t145, .bool false, .bool true, .int .u64 ((rd_T61 l0 x5_1).f3), .int .i64 0] (fun k_ => k_ ≠ gb148) (fun _ => False) rfl (by first | (go_simp; done) | (go_simp; rfl)) ?aP (fun _ hk => hk.elim) ?aF ?aO ?aB ?aS ?aL ?_; (case aP => exact k47_mkM _ _ _ (⟨t145, false, true, (rd_T61 l0 x5_1).f3, 0⟩ : S47)); (case aB => exact (by repeat (first | (with_reducible first | exact HB.out | apply below_alloc | apply pw_below_drewN | apply below_drew1 | refine below_set ?_ GE148.out) | exact HB.out))); (case aF => exact (fun k_ hk => Kd.freshB (g := gb148) (o := .cells #[.int .i64 t145, .bool false, .bool true, .int .u64 ((rd_T61 l0 x5_1).f3), .int .i64 0] 47 (0, 0)) (by (with_reducible repeat (first | refine blk_drewN ?_ _ | refine blk_drew ?_ | refine blk_alloc ?_ _)); refine blk_put (cs := #[.int .i64 t145, .bool false, .bool true, .int .u64 0, .int .i64 0]) ?_ 3 _ rfl; (with_reducible repeat (first | refine blk_drewN ?_ _ | refine blk_drew ?_ | refine blk_alloc ?_ _)); refine blk_put (cs := #[.int .i64 t145, .bool false, .bool true, .int .u64 0, .int .i64 0]) ?_ 4 _ rfl; (with_reducible repeat (first | refine blk_drewN ?_ _ | refine blk_drew ?_ | refine blk_alloc ?_ _)); refine blk_put (cs := #[.int .i64 t145, .bool false, .bool true, .int .u64 0, .int .i64 0]) ?_ 3 _ rfl; (with_reducible repeat (first | refine blk_drewN ?_ _ | refine blk_drew ?_ | refine blk_alloc ?_ _)); refine blk_put (cs := #[.int .i64 t145, .bool false, .bool false, .int .u64 0, .int .i64 0]) ?_ 2 _ rfl; (with_reducible repeat (first | refine blk_drewN ?_ _ | refine blk_drew ?_ | refine blk_alloc ?_ _)); refine blk_put (cs := #[.int .i64 t145, .bool false, .bool false, .int .u64 0, .int .i64 0]) ?_ 1 _ rfl; (with_reducible repeat (first | refine blk_drewN ?_ _ | refine blk_drew ?_ | refine blk_alloc ?_ _)); refine blk_put (cs := #[.int .i64 0, .bool false, .bool false, .int .u64 0, .int .i64 0]) ?_ 0 _ rfl; (with_reducible repeat (first | refine blk_drewN ?_ _ | refine blk_drew ?_ | refine blk_alloc ?_ _)); exact BK148.out) k_ hk)); (case aO => exact (by (with_reducible repeat (first | apply Kd.R_alloc | apply Kd.R_drewN | apply Kd.R_drew)); exact Kd.R_mono (Kd.R_far (p := ⟨gb148, 3, none⟩) (Kd.R_far (p := ⟨gb148, 4, none⟩) (Kd.R_far (p := ⟨gb148, 3, none⟩) (Kd.R_far (p := ⟨gb148, 2, none⟩) (Kd.R_far (p := ⟨gb148, 1, none⟩) (Kd.R_far (p := ⟨gb148, 0, none⟩) (Kd.R_mono HO_3.out (fun k_ hk => (⟨hk, hk.2⟩ : _ ∧ k_ ≠ gb148))) (fun _ hk => hk.2) (.int .i64 t145)) (fun _ hk => hk.2) (.bool false)) (fun _ hk => hk.2) (.bool true)) (fun _ hk => hk.2) (.int .u64 0)) (fun _ hk => hk.2) (.int .i64 0)) (fun _ hk => hk.2) (.int .u64 ((rd_T61 l0 x5_1).f3))) (fun _ hk => hk.1.2))); (case aS => exact (below_size (by repeat (first | (with_reducible first | exact HB.out | apply below_alloc | apply pw_below_drewN | apply below_drew1 | refine below_set ?_ GE148.out) | exact HB.out)))); (case aL => have := LMc13.out; omega); intro v151 w18 ho hb hg hat; rw [← Ny150.out] at ho; have n0_ := Aside0.mk (Kd.R_over' (by (with_reducible repeat (first | apply Kd.R_alloc | apply Kd.R_drewN | apply Kd.R_drew)); exact (Kd.R_mono (Kd.R_far (p := ⟨gb148, 3, none⟩) (Kd.R_far (p := ⟨gb148, 4, none⟩) (Kd.R_far (p := ⟨gb148, 3, none⟩) (Kd.R_far (p := ⟨gb148, 2, none⟩) (Kd.R_far (p := ⟨gb148, 1, none⟩) (Kd.R_far (p := ⟨gb148, 0, none⟩) (Kd.R_types HO_4.out BK148.out (by decide)) (fun _ hk => hk.2) (.int .i64 t145)) (fun _ hk => hk.2) (.bool false)) (fun _ hk => hk.2) (.bool true)) (fun _ hk => hk.2) (.int .u64 0)) (fun _ hk => hk.2) (.int .i64 0)) (fun _ hk => hk.2) (.int .u64 ((rd_T61 l0 x5_1).f3))) (fun _ h_ => h_.1))) (Kd.R_typed (by (with_reducible repeat (first | apply Kd.R_alloc | apply Kd.R_drewN | apply Kd.R_drew)); exact (Kd.R_mono (Kd.R_far (p := ⟨gb148, 3, none⟩) (Kd.R_far (p := ⟨gb148, 4, none⟩) (Kd.R_far (p := ⟨gb148, 3, none⟩) (Kd.R_far (p := ⟨gb148, 2, none⟩) (Kd.R_far (p := ⟨gb148, 1, none⟩) (Kd.R_far (p := ⟨gb148, 0, none⟩) (Kd.R_mono HO_3.out (fun k_ hk => (⟨hk, hk.2⟩ : _ ∧ k_ ≠ gb148))) (fun _ hk => hk.2) (.int .i64 t145)) (fun _ hk => hk.2) (.bool false)) (fun _ hk => hk.2) (.bool true)) (fun _ hk => hk.2) (.int .u64 0)) (fun _ hk => hk.2) (.int .i64 0)) (fun _ hk => hk.2) (.int .u64 ((rd_T61 l0 x5_1).f3))) (fun _ h_ => h_.1)))) (by decide) hg); have n1_ := Aside0.mk (blk_grown (g := gb148) (o := .cells #[.int .i64 t145, .bool false, .bool true, .int .u64 ((rd_T61 l0 x5_1).f3), .int .i64 0] 47 (0, 0)) (by (with_reducible repeat (first | refine blk_drewN ?_ _ | refine blk_drew ?_ | refine blk_alloc ?_ _)); refine blk_put (cs := #[.int .i64 t145, .bool false, .bool true, .int .u64 0, .int .i64 0]) ?_ 3 _ rfl; (with_reducible repeat (first | refine blk_drewN ?_ _ | refine blk_drew ?_ | refine blk_alloc ?_ _)); refine blk_put (cs := #[.int .i64 t145, .bool false, .bool true, .int .u64 0, .int .i64 0]) ?_ 4 _ rfl; (with_reducible repeat (first | refine blk_drewN ?_ _ | refine blk_drew ?_ | refine blk_alloc ?_ _)); refine blk_put (cs := #[.int .i64 t145, .bool false, .bool true, .int .u64 0, .int .i64 0]) ?_ 3 _ rfl; (with_reducible repeat (first | refine blk_drewN ?_ _ | refine blk_drew ?_ | refine blk_alloc ?_ _)); refine blk_put (cs := #[.int .i64 t145, .bool false, .bool false, .int .u64 0, .int .i64 0]) ?_ 2 _ rfl; (with_reducible repeat (first | refine blk_drewN ?_ _ | refine blk_drew ?_ | refine blk_alloc ?_ _)); refine blk_put (cs := #[.int .i64 t145, .bool false, .bool false, .int .u64 0, .int .i64 0]) ?_ 1 _ rfl; (with_reducible repeat (first | refine blk_drewN ?_ _ | refine blk_drew ?_ | refine blk_alloc ?_ _)); refine blk_put (cs := #[.int .i64 0, .bool false, .bool false, .int .u64 0, .int .i64 0]) ?_ 0 _ rfl; (with_reducible repeat (first | refine blk_drewN ?_ _ | refine blk_drew ?_ | refine blk_alloc ?_ _)); exact BK148.out) hg (Kd.R_away HO_3.out (fun _ hk => hk.2))); have n2_ := Aside0.mk (hb); have n3_ := Aside0.mk (ho); clear HO_4; clear BK148; clear HB; clear HO_3; have HO_4 := n0_; have BK148 := n1_; have HB := n2_; have HO152 := n3_; clear n0_ n1_ n2_ n3_; clear ho hb hg hat; obtain ⟨Ao19, co19, eo19⟩ := Kd.R_slice HO152.out; subst eo19; have p14 : 0 ≤ (t145 : Int) := of_decide_eq_true (by first | (with_reducible assumption) | assumption); have q14 : (t145 : Int) < ((x4_1.length : Int) : Int) := of_decide_eq_true (by first | (with_reducible assumption) | assumption); obtain ⟨go14, co14, eo14, gb14, gl14, cl14, HG14⟩ := Kd.R_form HO_4.out (by omega); (first | cases eo14 | (injection eo14 with ea_ en_ ec_; (first | subst ea_ | (injection ea_ with ea_; subst ea_)); subst ec_; clear en_)); have GB14 := Aside0.mk gb14; have GG14 := Aside0.mk HG14; clear gb14 gl14 HG14; (first | simp only [add_plain] at hx146_0 | skip); obtain ⟨hx14_0, hf14_0⟩ := Kd.R_celln 0 HO_4.out (t145 : Int) p14 q14; replace p14 := eq_true p14; replace q14 := eq_true q14; obtain ⟨hy20_, hz20_⟩ := Kd.R_celln 0 HO_4.out (t145 : Int) (of_decide_eq_true (by first | (with_reducible assumption) | assumption)) (of_decide_eq_true (by first | (with_reducible assumption) | assumption)); have HP20 := Kd.R_putg HO_4.out (t145 : Int) (y150.length : Int)) | ((with_reducible refine gate_store (t := 3) (p := 50) rfl ?_); refine store_event (t := 3) (p := 50) (v := ?vo_w21) (w1 := (w18.setCell ⟨go14, (t145 : Int).toNat, none⟩ (.int .i64 (y150.length : Int)))) ?hg ?ho ?hn ?hr ?_; (case ho => rfl); (case hg => rfl); (case hn => rfl); (case hr => first | (go_simp; done) | (go_simp; rfl)); intro w21 hw; have hg : w18.grownBy w21 (some go14) := (by rw [hw]; exact HP20.2); have hp_ : Kd.R (Kd.int .i64) 3 w21 w.heap.size (fun _ => True) (.slice (some ⟨go14, 0, none⟩) x4_1.length co15) y153 := (by rw [hw, Ny153.out]; exact HP20.1); clear HP20; have n0_ := Aside0.mk (hp_); have n1_ := Aside0.mk (blk_grown (g := gb148) (o := .cells #[.int .i64 t145, .bool false, .bool true, .int .u64 ((rd_T61 l0 x5_1).f3), .int .i64 0] 47 (0, 0)) (by (with_reducible repeat (first | refine blk_drewN ?_ _ | refine blk_drew ?_ | refine blk_alloc ?_ _)); exact BK148.out) hg (Kd.R_ne HO_4.out BK148.out (by decide))); have n2_ := Aside0.mk (Kd.R_over' (v := (.slice (some ⟨go14, 0, none⟩) x4_1.length co15)) (by (with_reducible repeat (first | apply Kd.R_alloc | apply Kd.R_drewN | apply Kd.R_drew)); exact HO152.out) (Kd.R_typed HO_4.out) (by decide) hg); have n3_ := Aside0.mk ((by rw [hw]; exact below_set (HB.out) GB14.out : Below w.heap.size w w21)); clear HO_4; clear BK148; clear HO152; clear HB; have HO_4 := n0_; have BK148 := n1_; have HO152 := n2_; have HB := n3_; clear n0_ n1_ n2_ n3_; clear hg hw hp_))
                      go_roundg k1
                      case measure => have := HK1.out; omega
                      case rel => exact ⟨(y150), (y153), (wrap64 (x5_1 + 1)), (by first | rfl | (simp; done) | (simp [*]; done)), H', ⟨by have := HK1.out; omega⟩, ⟨by (with_reducible repeat (first | apply Kd.R_alloc | apply Kd.R_drewN | apply Kd.R_drew)); exact Kd.R_mono HO152.out (fun _ hk => trivial)⟩, ⟨by (with_reducible repeat (first | apply Kd.R_alloc | apply Kd.R_drewN | apply Kd.R_drew)); exact HO_4.out⟩, ⟨by repeat (first | (with_reducible first | exact HB.out | apply below_alloc | apply pw_below_drewN | apply below_drew1 | refine below_set ?_ GE148.out) | exact HB.out)⟩⟩
                    · rw [if_neg c13] at H
                      exact absurd H (by simp)
                  · replace c12 := Bool.eq_false_iff.mpr c12
                    subst c12
                    have H1 : (if x3_1.length < 4398046511104 then ((some (x3_1 ++ [(⟨t145, false, false, 0, 0⟩ : S47)] : List (S47))).bind fun y154 => (hatstandlaw14_events.l0 k1 l0 y154 (x4_1.set (t145 : Int).toNat (y154.length : Int)) (wrap64 (x5_1 + 1)))) else (none)) = some r := by rw [if_neg (show ¬ (false = true) by decide)] at H; exact H
                    clear H
                    have H := H1
                    clear H1
                    by_cases c22 : x3_1.length < 4398046511104
                    · rw [if_pos c22] at H
                      have LMc22 := Aside0.mk c22
                      clear c22
                      obtain ⟨y154, hy154⟩ : ∃ y_ : List (S47), y_ = (x3_1 ++ [(⟨t145, false, false, 0, 0⟩ : S47)]) := ⟨_, rfl⟩
                      replace H : (hatstandlaw14_events.l0 k1 l0 y154 (x4_1.set (t145 : Int).toNat (y154.length : Int)) (wrap64 (x5_1 + 1))) = some r := by first | (rw [hy154]; with_reducible exact H) | (have H2_ := (Option.bind_some _ _).symm.trans H; rw [hy154]; with_reducible exact H2_) | (have H2_ := (Option.bind_some _ _).symm.trans H; with_reducible exact H2_) | with_reducible exact H | (rw [hy154]; exact H) | exact H
                      have Ny154 := Aside0.mk hy154
                      clear hy154
                      obtain ⟨y157, hy157⟩ : ∃ y_ : List Int, y_ = (x4_1.set (t145 : Int).toNat (y154.length : Int)) := ⟨_, rfl⟩
                      replace H : (hatstandlaw14_events.l0 k1 l0 y154 y157 (wrap64 (x5_1 + 1))) = some r := by first | (rw [hy157]; with_reducible exact H) | (have H2_ := (Option.bind_some _ _).symm.trans H; rw [hy157]; with_reducible exact H2_) | (have H2_ := (Option.bind_some _ _).symm.trans H; with_reducible exact H2_) | with_reducible exact H | (rw [hy157]; exact H) | exact H
                      have Ny157 := Aside0.mk hy157
                      clear hy157
                      have H' := Aside0.mk H
                      clear H
                      have p144 : 0 ≤ (x5_1 : Int) := of_decide_eq_true (by first | (with_reducible assumption) | assumption)
                      have q144 : x5_1 < (l0.length : Int) := of_decide_eq_true (by first | (with_reducible assumption) | assumption)
                      obtain ⟨ad144, e144, hx144_0, hx144_1, hx144_2, hx144_3⟩ := at_T61 HR0.out x5_1 p144 q144
                      (try rw [← Nbq11.out] at hx144_2)
                      (try rw [← Nbq11.out] at hw144_2)
                      cases e144
                      replace hx144_0 := (HB.out.cell (World.block_lt_of_cell? w _ hx144_0)).trans hx144_0
                      replace hx144_1 := (HB.out.cell (World.block_lt_of_cell? w _ hx144_1)).trans hx144_1
                      replace hx144_2 := (HB.out.cell (World.block_lt_of_cell? w _ hx144_2)).trans hx144_2
                      replace hx144_3 := (HB.out.cell (World.block_lt_of_cell? w _ hx144_3)).trans hx144_3
                      replace p144 := eq_true p144
                      replace q144 := eq_true q144
                      go_wp2_with (first | ((with_reducible refine gate_callee (f := 18) rfl ?_); refine goesL_ (some 21) rfl rfl Try.func18 (by kernel_rfl) rfl #[.int .i64 ((rd_T61 l0 x5_1).f0), .int .i64 8] rfl (by (try simp only [List.map_toArray, List.map_cons, List.map_nil]); first | done | rfl | (simp only [List.length_drop, List.length_take]; rfl)) ?_; (with_reducible refine (hatstandlaw14_pick.calls ((rd_T61 l0 x5_1).f0) 8 t145 _ A7.out).mono ?_); rintro e w' ⟨rfl, ⟨nd, rfl⟩⟩; refine ⟨_, rfl, ?_⟩; (try (rw [drewN_self wr]; generalize hq_ : World.drewN wr _ = wr; have n0_ : Aside0 (Kd.R k47 47 wr w.heap.size (fun _ => True) u3 x3_1) := ⟨by rw [← hq_]; exact (by (with_reducible repeat (first | apply Kd.R_alloc | apply Kd.R_drewN | apply Kd.R_drew)); exact HO_3.out)⟩; have n1_ : Aside0 (Kd.R (Kd.int .i64) 3 wr w.heap.size (fun _ => True) v142 x4_1) := ⟨by rw [← hq_]; exact (by (with_reducible repeat (first | apply Kd.R_alloc | apply Kd.R_drewN | apply Kd.R_drew)); exact HO_4.out)⟩; have n2_ : Aside0 (Below w.heap.size w wr) := ⟨by rw [← hq_]; exact (by repeat (first | (with_reducible first | exact HB.out | apply below_alloc | apply pw_below_drewN | apply below_drew1) | exact HB.out))⟩; clear HO_3 HO_4 HB hq_; have HO_3 := n0_; have HO_4 := n1_; have HB := n2_; clear n0_ n1_ n2_)); obtain ⟨Ao24, co24, eo24⟩ := Kd.R_slice HO_4.out; subst eo24; have p146 : 0 ≤ (t145 : Int) := of_decide_eq_true (by first | (with_reducible assumption) | assumption); have q146 : t145 < (x4_1.length : Int) := of_decide_eq_true (by first | (with_reducible assumption) | assumption); obtain ⟨ad146, e146, hx146_0⟩ := Kd.at_int (Kd.R_reads' HO_4.out).2.2 t145 p146 q146; cases e146; replace p146 := eq_true p146; replace q146 := eq_true q146; have p147 : 0 ≤ (x5_1 : Int) := of_decide_eq_true (by first | (with_reducible assumption) | assumption); have q147 : x5_1 < (l0.length : Int) := of_decide_eq_true (by first | (with_reducible assumption) | assumption); obtain ⟨ad147, e147, hx147_0, hx147_1, hx147_2, hx147_3⟩ := at_T61 HR0.out x5_1 p147 q147; (try rw [← Nbq11.out] at hx147_2); (try rw [← Nbq11.out] at hw147_2); obtain rfl : ad144 = ad147 := (by injection e147); replace hx147_0 := (HB.out.cell (World.block_lt_of_cell? w _ hx147_0)).trans hx147_0; replace hx147_1 := (HB.out.cell (World.block_lt_of_cell? w _ hx147_1)).trans hx147_1; replace hx147_2 := (HB.out.cell (World.block_lt_of_cell? w _ hx147_2)).trans hx147_2; replace hx147_3 := (HB.out.cell (World.block_lt_of_cell? w _ hx147_3)).trans hx147_3; replace p147 := eq_true p147; replace q147 := eq_true q147) | ((with_reducible refine gate_dst (N := 7) rfl ?_); refine box_event ?hg (N := 7) ?hd (cs := #[.int .i64 0, .bool false, .bool false, .int .u64 0, .int .i64 0]) (t := 47) ?hr ?_; (case hd => rfl); (case hg => rfl); (case hr => first | (go_simp; done) | (go_simp; rfl)); intro gb148 hg w25 hbox hb; have n0_ := Aside0.mk (Kd.R_below (Kd.R_elderB (by (with_reducible repeat (first | apply Kd.R_alloc | apply Kd.R_drewN | apply Kd.R_drew)); exact HO_3.out) gb148 (Nat.le_of_eq hg.symm)) hb); have n1_ := Aside0.mk (Kd.R_below (by (with_reducible repeat (first | apply Kd.R_alloc | apply Kd.R_drewN | apply Kd.R_drew)); exact HO_4.out) hb); have n2_ := Aside0.mk (below_step (by repeat (first | (with_reducible first | exact HB.out | apply below_alloc | apply pw_below_drewN | apply below_drew1) | exact HB.out)) hb); have n3_ := Aside0.mk (hbox); have n4_ := Aside0.mk ((by rw [hg]; exact (below_size (by repeat (first | (with_reducible first | exact HB.out | apply below_alloc | apply pw_below_drewN | apply below_drew1) | exact HB.out))) : w.heap.size ≤ gb148)); have n5_ := Aside0.mk ((by rw [hg]; exact (below_size (by repeat (first | (with_reducible first | exact HB.out | apply below_alloc | apply pw_below_drewN | apply below_drew1) | exact HB.out))) : w.heap.size ≤ gb148)); clear HO_3; clear HO_4; clear HB; have HO_3 := n0_; have HO_4 := n1_; have HB := n2_; have BK148 := n3_; have GW148 := n4_; have GE148 := n5_; clear n0_ n1_ n2_ n3_ n4_ n5_; clear hb hbox hg; have hcz26_0 : w25.cell? ⟨gb148, 0, none⟩ = some (.int .i64 0) := (blk_cell BK148.out 0).trans rfl; have hcz26_1 : w25.cell? ⟨gb148, 1, none⟩ = some (.bool false) := (blk_cell BK148.out 1).trans rfl; have hcz26_2 : w25.cell? ⟨gb148, 2, none⟩ = some (.bool false) := (blk_cell BK148.out 2).trans rfl; have hcz26_3 : w25.cell? ⟨gb148, 3, none⟩ = some (.int .u64 0) := (blk_cell BK148.out 3).trans rfl; have hcz26_4 : w25.cell? ⟨gb148, 4, none⟩ = some (.int .i64 0) := (blk_cell BK148.out 4).trans rfl; have hfz26_0 := blk_frozen BK148.out 0; have hfz26_1 := blk_frozen BK148.out 1; have hfz26_2 := blk_frozen BK148.out 2; have hfz26_3 := blk_frozen BK148.out 3; have hfz26_4 := blk_frozen BK148.out 4) | ((with_reducible refine gate_builtin (b := .append) (xs := #[.tmp 42, .tmp 44]) rfl ?_); at_builtin; refine Kd.R_append k47 (w0 := w) w.heap.size rfl (.tmp 42) (.tmp 44) 22 47 (.agg #[(.int .i64 0), (.bool false), (.bool false), (.int .u64 0), (.int .i64 0)]) 32 rfl Try.underlying22 info47 rfl (by decide) (by omega) u3 x3_1 (⟨t145, false, false, 0, 0⟩ : S47) [.int .i64 t145, .bool false, .bool false, .int .u64 0, .int .i64 0] (fun k_ => k_ ≠ gb148) (fun _ => False) rfl (by first | (go_simp; done) | (go_simp; rfl)) ?aP (fun _ hk => hk.elim) ?aF ?aO ?aB ?aS ?aL ?_; (case aP => exact k47_mkM _ _ _ (⟨t145, false, false, 0, 0⟩ : S47)); (case aB => exact (by repeat (first | (with_reducible first | exact HB.out | apply below_alloc | apply pw_below_drewN | apply below_drew1 | refine below_set ?_ GE148.out) | exact HB.out))); (case aF => exact (fun k_ hk => Kd.freshB (g := gb148) (o := .cells #[.int .i64 t145, .bool false, .bool false, .int .u64 0, .int .i64 0] 47 (0, 0)) (by (with_reducible repeat (first | refine blk_drewN ?_ _ | refine blk_drew ?_ | refine blk_alloc ?_ _)); refine blk_put (cs := #[.int .i64 t145, .bool false, .bool false, .int .u64 0, .int .i64 0]) ?_ 4 _ rfl; (with_reducible repeat (first | refine blk_drewN ?_ _ | refine blk_drew ?_ | refine blk_alloc ?_ _)); refine blk_put (cs := #[.int .i64 t145, .bool false, .bool false, .int .u64 0, .int .i64 0]) ?_ 3 _ rfl; (with_reducible repeat (first | refine blk_drewN ?_ _ | refine blk_drew ?_ | refine blk_alloc ?_ _)); refine blk_put (cs := #[.int .i64 t145, .bool false, .bool false, .int .u64 0, .int .i64 0]) ?_ 2 _ rfl; (with_reducible repeat (first | refine blk_drewN ?_ _ | refine blk_drew ?_ | refine blk_alloc ?_ _)); refine blk_put (cs := #[.int .i64 t145, .bool false, .bool false, .int .u64 0, .int .i64 0]) ?_ 1 _ rfl; (with_reducible repeat (first | refine blk_drewN ?_ _ | refine blk_drew ?_ | refine blk_alloc ?_ _)); refine blk_put (cs := #[.int .i64 0, .bool false, .bool false, .int .u64 0, .int .i64 0]) ?_ 0 _ rfl; (with_reducible repeat (first | refine blk_drewN ?_ _ | refine blk_drew ?_ | refine blk_alloc ?_ _)); exact BK148.out) k_ hk)); (case aO => exact (by (with_reducible repeat (first | apply Kd.R_alloc | apply Kd.R_drewN | apply Kd.R_drew)); exact Kd.R_mono (Kd.R_far (p := ⟨gb148, 4, none⟩) (Kd.R_far (p := ⟨gb148, 3, none⟩) (Kd.R_far (p := ⟨gb148, 2, none⟩) (Kd.R_far (p := ⟨gb148, 1, none⟩) (Kd.R_far (p := ⟨gb148, 0, none⟩) (Kd.R_mono HO_3.out (fun k_ hk => (⟨hk, hk.2⟩ : _ ∧ k_ ≠ gb148))) (fun _ hk => hk.2) (.int .i64 t145)) (fun _ hk => hk.2) (.bool false)) (fun _ hk => hk.2) (.bool false)) (fun _ hk => hk.2) (.int .u64 0)) (fun _ hk => hk.2) (.int .i64 0)) (fun _ hk => hk.1.2))); (case aS => exact (below_size (by repeat (first | (with_reducible first | exact HB.out | apply below_alloc | apply pw_below_drewN | apply below_drew1 | refine below_set ?_ GE148.out) | exact HB.out)))); (case aL => have := LMc22.out; omega); intro v155 w27 ho hb hg hat; rw [← Ny154.out] at ho; have n0_ := Aside0.mk (Kd.R_over' (by (with_reducible repeat (first | apply Kd.R_alloc | apply Kd.R_drewN | apply Kd.R_drew)); exact (Kd.R_mono (Kd.R_far (p := ⟨gb148, 4, none⟩) (Kd.R_far (p := ⟨gb148, 3, none⟩) (Kd.R_far (p := ⟨gb148, 2, none⟩) (Kd.R_far (p := ⟨gb148, 1, none⟩) (Kd.R_far (p := ⟨gb148, 0, none⟩) (Kd.R_types HO_4.out BK148.out (by decide)) (fun _ hk => hk.2) (.int .i64 t145)) (fun _ hk => hk.2) (.bool false)) (fun _ hk => hk.2) (.bool false)) (fun _ hk => hk.2) (.int .u64 0)) (fun _ hk => hk.2) (.int .i64 0)) (fun _ h_ => h_.1))) (Kd.R_typed (by (with_reducible repeat (first | apply Kd.R_alloc | apply Kd.R_drewN | apply Kd.R_drew)); exact (Kd.R_mono (Kd.R_far (p := ⟨gb148, 4, none⟩) (Kd.R_far (p := ⟨gb148, 3, none⟩) (Kd.R_far (p := ⟨gb148, 2, none⟩) (Kd.R_far (p := ⟨gb148, 1, none⟩) (Kd.R_far (p := ⟨gb148, 0, none⟩) (Kd.R_mono HO_3.out (fun k_ hk => (⟨hk, hk.2⟩ : _ ∧ k_ ≠ gb148))) (fun _ hk => hk.2) (.int .i64 t145)) (fun _ hk => hk.2) (.bool false)) (fun _ hk => hk.2) (.bool false)) (fun _ hk => hk.2) (.int .u64 0)) (fun _ hk => hk.2) (.int .i64 0)) (fun _ h_ => h_.1)))) (by decide) hg); have n1_ := Aside0.mk (blk_grown (g := gb148) (o := .cells #[.int .i64 t145, .bool false, .bool false, .int .u64 0, .int .i64 0] 47 (0, 0)) (by (with_reducible repeat (first | refine blk_drewN ?_ _ | refine blk_drew ?_ | refine blk_alloc ?_ _)); refine blk_put (cs := #[.int .i64 t145, .bool false, .bool false, .int .u64 0, .int .i64 0]) ?_ 4 _ rfl; (with_reducible repeat (first | refine blk_drewN ?_ _ | refine blk_drew ?_ | refine blk_alloc ?_ _)); refine blk_put (cs := #[.int .i64 t145, .bool false, .bool false, .int .u64 0, .int .i64 0]) ?_ 3 _ rfl; (with_reducible repeat (first | refine blk_drewN ?_ _ | refine blk_drew ?_ | refine blk_alloc ?_ _)); refine blk_put (cs := #[.int .i64 t145, .bool false, .bool false, .int .u64 0, .int .i64 0]) ?_ 2 _ rfl; (with_reducible repeat (first | refine blk_drewN ?_ _ | refine blk_drew ?_ | refine blk_alloc ?_ _)); refine blk_put (cs := #[.int .i64 t145, .bool false, .bool false, .int .u64 0, .int .i64 0]) ?_ 1 _ rfl; (with_reducible repeat (first | refine blk_drewN ?_ _ | refine blk_drew ?_ | refine blk_alloc ?_ _)); refine blk_put (cs := #[.int .i64 0, .bool false, .bool false, .int .u64 0, .int .i64 0]) ?_ 0 _ rfl; (with_reducible repeat (first | refine blk_drewN ?_ _ | refine blk_drew ?_ | refine blk_alloc ?_ _)); exact BK148.out) hg (Kd.R_away HO_3.out (fun _ hk => hk.2))); have n2_ := Aside0.mk (hb); have n3_ := Aside0.mk (ho); clear HO_4; clear BK148; clear HB; clear HO_3; have HO_4 := n0_; have BK148 := n1_; have HB := n2_; have HO156 := n3_; clear n0_ n1_ n2_ n3_; clear ho hb hg hat; obtain ⟨Ao28, co28, eo28⟩ := Kd.R_slice HO156.out; subst eo28; have p23 : 0 ≤ (t145 : Int) := of_decide_eq_true (by first | (with_reducible assumption) | assumption); have q23 : (t145 : Int) < ((x4_1.length : Int) : Int) := of_decide_eq_true (by first | (with_reducible assumption) | assumption); obtain ⟨go23, co23, eo23, gb23, gl23, cl23, HG23⟩ := Kd.R_form HO_4.out (by omega); (first | cases eo23 | (injection eo23 with ea_ en_ ec_; (first | subst ea_ | (injection ea_ with ea_; subst ea_)); subst ec_; clear en_)); have GB23 := Aside0.mk gb23; have GG23 := Aside0.mk HG23; clear gb23 gl23 HG23; (first | simp only [add_plain] at hx146_0 | skip); obtain ⟨hx23_0, hf23_0⟩ := Kd.R_celln 0 HO_4.out (t145 : Int) p23 q23; replace p23 := eq_true p23; replace q23 := eq_true q23; obtain ⟨hy29_, hz29_⟩ := Kd.R_celln 0 HO_4.out (t145 : Int) (of_decide_eq_true (by first | (with_reducible assumption) | assumption)) (of_decide_eq_true (by first | (with_reducible assumption) | assumption)); have HP29 := Kd.R_putg HO_4.out (t145 : Int) (y154.length : Int)) | ((with_reducible refine gate_store (t := 3) (p := 50) rfl ?_); refine store_event (t := 3) (p := 50) (v := ?vo_w30) (w1 := (w27.setCell ⟨go23, (t145 : Int).toNat, none⟩ (.int .i64 (y154.length : Int)))) ?hg ?ho ?hn ?hr ?_; (case ho => rfl); (case hg => rfl); (case hn => rfl); (case hr => first | (go_simp; done) | (go_simp; rfl)); intro w30 hw; have hg : w27.grownBy w30 (some go23) := (by rw [hw]; exact HP29.2); have hp_ : Kd.R (Kd.int .i64) 3 w30 w.heap.size (fun _ => True) (.slice (some ⟨go23, 0, none⟩) x4_1.length co24) y157 := (by rw [hw, Ny157.out]; exact HP29.1); clear HP29; have n0_ := Aside0.mk (hp_); have n1_ := Aside0.mk (blk_grown (g := gb148) (o := .cells #[.int .i64 t145, .bool false, .bool false, .int .u64 0, .int .i64 0] 47 (0, 0)) (by (with_reducible repeat (first | refine blk_drewN ?_ _ | refine blk_drew ?_ | refine blk_alloc ?_ _)); exact BK148.out) hg (Kd.R_ne HO_4.out BK148.out (by decide))); have n2_ := Aside0.mk (Kd.R_over' (v := (.slice (some ⟨go23, 0, none⟩) x4_1.length co24)) (by (with_reducible repeat (first | apply Kd.R_alloc | apply Kd.R_drewN | apply Kd.R_drew)); exact HO156.out) (Kd.R_typed HO_4.out) (by decide) hg); have n3_ := Aside0.mk ((by rw [hw]; exact below_set (HB.out) GB23.out : Below w.heap.size w w30)); clear HO_4; clear BK148; clear HO156; clear HB; have HO_4 := n0_; have BK148 := n1_; have HO156 := n2_; have HB := n3_; clear n0_ n1_ n2_ n3_; clear hg hw hp_))
                      go_roundg k1
                      case measure => have := HK1.out; omega
                      case rel => exact ⟨(y154), (y157), (wrap64 (x5_1 + 1)), (by first | rfl | (simp; done) | (simp [*]; done)), H', ⟨by have := HK1.out; omega⟩, ⟨by (with_reducible repeat (first | apply Kd.R_alloc | apply Kd.R_drewN | apply Kd.R_drew)); exact Kd.R_mono HO156.out (fun _ hk => trivial)⟩, ⟨by (with_reducible repeat (first | apply Kd.R_alloc | apply Kd.R_drewN | apply Kd.R_drew)); exact HO_4.out⟩, ⟨by repeat (first | (with_reducible first | exact HB.out | apply below_alloc | apply pw_below_drewN | apply below_drew1 | refine below_set ?_ GE148.out) | exact HB.out)⟩⟩
                    · rw [if_neg c22] at H
                      exact absurd H (by simp)
                · rw [if_neg c10] at H
                  have c10b0 : ((rd x4_1 t145) == 0) = false := beq_eq_false_iff_ne.mpr c10
                  have c10b1 : ((rd x4_1 t145) != 0) = true := bne_iff_ne.mpr c10
                  obtain ⟨ji31, hji31⟩ : ∃ j_ : Int, (wrap64 ((rd x4_1 t145) - 1)) = j_ := ⟨_, rfl⟩
                  replace H : (if 0 ≤ (ji31) then (if (ji31) < (x3_1.length : Int) then ((some (([1, 1, 2, 6] : List Int) : List Int)).bind fun y160 => ((hatstandlaw14_pick.f ((rd_T61 l0 x5_1).f1) 4).bind fun t164 => (if 0 ≤ t164 then (if t164 < (y160.length : Int) then (if ((rd_T47 x3_1 (ji31)).f2 = true) then (hatstandlaw14_events.j1 k1 l0 x3_1 x4_1 x5_1 t145 false t145 true ((rd_T47 x3_1 (ji31)).f2) 0 (rd y160 t164)) else (hatstandlaw14_events.j1 k1 l0 x3_1 x4_1 x5_1 t145 ((rd y160 t164) == 1) t145 true ((rd_T47 x3_1 (ji31)).f2) 0 (rd y160 t164))) else (none)) else (none)))) else (none)) else (none)) = some r := by first | (rw [hji31] at H; exact H) | (simp only [hji31] at H ⊢; exact H)
                  (try rw [hji31] at A7)
                  have hji31w : (IntKind.i64.wrap ((rd x4_1 t145) - 1)) = ji31 := (i64_w _).trans hji31
                  by_cases c32 : 0 ≤ (ji31)
                  · rw [if_pos c32] at H
                    have c32b0 : decide (0 ≤ (ji31)) = true := decide_eq_true c32
                    clear c32
                    by_cases c33 : (ji31) < (x3_1.length : Int)
                    · rw [if_pos c33] at H
                      have c33b0 : decide ((ji31) < (x3_1.length : Int)) = true := decide_eq_true c33
                      clear c33
                      obtain ⟨y160, hy160⟩ : ∃ y_ : List Int, y_ = (([1, 1, 2, 6] : List Int)) := ⟨_, rfl⟩
                      replace H : ((hatstandlaw14_pick.f ((rd_T61 l0 x5_1).f1) 4).bind fun t164 => (if 0 ≤ t164 then (if t164 < (y160.length : Int) then (if ((rd_T47 x3_1 (ji31)).f2 = true) then (hatstandlaw14_events.j1 k1 l0 x3_1 x4_1 x5_1 t145 false t145 true ((rd_T47 x3_1 (ji31)).f2) 0 (rd y160 t164)) else (hatstandlaw14_events.j1 k1 l0 x3_1 x4_1 x5_1 t145 ((rd y160 t164) == 1) t145 true ((rd_T47 x3_1 (ji31)).f2) 0 (rd y160 t164))) else (none)) else (none))) = some r := by first | (rw [hy160]; with_reducible exact H) | (have H2_ := (Option.bind_some _ _).symm.trans H; rw [hy160]; with_reducible exact H2_) | (have H2_ := (Option.bind_some _ _).symm.trans H; with_reducible exact H2_) | with_reducible exact H | (rw [hy160]; exact H) | exact H
                      have Ny160 := Aside0.mk hy160
                      clear hy160
                      replace H := Option.bind_eq_some_iff.mp H
                      obtain ⟨t164, A340, H⟩ := H
                      replace H : (if 0 ≤ t164 then (if t164 < (y160.length : Int) then (if ((rd_T47 x3_1 (ji31)).f2 = true) then (hatstandlaw14_events.j1 k1 l0 x3_1 x4_1 x5_1 t145 false t145 true ((rd_T47 x3_1 (ji31)).f2) 0 (rd y160 t164)) else (hatstandlaw14_events.j1 k1 l0 x3_1 x4_1 x5_1 t145 ((rd y160 t164) == 1) t145 true ((rd_T47 x3_1 (ji31)).f2) 0 (rd y160 t164))) else (none)) else (none)) = some r := H
                      have A34 := Aside0.mk A340
                      clear A340
                      by_cases c35 : 0 ≤ t164
                      · rw [if_pos c35] at H
                        have c35b0 : decide (0 ≤ t164) = true := decide_eq_true c35
                        clear c35
                        by_cases c36 : t164 < (y160.length : Int)
                        · rw [if_pos c36] at H
                          have c36b0 : decide (t164 < (y160.length : Int)) = true := decide_eq_true c36
                          clear c36
                          have HC37 := Aside0.mk H
                          clear H
                          have p144 : 0 ≤ (x5_1 : Int) := of_decide_eq_true (by first | (with_reducible assumption) | assumption)
                          have q144 : x5_1 < (l0.length : Int) := of_decide_eq_true (by first | (with_reducible assumption) | assumption)
                          obtain ⟨ad144, e144, hx144_0, hx144_1, hx144_2, hx144_3⟩ := at_T61 HR0.out x5_1 p144 q144
                          cases e144
                          replace hx144_0 := (HB.out.cell (World.block_lt_of_cell? w _ hx144_0)).trans hx144_0
                          replace hx144_1 := (HB.out.cell (World.block_lt_of_cell? w _ hx144_1)).trans hx144_1
                          replace hx144_2 := (HB.out.cell (World.block_lt_of_cell? w _ hx144_2)).trans hx144_2
                          replace hx144_3 := (HB.out.cell (World.block_lt_of_cell? w _ hx144_3)).trans hx144_3
                          replace p144 := eq_true p144
                          replace q144 := eq_true q144
                          try go_wp2_with (first | ((with_reducible refine gate_callee (f := 18) rfl ?_); refine goesL_ (some 21) rfl rfl Try.func18 (by kernel_rfl) rfl #[.int .i64 ((rd_T61 l0 x5_1).f0), .int .i64 8] rfl (by (try simp only [List.map_toArray, List.map_cons, List.map_nil]); first | done | rfl | (simp only [List.length_drop, List.length_take]; rfl)) ?_; (with_reducible refine (hatstandlaw14_pick.calls ((rd_T61 l0 x5_1).f0) 8 t145 _ A7.out).mono ?_); rintro e w' ⟨rfl, ⟨nd, rfl⟩⟩; refine ⟨_, rfl, ?_⟩; (try (rw [drewN_self wr]; generalize hq_ : World.drewN wr _ = wr; have n0_ : Aside0 (Kd.R k47 47 wr w.heap.size (fun _ => True) u3 x3_1) := ⟨by rw [← hq_]; exact (by (with_reducible repeat (first | apply Kd.R_alloc | apply Kd.R_drewN | apply Kd.R_drew)); exact HO_3.out)⟩; have n1_ : Aside0 (Kd.R (Kd.int .i64) 3 wr w.heap.size (fun _ => True) v142 x4_1) := ⟨by rw [← hq_]; exact (by (with_reducible repeat (first | apply Kd.R_alloc | apply Kd.R_drewN | apply Kd.R_drew)); exact HO_4.out)⟩; have n2_ : Aside0 (Below w.heap.size w wr) := ⟨by rw [← hq_]; exact (by repeat (first | (with_reducible first | exact HB.out | apply below_alloc | apply pw_below_drewN | apply below_drew1) | exact HB.out))⟩; clear HO_3 HO_4 HB hq_; have HO_3 := n0_; have HO_4 := n1_; have HB := n2_; clear n0_ n1_ n2_)); obtain ⟨Ao38, co38, eo38⟩ := Kd.R_slice HO_4.out; subst eo38; have p146 : 0 ≤ (t145 : Int) := of_decide_eq_true (by first | (with_reducible assumption) | assumption); have q146 : t145 < (x4_1.length : Int) := of_decide_eq_true (by first | (with_reducible assumption) | assumption); obtain ⟨ad146, e146, hx146_0⟩ := Kd.at_int (Kd.R_reads' HO_4.out).2.2 t145 p146 q146; cases e146; replace p146 := eq_true p146; replace q146 := eq_true q146))
                          have pi165 : (0 ≤ (t164 : Int)) = True := eq_true (of_decide_eq_true (by first | (with_reducible assumption) | assumption))
                          have qi165 : (t164 < (y160.length : Int)) = True := eq_true (of_decide_eq_true (by first | (with_reducible assumption) | assumption))
                          have n0_ := Aside0.mk (Kd.R_drew HO_3.out)
                          have n1_ := Aside0.mk (Kd.R_drew HO_4.out)
                          have n2_ := Aside0.mk (below_drew1 HB.out)
                          clear HO_3
                          clear HO_4
                          clear HB
                          have HO_3 := n0_
                          have HO_4 := n1_
                          have HB := n2_
                          clear n0_ n1_ n2_
                          have p158 : 0 ≤ (t145 : Int) := of_decide_eq_true (by first | (with_reducible assumption) | assumption)
                          have q158 : t145 < (x4_1.length : Int) := of_decide_eq_true (by first | (with_reducible assumption) | assumption)
                          obtain ⟨ad158, e158, hx158_0⟩ := Kd.at_int (Kd.R_reads' HO_4.out).2.2 t145 p158 q158
                          obtain rfl : ad146 = ad158 := (by injection e158)
                          replace p158 := eq_true p158
                          replace q158 := eq_true q158
                          obtain ⟨Ao40, co40, eo40⟩ := Kd.R_slice HO_3.out
                          (first | subst eo40 | (injection eo40 with f1_ f2_ f3_; have f4_ := f1_.symm; have f5_ := f3_.symm; clear f1_ f2_ f3_; subst f4_; subst f5_))
                          have p159 : 0 ≤ ((ji31) : Int) := of_decide_eq_true (by first | (with_reducible assumption) | assumption)
                          have q159 : (ji31) < (x3_1.length : Int) := of_decide_eq_true (by first | (with_reducible assumption) | assumption)
                          obtain ⟨ad159, e159, hx159_0, hx159_1, hx159_2, hx159_3, hx159_4⟩ := at_T47 (Kd.R_reads' HO_3.out).2.2 (ji31) p159 q159
                          cases e159
                          replace p159 := eq_true p159
                          replace q159 := eq_true q159
                          have p163 : 0 ≤ (x5_1 : Int) := of_decide_eq_true (by first | (with_reducible assumption) | assumption)
                          have q163 : x5_1 < (l0.length : Int) := of_decide_eq_true (by first | (with_reducible assumption) | assumption)
                          obtain ⟨ad163, e163, hx163_0, hx163_1, hx163_2, hx163_3⟩ := at_T61 HR0.out x5_1 p163 q163
                          have hw163_3 := hx163_3
                          have hw163_2 := hx163_2
                          have hw163_1 := hx163_1
                          have hw163_0 := hx163_0
                          obtain rfl : ad144 = ad163 := (by injection e163)
                          replace hx163_0 := (HB.out.cell (World.block_lt_of_cell? w _ hx163_0)).trans hx163_0
                          replace hx163_1 := (HB.out.cell (World.block_lt_of_cell? w _ hx163_1)).trans hx163_1
                          replace hx163_2 := (HB.out.cell (World.block_lt_of_cell? w _ hx163_2)).trans hx163_2
                          replace hx163_3 := (HB.out.cell (World.block_lt_of_cell? w _ hx163_3)).trans hx163_3
                          replace p163 := eq_true p163
                          replace q163 := eq_true q163
                          refine start_ (n := 22) (S := fun w' => w'.cell? (ad146.add (t145).toNat) = some (.int .i64 (rd x4_1 t145)) ∧ w'.cell? (ad159.add (((ji31)).toNat * 5)) = some (.int .i64 ((rd_T47 x3_1 (ji31)).f0)) ∧ w'.cell? ⟨(ad159.add (((ji31)).toNat * 5)).block, (ad159.add (((ji31)).toNat * 5)).off + 1, none⟩ = some (.bool ((rd_T47 x3_1 (ji31)).f1)) ∧ w'.cell? ⟨(ad159.add (((ji31)).toNat * 5)).block, (ad159.add (((ji31)).toNat * 5)).off + 2, none⟩ = some (.bool ((rd_T47 x3_1 (ji31)).f2)) ∧ w'.cell? ⟨(ad159.add (((ji31)).toNat * 5)).block, (ad159.add (((ji31)).toNat * 5)).off + 3, none⟩ = some (.int .u64 ((rd_T47 x3_1 (ji31)).f3)) ∧ w'.cell? ⟨(ad159.add (((ji31)).toNat * 5)).block, (ad159.add (((ji31)).toNat * 5)).off + 4, none⟩ = some (.int .i64 ((rd_T47 x3_1 (ji31)).f4)) ∧ w'.cell? (ad144.add ((x5_1).toNat * 4)) = some (.int .i64 ((rd_T61 l0 x5_1).f0)) ∧ w'.cell? ⟨(ad144.add ((x5_1).toNat * 4)).block, (ad144.add ((x5_1).toNat * 4)).off + 1, none⟩ = some (.int .i64 ((rd_T61 l0 x5_1).f1)) ∧ w'.cell? ⟨(ad144.add ((x5_1).toNat * 4)).block, (ad144.add ((x5_1).toNat * 4)).off + 2, none⟩ = some (.bool ((rd_T61 l0 x5_1).f2)) ∧ w'.cell? ⟨(ad144.add ((x5_1).toNat * 4)).block, (ad144.add ((x5_1).toNat * 4)).off + 3, none⟩ = some (.int .u64 ((rd_T61 l0 x5_1).f3))) (ds := []) #[false, false, false, false, false, false, false, false, false, false, false, false, false, false, false, false, false, false, false, false, false, false] (by kernel_rfl) rfl rfl ⟨hx158_0, hx159_0, hx159_1, hx159_2, hx159_3, hx159_4, ((HB.out.cell (World.block_lt_of_cell? w _ hw163_0)).trans hw163_0), ((HB.out.cell (World.block_lt_of_cell? w _ hw163_1)).trans hw163_1), ((HB.out.cell (World.block_lt_of_cell? w _ hw163_2)).trans hw163_2), ((HB.out.cell (World.block_lt_of_cell? w _ hw163_3)).trans hw163_3)⟩ (fun hHeld => ?_); refine with_tabW hatstandlaw14_events.tab13 hatstandlaw14_events.bits13 (fun HT_ HW_ => ?_)
                          generalize wr.drew = w39 at HO_3 HO_4 HB hx158_0 hx159_0 hx159_1 hx159_2 hx159_3 hx159_4 hx163_0 hx163_1 hx163_2 hx163_3 hHeld ⊢
                          refine pure_ (i := 0) (N := some 51) (v := ?_) (a' := ?_) #[true, false, false, false, false, false, false, false, false, false, false, false, false, false, false, false, false, false, false, false, false, false] rfl rfl (any_of HT_.out (by kernel_rfl)) (fun _ _ _ h => h) (Or.inl ⟨by rfl, ?_⟩) ?_ ?_
                          rotate_left
                          · intro w'
                            go_simp
                            with_reducible rfl
                          rotate_left
                          · simp only [Act.put, List.setIfInBounds_toArray, List.set_cons_zero, List.set_cons_succ, i64_w, i32_w, Go.IntKind.wrap_u32]
                            rfl
                          refine pure_ (i := 1) (N := some 52) (v := ?_) (a' := ?_) #[true, true, false, false, false, false, false, false, false, false, false, false, false, false, false, false, false, false, false, false, false, false] rfl rfl (any_of HT_.out (by kernel_rfl)) (fun _ _ _ h => h) (Or.inl ⟨by rfl, ?_⟩) ?_ ?_
                          rotate_left
                          · intro w'
                            go_simp
                            with_reducible rfl
                          rotate_left
                          · simp only [Act.put, List.setIfInBounds_toArray, List.set_cons_zero, List.set_cons_succ, i64_w, i32_w, Go.IntKind.wrap_u32]
                            rfl
                          refine pure_ (i := 2) (N := some 53) (v := ?_) (a' := ?_) #[true, true, true, false, false, false, false, false, false, false, false, false, false, false, false, false, false, false, false, false, false, false] rfl rfl (any_of HT_.out (by kernel_rfl)) (fun _ _ _ h => h) (Or.inl ⟨by rfl, ?_⟩) ?_ ?_
                          rotate_left
                          · intro w'
                            go_simp
                            with_reducible rfl
                          rotate_left
                          · simp only [Act.put, List.setIfInBounds_toArray, List.set_cons_zero, List.set_cons_succ, i64_w, i32_w, Go.IntKind.wrap_u32]
                            rfl
                          refine pure_ (i := 3) (N := some 54) (v := ?_) (a' := ?_) #[true, true, true, true, false, false, false, false, false, false, false, false, false, false, false, false, false, false, false, false, false, false] rfl rfl (any_of HT_.out (by kernel_rfl)) (fun _ _ _ h => h) (Or.inl ⟨by rfl, ?_⟩) ?_ ?_
                          rotate_left
                          · intro w'
                            go_simp
                            with_reducible rfl
                          rotate_left
                          · simp only [Act.put, List.setIfInBounds_toArray, List.set_cons_zero, List.set_cons_succ, i64_w, i32_w, Go.IntKind.wrap_u32]
                            rfl
                          refine pure_ (i := 4) (N := some 55) (v := ?_) (a' := ?_) #[true, true, true, true, true, false, false, false, false, false, false, false, false, false, false, false, false, false, false, false, false, false] rfl rfl (any_of HT_.out (by kernel_rfl)) (fun _ _ _ h => h) (Or.inl ⟨by rfl, ?_⟩) ?_ ?_
                          rotate_left
                          · intro w'
                            go_simp
                            with_reducible rfl
                          rotate_left
                          · simp only [Act.put, List.setIfInBounds_toArray, List.set_cons_zero, List.set_cons_succ, i64_w, i32_w, Go.IntKind.wrap_u32]
                            rfl
                          refine pure_ (i := 11) (N := some 62) (v := ?_) (a' := ?_) #[true, true, true, true, true, false, false, false, false, false, false, true, false, false, false, false, false, false, false, false, false, false] rfl rfl (any_of HT_.out (by kernel_rfl)) (fun _ _ _ h => h) (Or.inl ⟨by rfl, ?_⟩) ?_ ?_
                          rotate_left
                          · intro w'
                            go_simp
                            with_reducible rfl
                          rotate_left
                          · simp only [Act.put, List.setIfInBounds_toArray, List.set_cons_zero, List.set_cons_succ, i64_w, i32_w, Go.IntKind.wrap_u32]
                            rfl
                          refine pure_ (i := 12) (N := some 63) (v := ?_) (a' := ?_) #[true, true, true, true, true, false, false, false, false, false, false, true, true, false, false, false, false, false, false, false, false, false] rfl rfl (any_of HT_.out (by kernel_rfl)) (fun _ _ _ h => h) (Or.inl ⟨by rfl, ?_⟩) ?_ ?_
                          rotate_left
                          · intro w'
                            go_simp
                            with_reducible rfl
                          rotate_left
                          · simp only [Act.put, List.setIfInBounds_toArray, List.set_cons_zero, List.set_cons_succ, i64_w, i32_w, Go.IntKind.wrap_u32]
                            rfl
                          refine pure_ (i := 13) (N := some 64) (v := ?_) (a' := ?_) #[true, true, true, true, true, false, false, false, false, false, false, true, true, true, false, false, false, false, false, false, false, false] rfl rfl (any_of HT_.out (by kernel_rfl)) (fun _ _ _ h => h) (Or.inl ⟨by rfl, ?_⟩) ?_ ?_
                          rotate_left
                          · intro w'
                            go_simp
                            with_reducible rfl
                          rotate_left
                          · simp only [Act.put, List.setIfInBounds_toArray, List.set_cons_zero, List.set_cons_succ, i64_w, i32_w, Go.IntKind.wrap_u32]
                            rfl
                          refine pure_ (i := 14) (N := some 65) (v := ?_) (a' := ?_) #[true, true, true, true, true, false, false, false, false, false, false, true, true, true, true, false, false, false, false, false, false, false] rfl rfl (any_of HT_.out (by kernel_rfl)) (fun _ _ _ h => h) (Or.inl ⟨by rfl, ?_⟩) ?_ ?_
                          rotate_left
                          · intro w'
                            go_simp
                            with_reducible rfl
                          rotate_left
                          · simp only [Act.put, List.setIfInBounds_toArray, List.set_cons_zero, List.set_cons_succ, i64_w, i32_w, Go.IntKind.wrap_u32]
                            rfl
                          refine take_ (i := 5) (N := some 56) (v := ?_) (a' := ?_) #[true, true, true, true, true, true, false, false, false, false, false, true, true, true, true, false, false, false, false, false, false, false] rfl rfl (take_ofW HT_.out HW_.out (by kernel_rfl)) (fun _ _ _ h => h) (Or.inl ⟨by rfl, ?_⟩) hHeld ?_ ?_
                          rotate_left
                          · rintro w' ⟨s0, s1, s2, s3, s4, s5, s6, s7, s8, s9⟩
                            go_simp
                            with_reducible rfl
                          rotate_left
                          · simp only [Act.put, List.setIfInBounds_toArray, List.set_cons_zero, List.set_cons_succ, i64_w, i32_w, Go.IntKind.wrap_u32]
                            rfl
                          refine pure_ (i := 6) (N := some 57) (v := ?_) (a' := ?_) #[true, true, true, true, true, true, true, false, false, false, false, true, true, true, true, false, false, false, false, false, false, false] rfl rfl (any_of HT_.out (by kernel_rfl)) (fun _ _ _ h => h) (Or.inl ⟨by rfl, ?_⟩) ?_ ?_
                          rotate_left
                          · intro w'
                            go_simp
                            with_reducible rfl
                          rotate_left
                          · simp only [Act.put, List.setIfInBounds_toArray, List.set_cons_zero, List.set_cons_succ, i64_w, i32_w, Go.IntKind.wrap_u32]
                            rfl
                          refine pure_ (i := 7) (N := some 58) (v := ?_) (a' := ?_) #[true, true, true, true, true, true, true, true, false, false, false, true, true, true, true, false, false, false, false, false, false, false] rfl rfl (any_of HT_.out (by kernel_rfl)) (fun _ _ _ h => h) (Or.inl ⟨by rfl, ?_⟩) ?_ ?_
                          rotate_left
                          · intro w'
                            go_simp
                            with_reducible rfl
                          rotate_left
                          · simp only [Act.put, List.setIfInBounds_toArray, List.set_cons_zero, List.set_cons_succ, i64_w, i32_w, Go.IntKind.wrap_u32]
                            rfl
                          refine pure_ (i := 8) (N := some 59) (v := ?_) (a' := ?_) #[true, true, true, true, true, true, true, true, true, false, false, true, true, true, true, false, false, false, false, false, false, false] rfl rfl (any_of HT_.out (by kernel_rfl)) (fun _ _ _ h => h) (Or.inl ⟨by rfl, ?_⟩) ?_ ?_
                          rotate_left
                          · intro w'
                            go_simp
                            with_reducible rfl
                          rotate_left
                          · simp only [Act.put, List.setIfInBounds_toArray, List.set_cons_zero, List.set_cons_succ, i64_w, i32_w, Go.IntKind.wrap_u32]
                            rfl
                          refine take_ (i := 9) (N := some 60) (v := ?_) (a' := ?_) #[true, true, true, true, true, true, true, true, true, true, false, true, true, true, true, false, false, false, false, false, false, false] rfl rfl (take_ofW HT_.out HW_.out (by kernel_rfl)) (fun _ _ _ h => h) (Or.inl ⟨by rfl, ?_⟩) hHeld ?_ ?_
                          rotate_left
                          · rintro w' ⟨s0, s1, s2, s3, s4, s5, s6, s7, s8, s9⟩
                            go_simp
                            with_reducible rfl
                          rotate_left
                          · simp only [Act.put, List.setIfInBounds_toArray, List.set_cons_zero, List.set_cons_succ, i64_w, i32_w, Go.IntKind.wrap_u32]
                            rfl
                          refine take_ (i := 15) (N := some 66) (v := ?_) (a' := ?_) #[true, true, true, true, true, true, true, true, true, true, false, true, true, true, true, true, false, false, false, false, false, false] rfl rfl (take_ofW HT_.out HW_.out (by kernel_rfl)) (fun _ _ _ h => h) (Or.inl ⟨by rfl, ?_⟩) hHeld ?_ ?_
                          rotate_left
                          · rintro w' ⟨s0, s1, s2, s3, s4, s5, s6, s7, s8, s9⟩
                            go_simp
                            with_reducible rfl
                          rotate_left
                          · simp only [Act.put, List.setIfInBounds_toArray, List.set_cons_zero, List.set_cons_succ, i64_w, i32_w, Go.IntKind.wrap_u32]
                            rfl
                          refine join_ (σ := Value × Addr × Nat) 1 #[true, true, true, true, true, true, true, true, true, true, true, true, true, true, true, true, true, true, true, true, true, false] (fun s_ => [(61, s_.1), (67, .int .i64 t164), (69, .int .i64 (rd y160 t164)), (8, .pointer (some ⟨s_.2.2, 0, none⟩)), (68, .pointer (some (s_.2.1.add (t164).toNat))), (70, .agg #[.int .i64 t145, .bool true, .bool ((rd_T47 x3_1 (ji31)).f2), .int .u64 0, .int .i64 (rd y160 t164)])]) (fun s_ w' => (w'.cell? (ad146.add (t145).toNat) = some (.int .i64 (rd x4_1 t145)) ∧ w'.cell? (ad159.add (((ji31)).toNat * 5)) = some (.int .i64 ((rd_T47 x3_1 (ji31)).f0)) ∧ w'.cell? ⟨(ad159.add (((ji31)).toNat * 5)).block, (ad159.add (((ji31)).toNat * 5)).off + 1, none⟩ = some (.bool ((rd_T47 x3_1 (ji31)).f1)) ∧ w'.cell? ⟨(ad159.add (((ji31)).toNat * 5)).block, (ad159.add (((ji31)).toNat * 5)).off + 2, none⟩ = some (.bool ((rd_T47 x3_1 (ji31)).f2)) ∧ w'.cell? ⟨(ad159.add (((ji31)).toNat * 5)).block, (ad159.add (((ji31)).toNat * 5)).off + 3, none⟩ = some (.int .u64 ((rd_T47 x3_1 (ji31)).f3)) ∧ w'.cell? ⟨(ad159.add (((ji31)).toNat * 5)).block, (ad159.add (((ji31)).toNat * 5)).off + 4, none⟩ = some (.int .i64 ((rd_T47 x3_1 (ji31)).f4)) ∧ w'.cell? (ad144.add ((x5_1).toNat * 4)) = some (.int .i64 ((rd_T61 l0 x5_1).f0)) ∧ w'.cell? ⟨(ad144.add ((x5_1).toNat * 4)).block, (ad144.add ((x5_1).toNat * 4)).off + 1, none⟩ = some (.int .i64 ((rd_T61 l0 x5_1).f1)) ∧ w'.cell? ⟨(ad144.add ((x5_1).toNat * 4)).block, (ad144.add ((x5_1).toNat * 4)).off + 2, none⟩ = some (.bool ((rd_T61 l0 x5_1).f2)) ∧ w'.cell? ⟨(ad144.add ((x5_1).toNat * 4)).block, (ad144.add ((x5_1).toNat * 4)).off + 3, none⟩ = some (.int .u64 ((rd_T61 l0 x5_1).f3))) ∧ (Kd.R (Kd.int .i64) 43 w' w.heap.size (fun _ => True) s_.1 y160) ∧ (Kd.R k47 47 w' w.heap.size (fun k_ => k_ ≠ s_.2.2) (.slice (some ad159) x3_1.length co40) x3_1) ∧ (Kd.R (Kd.int .i64) 3 w' w.heap.size (fun _ => True) (.slice (some ad146) x4_1.length co38) x4_1) ∧ (∃ c_, (s_.1 : Value) = .slice (some s_.2.1) y160.length c_) ∧ (w'.heap[s_.2.2]? = some (.cells #[.int .i64 0, .bool false, .bool false, .int .u64 0, .int .i64 0] 47 (0, 0))) ∧ (w.heap.size ≤ s_.2.2) ∧ (w.heap.size ≤ s_.2.2) ∧ (Below w.heap.size w w')) ?_ ?_
                          rotate_left
                          · intro hJ10_16_18_20
                            refine join_ (σ := Value × Addr) 2 #[true, true, true, true, true, true, true, true, true, true, true, true, true, true, true, true, true, true, true, true, false, false] (fun s_ => [(61, s_.1), (67, .int .i64 t164), (69, .int .i64 (rd y160 t164)), (68, .pointer (some (s_.2.add (t164).toNat))), (70, .agg #[.int .i64 t145, .bool true, .bool ((rd_T47 x3_1 (ji31)).f2), .int .u64 0, .int .i64 (rd y160 t164)])]) (fun s_ w' => (w'.cell? (ad146.add (t145).toNat) = some (.int .i64 (rd x4_1 t145)) ∧ w'.cell? (ad159.add (((ji31)).toNat * 5)) = some (.int .i64 ((rd_T47 x3_1 (ji31)).f0)) ∧ w'.cell? ⟨(ad159.add (((ji31)).toNat * 5)).block, (ad159.add (((ji31)).toNat * 5)).off + 1, none⟩ = some (.bool ((rd_T47 x3_1 (ji31)).f1)) ∧ w'.cell? ⟨(ad159.add (((ji31)).toNat * 5)).block, (ad159.add (((ji31)).toNat * 5)).off + 2, none⟩ = some (.bool ((rd_T47 x3_1 (ji31)).f2)) ∧ w'.cell? ⟨(ad159.add (((ji31)).toNat * 5)).block, (ad159.add (((ji31)).toNat * 5)).off + 3, none⟩ = some (.int .u64 ((rd_T47 x3_1 (ji31)).f3)) ∧ w'.cell? ⟨(ad159.add (((ji31)).toNat * 5)).block, (ad159.add (((ji31)).toNat * 5)).off + 4, none⟩ = some (.int .i64 ((rd_T47 x3_1 (ji31)).f4)) ∧ w'.cell? (ad144.add ((x5_1).toNat * 4)) = some (.int .i64 ((rd_T61 l0 x5_1).f0)) ∧ w'.cell? ⟨(ad144.add ((x5_1).toNat * 4)).block, (ad144.add ((x5_1).toNat * 4)).off + 1, none⟩ = some (.int .i64 ((rd_T61 l0 x5_1).f1)) ∧ w'.cell? ⟨(ad144.add ((x5_1).toNat * 4)).block, (ad144.add ((x5_1).toNat * 4)).off + 2, none⟩ = some (.bool ((rd_T61 l0 x5_1).f2)) ∧ w'.cell? ⟨(ad144.add ((x5_1).toNat * 4)).block, (ad144.add ((x5_1).toNat * 4)).off + 3, none⟩ = some (.int .u64 ((rd_T61 l0 x5_1).f3))) ∧ (Kd.R (Kd.int .i64) 43 w' w.heap.size (fun _ => True) s_.1 y160) ∧ (Kd.R k47 47 w' w.heap.size (fun _ => True) (.slice (some ad159) x3_1.length co40) x3_1) ∧ (Kd.R (Kd.int .i64) 3 w' w.heap.size (fun _ => True) (.slice (some ad146) x4_1.length co38) x4_1) ∧ (∃ c_, (s_.1 : Value) = .slice (some s_.2) y160.length c_) ∧ (Below w.heap.size w w')) ?_ ?_
                            rotate_left
                            · intro hJ10_16_18
                              refine join_ (σ := Value × Addr × Nat) 3 #[true, true, true, true, true, true, true, true, true, true, true, true, true, true, true, true, true, true, false, false, true, false] (fun s_ => [(61, s_.1), (67, .int .i64 t164), (8, .pointer (some ⟨s_.2.2, 0, none⟩)), (68, .pointer (some (s_.2.1.add (t164).toNat)))]) (fun s_ w' => (w'.cell? (ad146.add (t145).toNat) = some (.int .i64 (rd x4_1 t145)) ∧ w'.cell? (ad159.add (((ji31)).toNat * 5)) = some (.int .i64 ((rd_T47 x3_1 (ji31)).f0)) ∧ w'.cell? ⟨(ad159.add (((ji31)).toNat * 5)).block, (ad159.add (((ji31)).toNat * 5)).off + 1, none⟩ = some (.bool ((rd_T47 x3_1 (ji31)).f1)) ∧ w'.cell? ⟨(ad159.add (((ji31)).toNat * 5)).block, (ad159.add (((ji31)).toNat * 5)).off + 2, none⟩ = some (.bool ((rd_T47 x3_1 (ji31)).f2)) ∧ w'.cell? ⟨(ad159.add (((ji31)).toNat * 5)).block, (ad159.add (((ji31)).toNat * 5)).off + 3, none⟩ = some (.int .u64 ((rd_T47 x3_1 (ji31)).f3)) ∧ w'.cell? ⟨(ad159.add (((ji31)).toNat * 5)).block, (ad159.add (((ji31)).toNat * 5)).off + 4, none⟩ = some (.int .i64 ((rd_T47 x3_1 (ji31)).f4)) ∧ w'.cell? (ad144.add ((x5_1).toNat * 4)) = some (.int .i64 ((rd_T61 l0 x5_1).f0)) ∧ w'.cell? ⟨(ad144.add ((x5_1).toNat * 4)).block, (ad144.add ((x5_1).toNat * 4)).off + 1, none⟩ = some (.int .i64 ((rd_T61 l0 x5_1).f1)) ∧ w'.cell? ⟨(ad144.add ((x5_1).toNat * 4)).block, (ad144.add ((x5_1).toNat * 4)).off + 2, none⟩ = some (.bool ((rd_T61 l0 x5_1).f2)) ∧ w'.cell? ⟨(ad144.add ((x5_1).toNat * 4)).block, (ad144.add ((x5_1).toNat * 4)).off + 3, none⟩ = some (.int .u64 ((rd_T61 l0 x5_1).f3))) ∧ (Kd.R (Kd.int .i64) 43 w' w.heap.size (fun _ => True) s_.1 y160) ∧ (Kd.R k47 47 w' w.heap.size (fun k_ => k_ ≠ s_.2.2) (.slice (some ad159) x3_1.length co40) x3_1) ∧ (Kd.R (Kd.int .i64) 3 w' w.heap.size (fun _ => True) (.slice (some ad146) x4_1.length co38) x4_1) ∧ (∃ c_, (s_.1 : Value) = .slice (some s_.2.1) y160.length c_) ∧ (w'.heap[s_.2.2]? = some (.cells #[.int .i64 0, .bool false, .bool false, .int .u64 0, .int .i64 0] 47 (0, 0))) ∧ (w.heap.size ≤ s_.2.2) ∧ (w.heap.size ≤ s_.2.2) ∧ (Below w.heap.size w w')) ?_ ?_
                              rotate_left
                              · intro hJ10_16_20
                                refine join_ (σ := Value × Addr) 4 #[true, true, true, true, true, true, true, true, true, true, true, true, true, true, true, true, true, true, false, false, false, false] (fun s_ => [(61, s_.1), (67, .int .i64 t164), (68, .pointer (some (s_.2.add (t164).toNat)))]) (fun s_ w' => (w'.cell? (ad146.add (t145).toNat) = some (.int .i64 (rd x4_1 t145)) ∧ w'.cell? (ad159.add (((ji31)).toNat * 5)) = some (.int .i64 ((rd_T47 x3_1 (ji31)).f0)) ∧ w'.cell? ⟨(ad159.add (((ji31)).toNat * 5)).block, (ad159.add (((ji31)).toNat * 5)).off + 1, none⟩ = some (.bool ((rd_T47 x3_1 (ji31)).f1)) ∧ w'.cell? ⟨(ad159.add (((ji31)).toNat * 5)).block, (ad159.add (((ji31)).toNat * 5)).off + 2, none⟩ = some (.bool ((rd_T47 x3_1 (ji31)).f2)) ∧ w'.cell? ⟨(ad159.add (((ji31)).toNat * 5)).block, (ad159.add (((ji31)).toNat * 5)).off + 3, none⟩ = some (.int .u64 ((rd_T47 x3_1 (ji31)).f3)) ∧ w'.cell? ⟨(ad159.add (((ji31)).toNat * 5)).block, (ad159.add (((ji31)).toNat * 5)).off + 4, none⟩ = some (.int .i64 ((rd_T47 x3_1 (ji31)).f4)) ∧ w'.cell? (ad144.add ((x5_1).toNat * 4)) = some (.int .i64 ((rd_T61 l0 x5_1).f0)) ∧ w'.cell? ⟨(ad144.add ((x5_1).toNat * 4)).block, (ad144.add ((x5_1).toNat * 4)).off + 1, none⟩ = some (.int .i64 ((rd_T61 l0 x5_1).f1)) ∧ w'.cell? ⟨(ad144.add ((x5_1).toNat * 4)).block, (ad144.add ((x5_1).toNat * 4)).off + 2, none⟩ = some (.bool ((rd_T61 l0 x5_1).f2)) ∧ w'.cell? ⟨(ad144.add ((x5_1).toNat * 4)).block, (ad144.add ((x5_1).toNat * 4)).off + 3, none⟩ = some (.int .u64 ((rd_T61 l0 x5_1).f3))) ∧ (Kd.R (Kd.int .i64) 43 w' w.heap.size (fun _ => True) s_.1 y160) ∧ (Kd.R k47 47 w' w.heap.size (fun _ => True) (.slice (some ad159) x3_1.length co40) x3_1) ∧ (Kd.R (Kd.int .i64) 3 w' w.heap.size (fun _ => True) (.slice (some ad146) x4_1.length co38) x4_1) ∧ (∃ c_, (s_.1 : Value) = .slice (some s_.2) y160.length c_) ∧ (Below w.heap.size w w')) ?_ ?_
                                rotate_left
                                · intro hJ10_16
                                  refine join_ (σ := Value × Addr × Nat) 5 #[true, true, true, true, true, true, true, true, true, true, true, true, true, true, true, true, false, false, false, false, true, false] (fun s_ => [(61, s_.1), (8, .pointer (some ⟨s_.2.2, 0, none⟩))]) (fun s_ w' => (w'.cell? (ad146.add (t145).toNat) = some (.int .i64 (rd x4_1 t145)) ∧ w'.cell? (ad159.add (((ji31)).toNat * 5)) = some (.int .i64 ((rd_T47 x3_1 (ji31)).f0)) ∧ w'.cell? ⟨(ad159.add (((ji31)).toNat * 5)).block, (ad159.add (((ji31)).toNat * 5)).off + 1, none⟩ = some (.bool ((rd_T47 x3_1 (ji31)).f1)) ∧ w'.cell? ⟨(ad159.add (((ji31)).toNat * 5)).block, (ad159.add (((ji31)).toNat * 5)).off + 2, none⟩ = some (.bool ((rd_T47 x3_1 (ji31)).f2)) ∧ w'.cell? ⟨(ad159.add (((ji31)).toNat * 5)).block, (ad159.add (((ji31)).toNat * 5)).off + 3, none⟩ = some (.int .u64 ((rd_T47 x3_1 (ji31)).f3)) ∧ w'.cell? ⟨(ad159.add (((ji31)).toNat * 5)).block, (ad159.add (((ji31)).toNat * 5)).off + 4, none⟩ = some (.int .i64 ((rd_T47 x3_1 (ji31)).f4)) ∧ w'.cell? (ad144.add ((x5_1).toNat * 4)) = some (.int .i64 ((rd_T61 l0 x5_1).f0)) ∧ w'.cell? ⟨(ad144.add ((x5_1).toNat * 4)).block, (ad144.add ((x5_1).toNat * 4)).off + 1, none⟩ = some (.int .i64 ((rd_T61 l0 x5_1).f1)) ∧ w'.cell? ⟨(ad144.add ((x5_1).toNat * 4)).block, (ad144.add ((x5_1).toNat * 4)).off + 2, none⟩ = some (.bool ((rd_T61 l0 x5_1).f2)) ∧ w'.cell? ⟨(ad144.add ((x5_1).toNat * 4)).block, (ad144.add ((x5_1).toNat * 4)).off + 3, none⟩ = some (.int .u64 ((rd_T61 l0 x5_1).f3))) ∧ (Kd.R (Kd.int .i64) 43 w' w.heap.size (fun _ => True) s_.1 y160) ∧ (Kd.R k47 47 w' w.heap.size (fun k_ => k_ ≠ s_.2.2) (.slice (some ad159) x3_1.length co40) x3_1) ∧ (Kd.R (Kd.int .i64) 3 w' w.heap.size (fun _ => True) (.slice (some ad146) x4_1.length co38) x4_1) ∧ (∃ c_, (s_.1 : Value) = .slice (some s_.2.1) y160.length c_) ∧ (w'.heap[s_.2.2]? = some (.cells #[.int .i64 0, .bool false, .bool false, .int .u64 0, .int .i64 0] 47 (0, 0))) ∧ (w.heap.size ≤ s_.2.2) ∧ (w.heap.size ≤ s_.2.2) ∧ (Below w.heap.size w w')) ?_ ?_
                                  rotate_left
                                  · intro hJ10_20
                                    refine join_ (σ := Nat) 5 #[true, true, true, true, true, true, true, true, true, true, false, true, true, true, true, true, true, false, false, false, true, false] (fun s_ => [(67, .int .i64 t164), (8, .pointer (some ⟨s_, 0, none⟩))]) (fun s_ w' => (w'.cell? (ad146.add (t145).toNat) = some (.int .i64 (rd x4_1 t145)) ∧ w'.cell? (ad159.add (((ji31)).toNat * 5)) = some (.int .i64 ((rd_T47 x3_1 (ji31)).f0)) ∧ w'.cell? ⟨(ad159.add (((ji31)).toNat * 5)).block, (ad159.add (((ji31)).toNat * 5)).off + 1, none⟩ = some (.bool ((rd_T47 x3_1 (ji31)).f1)) ∧ w'.cell? ⟨(ad159.add (((ji31)).toNat * 5)).block, (ad159.add (((ji31)).toNat * 5)).off + 2, none⟩ = some (.bool ((rd_T47 x3_1 (ji31)).f2)) ∧ w'.cell? ⟨(ad159.add (((ji31)).toNat * 5)).block, (ad159.add (((ji31)).toNat * 5)).off + 3, none⟩ = some (.int .u64 ((rd_T47 x3_1 (ji31)).f3)) ∧ w'.cell? ⟨(ad159.add (((ji31)).toNat * 5)).block, (ad159.add (((ji31)).toNat * 5)).off + 4, none⟩ = some (.int .i64 ((rd_T47 x3_1 (ji31)).f4)) ∧ w'.cell? (ad144.add ((x5_1).toNat * 4)) = some (.int .i64 ((rd_T61 l0 x5_1).f0)) ∧ w'.cell? ⟨(ad144.add ((x5_1).toNat * 4)).block, (ad144.add ((x5_1).toNat * 4)).off + 1, none⟩ = some (.int .i64 ((rd_T61 l0 x5_1).f1)) ∧ w'.cell? ⟨(ad144.add ((x5_1).toNat * 4)).block, (ad144.add ((x5_1).toNat * 4)).off + 2, none⟩ = some (.bool ((rd_T61 l0 x5_1).f2)) ∧ w'.cell? ⟨(ad144.add ((x5_1).toNat * 4)).block, (ad144.add ((x5_1).toNat * 4)).off + 3, none⟩ = some (.int .u64 ((rd_T61 l0 x5_1).f3))) ∧ (Kd.R k47 47 w' w.heap.size (fun k_ => k_ ≠ s_) (.slice (some ad159) x3_1.length co40) x3_1) ∧ (Kd.R (Kd.int .i64) 3 w' w.heap.size (fun _ => True) (.slice (some ad146) x4_1.length co38) x4_1) ∧ (w'.heap[s_]? = some (.cells #[.int .i64 0, .bool false, .bool false, .int .u64 0, .int .i64 0] 47 (0, 0))) ∧ (w.heap.size ≤ s_) ∧ (w.heap.size ≤ s_) ∧ (Below w.heap.size w w')) ?_ ?_
                                    rotate_left
                                    · intro hJ16_20
                                      refine join_ (σ := Value × Addr) 6 #[true, true, true, true, true, true, true, true, true, true, true, true, true, true, true, true, false, false, false, false, false, false] (fun s_ => [(61, s_.1)]) (fun s_ w' => (w'.cell? (ad146.add (t145).toNat) = some (.int .i64 (rd x4_1 t145)) ∧ w'.cell? (ad159.add (((ji31)).toNat * 5)) = some (.int .i64 ((rd_T47 x3_1 (ji31)).f0)) ∧ w'.cell? ⟨(ad159.add (((ji31)).toNat * 5)).block, (ad159.add (((ji31)).toNat * 5)).off + 1, none⟩ = some (.bool ((rd_T47 x3_1 (ji31)).f1)) ∧ w'.cell? ⟨(ad159.add (((ji31)).toNat * 5)).block, (ad159.add (((ji31)).toNat * 5)).off + 2, none⟩ = some (.bool ((rd_T47 x3_1 (ji31)).f2)) ∧ w'.cell? ⟨(ad159.add (((ji31)).toNat * 5)).block, (ad159.add (((ji31)).toNat * 5)).off + 3, none⟩ = some (.int .u64 ((rd_T47 x3_1 (ji31)).f3)) ∧ w'.cell? ⟨(ad159.add (((ji31)).toNat * 5)).block, (ad159.add (((ji31)).toNat * 5)).off + 4, none⟩ = some (.int .i64 ((rd_T47 x3_1 (ji31)).f4)) ∧ w'.cell? (ad144.add ((x5_1).toNat * 4)) = some (.int .i64 ((rd_T61 l0 x5_1).f0)) ∧ w'.cell? ⟨(ad144.add ((x5_1).toNat * 4)).block, (ad144.add ((x5_1).toNat * 4)).off + 1, none⟩ = some (.int .i64 ((rd_T61 l0 x5_1).f1)) ∧ w'.cell? ⟨(ad144.add ((x5_1).toNat * 4)).block, (ad144.add ((x5_1).toNat * 4)).off + 2, none⟩ = some (.bool ((rd_T61 l0 x5_1).f2)) ∧ w'.cell? ⟨(ad144.add ((x5_1).toNat * 4)).block, (ad144.add ((x5_1).toNat * 4)).off + 3, none⟩ = some (.int .u64 ((rd_T61 l0 x5_1).f3))) ∧ (Kd.R (Kd.int .i64) 43 w' w.heap.size (fun _ => True) s_.1 y160) ∧ (Kd.R k47 47 w' w.heap.size (fun _ => True) (.slice (some ad159) x3_1.length co40) x3_1) ∧ (Kd.R (Kd.int .i64) 3 w' w.heap.size (fun _ => True) (.slice (some ad146) x4_1.length co38) x4_1) ∧ (∃ c_, (s_.1 : Value) = .slice (some s_.2) y160.length c_) ∧ (Below w.heap.size w w')) ?_ ?_
                                      rotate_left
                                      · intro hJ10
                                        refine join_ (σ := Unit) 6 #[true, true, true, true, true, true, true, true, true, true, false, true, true, true, true, true, true, false, false, false, false, false] (fun s_ => [(67, .int .i64 t164)]) (fun s_ w' => (w'.cell? (ad146.add (t145).toNat) = some (.int .i64 (rd x4_1 t145)) ∧ w'.cell? (ad159.add (((ji31)).toNat * 5)) = some (.int .i64 ((rd_T47 x3_1 (ji31)).f0)) ∧ w'.cell? ⟨(ad159.add (((ji31)).toNat * 5)).block, (ad159.add (((ji31)).toNat * 5)).off + 1, none⟩ = some (.bool ((rd_T47 x3_1 (ji31)).f1)) ∧ w'.cell? ⟨(ad159.add (((ji31)).toNat * 5)).block, (ad159.add (((ji31)).toNat * 5)).off + 2, none⟩ = some (.bool ((rd_T47 x3_1 (ji31)).f2)) ∧ w'.cell? ⟨(ad159.add (((ji31)).toNat * 5)).block, (ad159.add (((ji31)).toNat * 5)).off + 3, none⟩ = some (.int .u64 ((rd_T47 x3_1 (ji31)).f3)) ∧ w'.cell? ⟨(ad159.add (((ji31)).toNat * 5)).block, (ad159.add (((ji31)).toNat * 5)).off + 4, none⟩ = some (.int .i64 ((rd_T47 x3_1 (ji31)).f4)) ∧ w'.cell? (ad144.add ((x5_1).toNat * 4)) = some (.int .i64 ((rd_T61 l0 x5_1).f0)) ∧ w'.cell? ⟨(ad144.add ((x5_1).toNat * 4)).block, (ad144.add ((x5_1).toNat * 4)).off + 1, none⟩ = some (.int .i64 ((rd_T61 l0 x5_1).f1)) ∧ w'.cell? ⟨(ad144.add ((x5_1).toNat * 4)).block, (ad144.add ((x5_1).toNat * 4)).off + 2, none⟩ = some (.bool ((rd_T61 l0 x5_1).f2)) ∧ w'.cell? ⟨(ad144.add ((x5_1).toNat * 4)).block, (ad144.add ((x5_1).toNat * 4)).off + 3, none⟩ = some (.int .u64 ((rd_T61 l0 x5_1).f3))) ∧ (Kd.R k47 47 w' w.heap.size (fun _ => True) (.slice (some ad159) x3_1.length co40) x3_1) ∧ (Kd.R (Kd.int .i64) 3 w' w.heap.size (fun _ => True) (.slice (some ad146) x4_1.length co38) x4_1) ∧ (Below w.heap.size w w')) ?_ ?_
                                        rotate_left
                                        · intro hJ16
                                          refine join_ (σ := Nat) 6 #[true, true, true, true, true, true, true, true, true, true, false, true, true, true, true, true, false, false, false, false, true, false] (fun s_ => [(8, .pointer (some ⟨s_, 0, none⟩))]) (fun s_ w' => (w'.cell? (ad146.add (t145).toNat) = some (.int .i64 (rd x4_1 t145)) ∧ w'.cell? (ad159.add (((ji31)).toNat * 5)) = some (.int .i64 ((rd_T47 x3_1 (ji31)).f0)) ∧ w'.cell? ⟨(ad159.add (((ji31)).toNat * 5)).block, (ad159.add (((ji31)).toNat * 5)).off + 1, none⟩ = some (.bool ((rd_T47 x3_1 (ji31)).f1)) ∧ w'.cell? ⟨(ad159.add (((ji31)).toNat * 5)).block, (ad159.add (((ji31)).toNat * 5)).off + 2, none⟩ = some (.bool ((rd_T47 x3_1 (ji31)).f2)) ∧ w'.cell? ⟨(ad159.add (((ji31)).toNat * 5)).block, (ad159.add (((ji31)).toNat * 5)).off + 3, none⟩ = some (.int .u64 ((rd_T47 x3_1 (ji31)).f3)) ∧ w'.cell? ⟨(ad159.add (((ji31)).toNat * 5)).block, (ad159.add (((ji31)).toNat * 5)).off + 4, none⟩ = some (.int .i64 ((rd_T47 x3_1 (ji31)).f4)) ∧ w'.cell? (ad144.add ((x5_1).toNat * 4)) = some (.int .i64 ((rd_T61 l0 x5_1).f0)) ∧ w'.cell? ⟨(ad144.add ((x5_1).toNat * 4)).block, (ad144.add ((x5_1).toNat * 4)).off + 1, none⟩ = some (.int .i64 ((rd_T61 l0 x5_1).f1)) ∧ w'.cell? ⟨(ad144.add ((x5_1).toNat * 4)).block, (ad144.add ((x5_1).toNat * 4)).off + 2, none⟩ = some (.bool ((rd_T61 l0 x5_1).f2)) ∧ w'.cell? ⟨(ad144.add ((x5_1).toNat * 4)).block, (ad144.add ((x5_1).toNat * 4)).off + 3, none⟩ = some (.int .u64 ((rd_T61 l0 x5_1).f3))) ∧ (Kd.R k47 47 w' w.heap.size (fun k_ => k_ ≠ s_) (.slice (some ad159) x3_1.length co40) x3_1) ∧ (Kd.R (Kd.int .i64) 3 w' w.heap.size (fun _ => True) (.slice (some ad146) x4_1.length co38) x4_1) ∧ (w'.heap[s_]? = some (.cells #[.int .i64 0, .bool false, .bool false, .int .u64 0, .int .i64 0] 47 (0, 0))) ∧ (w.heap.size ≤ s_) ∧ (w.heap.size ≤ s_) ∧ (Below w.heap.size w w')) ?_ ?_
                                          rotate_left
                                          · intro hJ20
                                            refine three_ (i := 10) (j := 16) (k := 20) (Ni := some 61) (Nj := some 67) (Nk := some 8) #[true, true, true, true, true, true, true, true, true, true, true, true, true, true, true, true, false, false, false, false, false, false] #[true, true, true, true, true, true, true, true, true, true, false, true, true, true, true, true, true, false, false, false, false, false] #[true, true, true, true, true, true, true, true, true, true, false, true, true, true, true, true, false, false, false, false, true, false] rfl rfl rfl rfl rfl rfl (three_of HT_.out (by kernel_rfl)) (by decide) (by decide) (by decide) (fun K hK => ?_) (fun K hK => ?_) (fun K hK => ?_)
                                            · skip
                                              refine Kd.R_lit_step (Kd.int .i64) _ 43 ?hg (N := 61) ?hd (xs := ([1, 1, 2, 6] : List Int)) (inner := [.int .i64 1, .int .i64 1, .int .i64 2, .int .i64 6]) (ok := fun _ => True) (okp := fun _ => True) ?hr ?hp (fun _ hk => hk) trivial (Below.refl _ _) (Nat.le_refl _) (by simp) ?_; (case hd => rfl); (case hg => rfl); (case hr => first | (go_simp; done) | (go_simp; rfl)); (case hp => exact (Reps.one (show Kd.M (Kd.int .i64) _ _ _ 1 [.int .i64 1] from rfl) (Reps.one (show Kd.M (Kd.int .i64) _ _ _ 1 [.int .i64 1] from rfl) (Reps.one (show Kd.M (Kd.int .i64) _ _ _ 2 [.int .i64 2] from rfl) (Reps.one (show Kd.M (Kd.int .i64) _ _ _ 6 [.int .i64 6] from rfl) (Reps.none _ _))))))
                                              intro v161 w41 ho42 hb hg_ hnew_
                                              have HS0_ := (hb.cell (World.block_lt_of_cell? _ _ (hHeld.1))).trans (hHeld.1)
                                              have HS1_ := (hb.cell (World.block_lt_of_cell? _ _ (hHeld.2.1))).trans (hHeld.2.1)
                                              have HS2_ := (hb.cell (World.block_lt_of_cell? _ _ (hHeld.2.2.1))).trans (hHeld.2.2.1)
                                              have HS3_ := (hb.cell (World.block_lt_of_cell? _ _ (hHeld.2.2.2.1))).trans (hHeld.2.2.2.1)
                                              have HS4_ := (hb.cell (World.block_lt_of_cell? _ _ (hHeld.2.2.2.2.1))).trans (hHeld.2.2.2.2.1)
                                              have HS5_ := (hb.cell (World.block_lt_of_cell? _ _ (hHeld.2.2.2.2.2.1))).trans (hHeld.2.2.2.2.2.1)
                                              clear hg_ hnew_
                                              (first | rw [← Ny160.out] at ho42 | (simp only [Int.reduceToNat] at ho42; rw [← Ny160.out] at ho42))
                                              have n0_ := Aside0.mk (Kd.R_below (by (with_reducible repeat (first | apply Kd.R_alloc | apply Kd.R_drewN | apply Kd.R_drew)); exact HO_3.out) hb)
                                              have n1_ := Aside0.mk (Kd.R_below (by (with_reducible repeat (first | apply Kd.R_alloc | apply Kd.R_drewN | apply Kd.R_drew)); exact HO_4.out) hb)
                                              have n2_ := Aside0.mk (Kd.R_lower ho42 (below_size (by repeat (first | (with_reducible first | exact HB.out | apply below_alloc | apply pw_below_drewN | apply below_drew1) | exact HB.out))))
                                              have n3_ := Aside0.mk (below_step (by repeat (first | (with_reducible first | exact HB.out | apply below_alloc | apply pw_below_drewN | apply below_drew1) | exact HB.out)) hb)
                                              clear HO_3
                                              clear HO_4
                                              clear HB
                                              have HO_3 := n0_
                                              have HO_4 := n1_
                                              have HO162 := n2_
                                              have HB := n3_
                                              clear n0_ n1_ n2_ n3_
                                              clear hb ho42
                                              obtain ⟨Ao43, co43, eo43⟩ := Kd.R_slice HO162.out
                                              subst eo43
                                              obtain ⟨ado43, fo43, _⟩ := Kd.at_int (Kd.R_reads' HO162.out).2.2 0 (by decide) (by rw [Ny160.out]; simp)
                                              cases fo43
                                              refine hK.out _ _ ⟨HS0_, HS1_, HS2_, HS3_, HS4_, HS5_, ((HB.out.cell (World.block_lt_of_cell? w _ hw163_0)).trans hw163_0), ((HB.out.cell (World.block_lt_of_cell? w _ hw163_1)).trans hw163_1), ((HB.out.cell (World.block_lt_of_cell? w _ hw163_2)).trans hw163_2), ((HB.out.cell (World.block_lt_of_cell? w _ hw163_3)).trans hw163_3)⟩ (fun hHeld => ?_)
                                              clear hK K
                                              refine norm_ (a' := ?_) ?_ ?_
                                              rotate_left
                                              · show Act.put _ (some 61) _ = _
                                                simp only [Act.put, List.setIfInBounds_toArray, List.set_cons_zero, List.set_cons_succ, i64_w, i32_w, Go.IntKind.wrap_u32]
                                                rfl
                                              exact norm_ (by first | (simp only [putAll, Act.put, List.setIfInBounds_toArray, List.set_cons_zero, List.set_cons_succ]; done) | (simp only [putAll, Act.put, List.setIfInBounds_toArray, List.set_cons_zero, List.set_cons_succ]; rfl)) (hJ10 (.slice (some ado43) y160.length co43, ado43) _ ⟨hHeld, (by (with_reducible repeat (first | apply Kd.R_alloc | apply Kd.R_drewN | apply Kd.R_drew)); exact HO162.out), (by (with_reducible repeat (first | apply Kd.R_alloc | apply Kd.R_drewN | apply Kd.R_drew)); exact HO_3.out), (by (with_reducible repeat (first | apply Kd.R_alloc | apply Kd.R_drewN | apply Kd.R_drew)); exact HO_4.out), ⟨_, rfl⟩, (by repeat (first | (with_reducible first | exact HB.out | apply below_alloc | apply pw_below_drewN | apply below_drew1) | exact HB.out))⟩)
                                            · skip
                                              refine goes_ Try.func18 (by kernel_rfl) rfl #[.int .i64 ((rd_T61 l0 x5_1).f1), .int .i64 4] (by rfl) rfl rfl (by (try simp only [List.map_toArray, List.map_cons, List.map_nil]); first | done | rfl | (simp only [List.length_drop, List.length_take]; rfl)) ?_
                                              with_reducible refine (hatstandlaw14_pick.calls ((rd_T61 l0 x5_1).f1) 4 t164 _ A34.out).mono ?_
                                              rintro e w' ⟨rfl, ⟨nd, rfl⟩⟩
                                              refine ⟨_, rfl, ?_⟩
                                              refine hK.out _ _ ⟨hHeld.1, hHeld.2.1, hHeld.2.2.1, hHeld.2.2.2.1, hHeld.2.2.2.2.1, hHeld.2.2.2.2.2.1, ((HB.out.cell (World.block_lt_of_cell? w _ hw163_0)).trans hw163_0), ((HB.out.cell (World.block_lt_of_cell? w _ hw163_1)).trans hw163_1), ((HB.out.cell (World.block_lt_of_cell? w _ hw163_2)).trans hw163_2), ((HB.out.cell (World.block_lt_of_cell? w _ hw163_3)).trans hw163_3)⟩ (fun hHeld => ?_)
                                              clear hK K
                                              refine norm_ (a' := ?_) ?_ ?_
                                              rotate_left
                                              · show Act.put _ (some 67) _ = _
                                                simp only [Act.put, List.setIfInBounds_toArray, List.set_cons_zero, List.set_cons_succ, i64_w, i32_w, Go.IntKind.wrap_u32]
                                                rfl
                                              exact norm_ (by first | (simp only [putAll, Act.put, List.setIfInBounds_toArray, List.set_cons_zero, List.set_cons_succ]; done) | (simp only [putAll, Act.put, List.setIfInBounds_toArray, List.set_cons_zero, List.set_cons_succ]; rfl)) (hJ16 () _ ⟨hHeld, (by (with_reducible repeat (first | apply Kd.R_alloc | apply Kd.R_drewN | apply Kd.R_drew)); exact HO_3.out), (by (with_reducible repeat (first | apply Kd.R_alloc | apply Kd.R_drewN | apply Kd.R_drew)); exact HO_4.out), (by repeat (first | (with_reducible first | exact HB.out | apply below_alloc | apply pw_below_drewN | apply below_drew1) | exact HB.out))⟩)
                                            · skip
                                              refine box_step ?hg (N := 8) ?hd (cs := #[.int .i64 0, .bool false, .bool false, .int .u64 0, .int .i64 0]) (t := 47) ?hr ?_; (case hd => rfl); (case hg => rfl); (case hr => first | (go_simp; done) | (go_simp; rfl))
                                              intro gb166 hg w41 hbox hb
                                              have HS0_ := (hb.cell (World.block_lt_of_cell? _ _ (hHeld.1))).trans (hHeld.1)
                                              have HS1_ := (hb.cell (World.block_lt_of_cell? _ _ (hHeld.2.1))).trans (hHeld.2.1)
                                              have HS2_ := (hb.cell (World.block_lt_of_cell? _ _ (hHeld.2.2.1))).trans (hHeld.2.2.1)
                                              have HS3_ := (hb.cell (World.block_lt_of_cell? _ _ (hHeld.2.2.2.1))).trans (hHeld.2.2.2.1)
                                              have HS4_ := (hb.cell (World.block_lt_of_cell? _ _ (hHeld.2.2.2.2.1))).trans (hHeld.2.2.2.2.1)
                                              have HS5_ := (hb.cell (World.block_lt_of_cell? _ _ (hHeld.2.2.2.2.2.1))).trans (hHeld.2.2.2.2.2.1)
                                              have n0_ := Aside0.mk (Kd.R_below (Kd.R_elderB (by (with_reducible repeat (first | apply Kd.R_alloc | apply Kd.R_drewN | apply Kd.R_drew)); exact HO_3.out) gb166 (Nat.le_of_eq hg.symm)) hb)
                                              have n1_ := Aside0.mk (Kd.R_below (by (with_reducible repeat (first | apply Kd.R_alloc | apply Kd.R_drewN | apply Kd.R_drew)); exact HO_4.out) hb)
                                              have n2_ := Aside0.mk (below_step (by repeat (first | (with_reducible first | exact HB.out | apply below_alloc | apply pw_below_drewN | apply below_drew1) | exact HB.out)) hb)
                                              have n3_ := Aside0.mk (hbox)
                                              have n4_ := Aside0.mk ((by rw [hg]; exact (below_size (by repeat (first | (with_reducible first | exact HB.out | apply below_alloc | apply pw_below_drewN | apply below_drew1) | exact HB.out))) : w.heap.size ≤ gb166))
                                              have n5_ := Aside0.mk ((by rw [hg]; exact (below_size (by repeat (first | (with_reducible first | exact HB.out | apply below_alloc | apply pw_below_drewN | apply below_drew1) | exact HB.out))) : w.heap.size ≤ gb166))
                                              clear HO_3
                                              clear HO_4
                                              clear HB
                                              have HO_3 := n0_
                                              have HO_4 := n1_
                                              have HB := n2_
                                              have BK166 := n3_
                                              have GW166 := n4_
                                              have GE166 := n5_
                                              clear n0_ n1_ n2_ n3_ n4_ n5_
                                              clear hb hbox hg
                                              refine hK.out _ _ ⟨HS0_, HS1_, HS2_, HS3_, HS4_, HS5_, ((HB.out.cell (World.block_lt_of_cell? w _ hw163_0)).trans hw163_0), ((HB.out.cell (World.block_lt_of_cell? w _ hw163_1)).trans hw163_1), ((HB.out.cell (World.block_lt_of_cell? w _ hw163_2)).trans hw163_2), ((HB.out.cell (World.block_lt_of_cell? w _ hw163_3)).trans hw163_3)⟩ (fun hHeld => ?_)
                                              clear hK K
                                              refine norm_ (a' := ?_) ?_ ?_
                                              rotate_left
                                              · show Act.put _ (some 8) _ = _
                                                simp only [Act.put, List.setIfInBounds_toArray, List.set_cons_zero, List.set_cons_succ, i64_w, i32_w, Go.IntKind.wrap_u32]
                                                rfl
                                              exact norm_ (by first | (simp only [putAll, Act.put, List.setIfInBounds_toArray, List.set_cons_zero, List.set_cons_succ]; done) | (simp only [putAll, Act.put, List.setIfInBounds_toArray, List.set_cons_zero, List.set_cons_succ]; rfl)) (hJ20 (gb166) _ ⟨hHeld, (by (with_reducible repeat (first | apply Kd.R_alloc | apply Kd.R_drewN | apply Kd.R_drew)); exact Kd.R_mono HO_3.out (fun _ hk => hk.2)), (by (with_reducible repeat (first | apply Kd.R_alloc | apply Kd.R_drewN | apply Kd.R_drew)); exact HO_4.out), (by (with_reducible repeat (first | refine blk_drewN ?_ _ | refine blk_drew ?_ | refine blk_alloc ?_ _)); exact BK166.out), GW166.out, GE166.out, (by repeat (first | (with_reducible first | exact HB.out | apply below_alloc | apply pw_below_drewN | apply below_drew1 | refine below_set ?_ GE166.out) | exact HB.out))⟩)
                                          · skip
                                            rintro gb166 w42 ⟨hS_, h0_, h1_, h2_, h3_, h4_, h5_⟩
                                            have n0_ : Aside0 (Kd.R k47 47 w42 w.heap.size (fun k_ => k_ ≠ gb166) (.slice (some ad159) x3_1.length co40) x3_1) := ⟨h0_⟩
                                            have n1_ : Aside0 (Kd.R (Kd.int .i64) 3 w42 w.heap.size (fun _ => True) (.slice (some ad146) x4_1.length co38) x4_1) := ⟨h1_⟩
                                            have n2_ : Aside0 (w42.heap[gb166]? = some (.cells #[.int .i64 0, .bool false, .bool false, .int .u64 0, .int .i64 0] 47 (0, 0))) := ⟨h2_⟩
                                            have n3_ : Aside0 (w.heap.size ≤ gb166) := ⟨h3_⟩
                                            have n4_ : Aside0 (w.heap.size ≤ gb166) := ⟨h4_⟩
                                            have n5_ : Aside0 (Below w.heap.size w w42) := ⟨h5_⟩
                                            clear HO_3
                                            clear HO_4
                                            clear HB
                                            clear h0_ h1_ h2_ h3_ h4_ h5_
                                            have HO_3 := n0_
                                            have HO_4 := n1_
                                            have BK166 := n2_
                                            have GW166 := n3_
                                            have GE166 := n4_
                                            have HB := n5_
                                            clear n0_ n1_ n2_ n3_ n4_ n5_
                                            have hHeld : w42.cell? (ad146.add (t145).toNat) = some (.int .i64 (rd x4_1 t145)) ∧ w42.cell? (ad159.add (((ji31)).toNat * 5)) = some (.int .i64 ((rd_T47 x3_1 (ji31)).f0)) ∧ w42.cell? ⟨(ad159.add (((ji31)).toNat * 5)).block, (ad159.add (((ji31)).toNat * 5)).off + 1, none⟩ = some (.bool ((rd_T47 x3_1 (ji31)).f1)) ∧ w42.cell? ⟨(ad159.add (((ji31)).toNat * 5)).block, (ad159.add (((ji31)).toNat * 5)).off + 2, none⟩ = some (.bool ((rd_T47 x3_1 (ji31)).f2)) ∧ w42.cell? ⟨(ad159.add (((ji31)).toNat * 5)).block, (ad159.add (((ji31)).toNat * 5)).off + 3, none⟩ = some (.int .u64 ((rd_T47 x3_1 (ji31)).f3)) ∧ w42.cell? ⟨(ad159.add (((ji31)).toNat * 5)).block, (ad159.add (((ji31)).toNat * 5)).off + 4, none⟩ = some (.int .i64 ((rd_T47 x3_1 (ji31)).f4)) ∧ w42.cell? (ad144.add ((x5_1).toNat * 4)) = some (.int .i64 ((rd_T61 l0 x5_1).f0)) ∧ w42.cell? ⟨(ad144.add ((x5_1).toNat * 4)).block, (ad144.add ((x5_1).toNat * 4)).off + 1, none⟩ = some (.int .i64 ((rd_T61 l0 x5_1).f1)) ∧ w42.cell? ⟨(ad144.add ((x5_1).toNat * 4)).block, (ad144.add ((x5_1).toNat * 4)).off + 2, none⟩ = some (.bool ((rd_T61 l0 x5_1).f2)) ∧ w42.cell? ⟨(ad144.add ((x5_1).toNat * 4)).block, (ad144.add ((x5_1).toNat * 4)).off + 3, none⟩ = some (.int .u64 ((rd_T61 l0 x5_1).f3)) := hS_
                                            refine norm_ (a' := ?_) ?_ ?_
                                            rotate_left
                                            · simp only [putAll, Act.put, List.setIfInBounds_toArray, List.set_cons_zero, List.set_cons_succ]
                                              rfl
                                            refine two_ (i := 10) (j := 16) (Ni := some 61) (Nj := some 67) #[true, true, true, true, true, true, true, true, true, true, true, true, true, true, true, true, false, false, false, false, true, false] #[true, true, true, true, true, true, true, true, true, true, false, true, true, true, true, true, true, false, false, false, true, false] rfl rfl rfl rfl (two_of HT_.out (by kernel_rfl)) (by decide) (by decide) (fun K hK => ?_) (fun K hK => ?_)
                                            · skip
                                              refine Kd.R_lit_step (Kd.int .i64) _ 43 ?hg (N := 61) ?hd (xs := ([1, 1, 2, 6] : List Int)) (inner := [.int .i64 1, .int .i64 1, .int .i64 2, .int .i64 6]) (ok := fun _ => True) (okp := fun _ => True) ?hr ?hp (fun _ hk => hk) trivial (Below.refl _ _) (Nat.le_refl _) (by simp) ?_; (case hd => rfl); (case hg => rfl); (case hr => first | (go_simp; done) | (go_simp; rfl)); (case hp => exact (Reps.one (show Kd.M (Kd.int .i64) _ _ _ 1 [.int .i64 1] from rfl) (Reps.one (show Kd.M (Kd.int .i64) _ _ _ 1 [.int .i64 1] from rfl) (Reps.one (show Kd.M (Kd.int .i64) _ _ _ 2 [.int .i64 2] from rfl) (Reps.one (show Kd.M (Kd.int .i64) _ _ _ 6 [.int .i64 6] from rfl) (Reps.none _ _))))))
                                              intro v161 w43 ho44 hb hg_ hnew_
                                              have HS0_ := (hb.cell (World.block_lt_of_cell? _ _ (hHeld.1))).trans (hHeld.1)
                                              have HS1_ := (hb.cell (World.block_lt_of_cell? _ _ (hHeld.2.1))).trans (hHeld.2.1)
                                              have HS2_ := (hb.cell (World.block_lt_of_cell? _ _ (hHeld.2.2.1))).trans (hHeld.2.2.1)
                                              have HS3_ := (hb.cell (World.block_lt_of_cell? _ _ (hHeld.2.2.2.1))).trans (hHeld.2.2.2.1)
                                              have HS4_ := (hb.cell (World.block_lt_of_cell? _ _ (hHeld.2.2.2.2.1))).trans (hHeld.2.2.2.2.1)
                                              have HS5_ := (hb.cell (World.block_lt_of_cell? _ _ (hHeld.2.2.2.2.2.1))).trans (hHeld.2.2.2.2.2.1)
                                              clear hg_ hnew_
                                              (first | rw [← Ny160.out] at ho44 | (simp only [Int.reduceToNat] at ho44; rw [← Ny160.out] at ho44))
                                              have n0_ := Aside0.mk (Kd.R_below (by (with_reducible repeat (first | apply Kd.R_alloc | apply Kd.R_drewN | apply Kd.R_drew)); exact HO_3.out) hb)
                                              have n1_ := Aside0.mk (Kd.R_below (by (with_reducible repeat (first | apply Kd.R_alloc | apply Kd.R_drewN | apply Kd.R_drew)); exact HO_4.out) hb)
                                              have n2_ := Aside0.mk (Kd.R_lower ho44 (below_size (by repeat (first | (with_reducible first | exact HB.out | apply below_alloc | apply pw_below_drewN | apply below_drew1 | refine below_set ?_ GE166.out) | exact HB.out))))
                                              have n3_ := Aside0.mk (blk_below (g := gb166) (o := .cells #[.int .i64 0, .bool false, .bool false, .int .u64 0, .int .i64 0] 47 (0, 0)) (by (with_reducible repeat (first | refine blk_drewN ?_ _ | refine blk_drew ?_ | refine blk_alloc ?_ _)); exact BK166.out) hb)
                                              have n4_ := Aside0.mk (below_step (by repeat (first | (with_reducible first | exact HB.out | apply below_alloc | apply pw_below_drewN | apply below_drew1 | refine below_set ?_ GE166.out) | exact HB.out)) hb)
                                              clear HO_3
                                              clear HO_4
                                              clear BK166
                                              clear HB
                                              have HO_3 := n0_
                                              have HO_4 := n1_
                                              have HO162 := n2_
                                              have BK166 := n3_
                                              have HB := n4_
                                              clear n0_ n1_ n2_ n3_ n4_
                                              clear hb ho44
                                              obtain ⟨Ao45, co45, eo45⟩ := Kd.R_slice HO162.out
                                              subst eo45
                                              obtain ⟨ado45, fo45, _⟩ := Kd.at_int (Kd.R_reads' HO162.out).2.2 0 (by decide) (by rw [Ny160.out]; simp)
                                              cases fo45
                                              refine hK.out _ _ ⟨HS0_, HS1_, HS2_, HS3_, HS4_, HS5_, ((HB.out.cell (World.block_lt_of_cell? w _ hw163_0)).trans hw163_0), ((HB.out.cell (World.block_lt_of_cell? w _ hw163_1)).trans hw163_1), ((HB.out.cell (World.block_lt_of_cell? w _ hw163_2)).trans hw163_2), ((HB.out.cell (World.block_lt_of_cell? w _ hw163_3)).trans hw163_3)⟩ (fun hHeld => ?_)
                                              clear hK K
                                              refine norm_ (a' := ?_) ?_ ?_
                                              rotate_left
                                              · show Act.put _ (some 61) _ = _
                                                simp only [Act.put, List.setIfInBounds_toArray, List.set_cons_zero, List.set_cons_succ, i64_w, i32_w, Go.IntKind.wrap_u32]
                                                rfl
                                              exact norm_ (by first | (simp only [putAll, Act.put, List.setIfInBounds_toArray, List.set_cons_zero, List.set_cons_succ]; done) | (simp only [putAll, Act.put, List.setIfInBounds_toArray, List.set_cons_zero, List.set_cons_succ]; rfl)) (hJ10_20 (.slice (some ado45) y160.length co45, ado45, gb166) _ ⟨hHeld, (by (with_reducible repeat (first | apply Kd.R_alloc | apply Kd.R_drewN | apply Kd.R_drew)); exact HO162.out), (by (with_reducible repeat (first | apply Kd.R_alloc | apply Kd.R_drewN | apply Kd.R_drew)); exact HO_3.out), (by (with_reducible repeat (first | apply Kd.R_alloc | apply Kd.R_drewN | apply Kd.R_drew)); exact HO_4.out), ⟨_, rfl⟩, (by (with_reducible repeat (first | refine blk_drewN ?_ _ | refine blk_drew ?_ | refine blk_alloc ?_ _)); exact BK166.out), GW166.out, GE166.out, (by repeat (first | (with_reducible first | exact HB.out | apply below_alloc | apply pw_below_drewN | apply below_drew1 | refine below_set ?_ GE166.out) | exact HB.out))⟩)
                                            · skip
                                              refine goes_ Try.func18 (by kernel_rfl) rfl #[.int .i64 ((rd_T61 l0 x5_1).f1), .int .i64 4] (by rfl) rfl rfl (by (try simp only [List.map_toArray, List.map_cons, List.map_nil]); first | done | rfl | (simp only [List.length_drop, List.length_take]; rfl)) ?_
                                              with_reducible refine (hatstandlaw14_pick.calls ((rd_T61 l0 x5_1).f1) 4 t164 _ A34.out).mono ?_
                                              rintro e w' ⟨rfl, ⟨nd, rfl⟩⟩
                                              refine ⟨_, rfl, ?_⟩
                                              refine hK.out _ _ ⟨hHeld.1, hHeld.2.1, hHeld.2.2.1, hHeld.2.2.2.1, hHeld.2.2.2.2.1, hHeld.2.2.2.2.2.1, ((HB.out.cell (World.block_lt_of_cell? w _ hw163_0)).trans hw163_0), ((HB.out.cell (World.block_lt_of_cell? w _ hw163_1)).trans hw163_1), ((HB.out.cell (World.block_lt_of_cell? w _ hw163_2)).trans hw163_2), ((HB.out.cell (World.block_lt_of_cell? w _ hw163_3)).trans hw163_3)⟩ (fun hHeld => ?_)
                                              clear hK K
                                              refine norm_ (a' := ?_) ?_ ?_
                                              rotate_left
                                              · show Act.put _ (some 67) _ = _
                                                simp only [Act.put, List.setIfInBounds_toArray, List.set_cons_zero, List.set_cons_succ, i64_w, i32_w, Go.IntKind.wrap_u32]
                                                rfl
                                              exact norm_ (by first | (simp only [putAll, Act.put, List.setIfInBounds_toArray, List.set_cons_zero, List.set_cons_succ]; done) | (simp only [putAll, Act.put, List.setIfInBounds_toArray, List.set_cons_zero, List.set_cons_succ]; rfl)) (hJ16_20 (gb166) _ ⟨hHeld, (by (with_reducible repeat (first | apply Kd.R_alloc | apply Kd.R_drewN | apply Kd.R_drew)); exact HO_3.out), (by (with_reducible repeat (first | apply Kd.R_alloc | apply Kd.R_drewN | apply Kd.R_drew)); exact HO_4.out), (by (with_reducible repeat (first | refine blk_drewN ?_ _ | refine blk_drew ?_ | refine blk_alloc ?_ _)); exact BK166.out), GW166.out, GE166.out, (by repeat (first | (with_reducible first | exact HB.out | apply below_alloc | apply pw_below_drewN | apply below_drew1 | refine below_set ?_ GE166.out) | exact HB.out))⟩)
                                        · skip
                                          rintro _ w41 ⟨hS_, h0_, h1_, h2_⟩
                                          have n0_ : Aside0 (Kd.R k47 47 w41 w.heap.size (fun _ => True) (.slice (some ad159) x3_1.length co40) x3_1) := ⟨h0_⟩
                                          have n1_ : Aside0 (Kd.R (Kd.int .i64) 3 w41 w.heap.size (fun _ => True) (.slice (some ad146) x4_1.length co38) x4_1) := ⟨h1_⟩
                                          have n2_ : Aside0 (Below w.heap.size w w41) := ⟨h2_⟩
                                          clear HO_3
                                          clear HO_4
                                          clear HB
                                          clear h0_ h1_ h2_
                                          have HO_3 := n0_
                                          have HO_4 := n1_
                                          have HB := n2_
                                          clear n0_ n1_ n2_
                                          have hHeld : w41.cell? (ad146.add (t145).toNat) = some (.int .i64 (rd x4_1 t145)) ∧ w41.cell? (ad159.add (((ji31)).toNat * 5)) = some (.int .i64 ((rd_T47 x3_1 (ji31)).f0)) ∧ w41.cell? ⟨(ad159.add (((ji31)).toNat * 5)).block, (ad159.add (((ji31)).toNat * 5)).off + 1, none⟩ = some (.bool ((rd_T47 x3_1 (ji31)).f1)) ∧ w41.cell? ⟨(ad159.add (((ji31)).toNat * 5)).block, (ad159.add (((ji31)).toNat * 5)).off + 2, none⟩ = some (.bool ((rd_T47 x3_1 (ji31)).f2)) ∧ w41.cell? ⟨(ad159.add (((ji31)).toNat * 5)).block, (ad159.add (((ji31)).toNat * 5)).off + 3, none⟩ = some (.int .u64 ((rd_T47 x3_1 (ji31)).f3)) ∧ w41.cell? ⟨(ad159.add (((ji31)).toNat * 5)).block, (ad159.add (((ji31)).toNat * 5)).off + 4, none⟩ = some (.int .i64 ((rd_T47 x3_1 (ji31)).f4)) ∧ w41.cell? (ad144.add ((x5_1).toNat * 4)) = some (.int .i64 ((rd_T61 l0 x5_1).f0)) ∧ w41.cell? ⟨(ad144.add ((x5_1).toNat * 4)).block, (ad144.add ((x5_1).toNat * 4)).off + 1, none⟩ = some (.int .i64 ((rd_T61 l0 x5_1).f1)) ∧ w41.cell? ⟨(ad144.add ((x5_1).toNat * 4)).block, (ad144.add ((x5_1).toNat * 4)).off + 2, none⟩ = some (.bool ((rd_T61 l0 x5_1).f2)) ∧ w41.cell? ⟨(ad144.add ((x5_1).toNat * 4)).block, (ad144.add ((x5_1).toNat * 4)).off + 3, none⟩ = some (.int .u64 ((rd_T61 l0 x5_1).f3)) := hS_
                                          refine norm_ (a' := ?_) ?_ ?_
                                          rotate_left
                                          · simp only [putAll, Act.put, List.setIfInBounds_toArray, List.set_cons_zero, List.set_cons_succ]
                                            rfl
                                          refine two_ (i := 10) (j := 20) (Ni := some 61) (Nj := some 8) #[true, true, true, true, true, true, true, true, true, true, true, true, true, true, true, true, true, false, false, false, false, false] #[true, true, true, true, true, true, true, true, true, true, false, true, true, true, true, true, true, false, false, false, true, false] rfl rfl rfl rfl (two_of HT_.out (by kernel_rfl)) (by decide) (by decide) (fun K hK => ?_) (fun K hK => ?_)
                                          · skip
                                            refine Kd.R_lit_step (Kd.int .i64) _ 43 ?hg (N := 61) ?hd (xs := ([1, 1, 2, 6] : List Int)) (inner := [.int .i64 1, .int .i64 1, .int .i64 2, .int .i64 6]) (ok := fun _ => True) (okp := fun _ => True) ?hr ?hp (fun _ hk => hk) trivial (Below.refl _ _) (Nat.le_refl _) (by simp) ?_; (case hd => rfl); (case hg => rfl); (case hr => first | (go_simp; done) | (go_simp; rfl)); (case hp => exact (Reps.one (show Kd.M (Kd.int .i64) _ _ _ 1 [.int .i64 1] from rfl) (Reps.one (show Kd.M (Kd.int .i64) _ _ _ 1 [.int .i64 1] from rfl) (Reps.one (show Kd.M (Kd.int .i64) _ _ _ 2 [.int .i64 2] from rfl) (Reps.one (show Kd.M (Kd.int .i64) _ _ _ 6 [.int .i64 6] from rfl) (Reps.none _ _))))))
                                            intro v161 w42 ho43 hb hg_ hnew_
                                            have HS0_ := (hb.cell (World.block_lt_of_cell? _ _ (hHeld.1))).trans (hHeld.1)
                                            have HS1_ := (hb.cell (World.block_lt_of_cell? _ _ (hHeld.2.1))).trans (hHeld.2.1)
                                            have HS2_ := (hb.cell (World.block_lt_of_cell? _ _ (hHeld.2.2.1))).trans (hHeld.2.2.1)
                                            have HS3_ := (hb.cell (World.block_lt_of_cell? _ _ (hHeld.2.2.2.1))).trans (hHeld.2.2.2.1)
                                            have HS4_ := (hb.cell (World.block_lt_of_cell? _ _ (hHeld.2.2.2.2.1))).trans (hHeld.2.2.2.2.1)
                                            have HS5_ := (hb.cell (World.block_lt_of_cell? _ _ (hHeld.2.2.2.2.2.1))).trans (hHeld.2.2.2.2.2.1)
                                            clear hg_ hnew_
                                            (first | rw [← Ny160.out] at ho43 | (simp only [Int.reduceToNat] at ho43; rw [← Ny160.out] at ho43))
                                            have n0_ := Aside0.mk (Kd.R_below (by (with_reducible repeat (first | apply Kd.R_alloc | apply Kd.R_drewN | apply Kd.R_drew)); exact HO_3.out) hb)
                                            have n1_ := Aside0.mk (Kd.R_below (by (with_reducible repeat (first | apply Kd.R_alloc | apply Kd.R_drewN | apply Kd.R_drew)); exact HO_4.out) hb)
                                            have n2_ := Aside0.mk (Kd.R_lower ho43 (below_size (by repeat (first | (with_reducible first | exact HB.out | apply below_alloc | apply pw_below_drewN | apply below_drew1) | exact HB.out))))
                                            have n3_ := Aside0.mk (below_step (by repeat (first | (with_reducible first | exact HB.out | apply below_alloc | apply pw_below_drewN | apply below_drew1) | exact HB.out)) hb)
                                            clear HO_3
                                            clear HO_4
                                            clear HB
                                            have HO_3 := n0_
                                            have HO_4 := n1_
                                            have HO162 := n2_
                                            have HB := n3_
                                            clear n0_ n1_ n2_ n3_
                                            clear hb ho43
                                            obtain ⟨Ao44, co44, eo44⟩ := Kd.R_slice HO162.out
                                            subst eo44
                                            obtain ⟨ado44, fo44, _⟩ := Kd.at_int (Kd.R_reads' HO162.out).2.2 0 (by decide) (by rw [Ny160.out]; simp)
                                            cases fo44
                                            refine hK.out _ _ ⟨HS0_, HS1_, HS2_, HS3_, HS4_, HS5_, ((HB.out.cell (World.block_lt_of_cell? w _ hw163_0)).trans hw163_0), ((HB.out.cell (World.block_lt_of_cell? w _ hw163_1)).trans hw163_1), ((HB.out.cell (World.block_lt_of_cell? w _ hw163_2)).trans hw163_2), ((HB.out.cell (World.block_lt_of_cell? w _ hw163_3)).trans hw163_3)⟩ (fun hHeld => ?_)
                                            clear hK K
                                            refine norm_ (a' := ?_) ?_ ?_
                                            rotate_left
                                            · show Act.put _ (some 61) _ = _
                                              simp only [Act.put, List.setIfInBounds_toArray, List.set_cons_zero, List.set_cons_succ, i64_w, i32_w, Go.IntKind.wrap_u32]
                                              rfl
                                            refine pure_ (i := 17) (N := some 68) (v := ?_) (a' := ?_) #[true, true, true, true, true, true, true, true, true, true, true, true, true, true, true, true, true, true, false, false, false, false] rfl rfl (any_of HT_.out (by kernel_rfl)) (fun _ _ _ h => h) (Or.inl ⟨by rfl, ?_⟩) ?_ ?_
                                            rotate_left
                                            · intro w'
                                              go_simp
                                              with_reducible rfl
                                            rotate_left
                                            · simp only [Act.put, List.setIfInBounds_toArray, List.set_cons_zero, List.set_cons_succ, i64_w, i32_w, Go.IntKind.wrap_u32]
                                              rfl
                                            exact norm_ (by first | (simp only [putAll, Act.put, List.setIfInBounds_toArray, List.set_cons_zero, List.set_cons_succ]; done) | (simp only [putAll, Act.put, List.setIfInBounds_toArray, List.set_cons_zero, List.set_cons_succ]; rfl)) (hJ10_16 (.slice (some ado44) y160.length co44, ado44) _ ⟨hHeld, (by (with_reducible repeat (first | apply Kd.R_alloc | apply Kd.R_drewN | apply Kd.R_drew)); exact HO162.out), (by (with_reducible repeat (first | apply Kd.R_alloc | apply Kd.R_drewN | apply Kd.R_drew)); exact HO_3.out), (by (with_reducible repeat (first | apply Kd.R_alloc | apply Kd.R_drewN | apply Kd.R_drew)); exact HO_4.out), ⟨_, rfl⟩, (by repeat (first | (with_reducible first | exact HB.out | apply below_alloc | apply pw_below_drewN | apply below_drew1) | exact HB.out))⟩)
                                          · skip
                                            refine box_step ?hg (N := 8) ?hd (cs := #[.int .i64 0, .bool false, .bool false, .int .u64 0, .int .i64 0]) (t := 47) ?hr ?_; (case hd => rfl); (case hg => rfl); (case hr => first | (go_simp; done) | (go_simp; rfl))
                                            intro gb166 hg w42 hbox hb
                                            have HS0_ := (hb.cell (World.block_lt_of_cell? _ _ (hHeld.1))).trans (hHeld.1)
                                            have HS1_ := (hb.cell (World.block_lt_of_cell? _ _ (hHeld.2.1))).trans (hHeld.2.1)
                                            have HS2_ := (hb.cell (World.block_lt_of_cell? _ _ (hHeld.2.2.1))).trans (hHeld.2.2.1)
                                            have HS3_ := (hb.cell (World.block_lt_of_cell? _ _ (hHeld.2.2.2.1))).trans (hHeld.2.2.2.1)
                                            have HS4_ := (hb.cell (World.block_lt_of_cell? _ _ (hHeld.2.2.2.2.1))).trans (hHeld.2.2.2.2.1)
                                            have HS5_ := (hb.cell (World.block_lt_of_cell? _ _ (hHeld.2.2.2.2.2.1))).trans (hHeld.2.2.2.2.2.1)
                                            have n0_ := Aside0.mk (Kd.R_below (Kd.R_elderB (by (with_reducible repeat (first | apply Kd.R_alloc | apply Kd.R_drewN | apply Kd.R_drew)); exact HO_3.out) gb166 (Nat.le_of_eq hg.symm)) hb)
                                            have n1_ := Aside0.mk (Kd.R_below (by (with_reducible repeat (first | apply Kd.R_alloc | apply Kd.R_drewN | apply Kd.R_drew)); exact HO_4.out) hb)
                                            have n2_ := Aside0.mk (below_step (by repeat (first | (with_reducible first | exact HB.out | apply below_alloc | apply pw_below_drewN | apply below_drew1) | exact HB.out)) hb)
                                            have n3_ := Aside0.mk (hbox)
                                            have n4_ := Aside0.mk ((by rw [hg]; exact (below_size (by repeat (first | (with_reducible first | exact HB.out | apply below_alloc | apply pw_below_drewN | apply below_drew1) | exact HB.out))) : w.heap.size ≤ gb166))
                                            have n5_ := Aside0.mk ((by rw [hg]; exact (below_size (by repeat (first | (with_reducible first | exact HB.out | apply below_alloc | apply pw_below_drewN | apply below_drew1) | exact HB.out))) : w.heap.size ≤ gb166))
                                            clear HO_3
                                            clear HO_4
                                            clear HB
                                            have HO_3 := n0_
                                            have HO_4 := n1_
                                            have HB := n2_
                                            have BK166 := n3_
                                            have GW166 := n4_
                                            have GE166 := n5_
                                            clear n0_ n1_ n2_ n3_ n4_ n5_
                                            clear hb hbox hg
                                            refine hK.out _ _ ⟨HS0_, HS1_, HS2_, HS3_, HS4_, HS5_, ((HB.out.cell (World.block_lt_of_cell? w _ hw163_0)).trans hw163_0), ((HB.out.cell (World.block_lt_of_cell? w _ hw163_1)).trans hw163_1), ((HB.out.cell (World.block_lt_of_cell? w _ hw163_2)).trans hw163_2), ((HB.out.cell (World.block_lt_of_cell? w _ hw163_3)).trans hw163_3)⟩ (fun hHeld => ?_)
                                            clear hK K
                                            refine norm_ (a' := ?_) ?_ ?_
                                            rotate_left
                                            · show Act.put _ (some 8) _ = _
                                              simp only [Act.put, List.setIfInBounds_toArray, List.set_cons_zero, List.set_cons_succ, i64_w, i32_w, Go.IntKind.wrap_u32]
                                              rfl
                                            exact norm_ (by first | (simp only [putAll, Act.put, List.setIfInBounds_toArray, List.set_cons_zero, List.set_cons_succ]; done) | (simp only [putAll, Act.put, List.setIfInBounds_toArray, List.set_cons_zero, List.set_cons_succ]; rfl)) (hJ16_20 (gb166) _ ⟨hHeld, (by (with_reducible repeat (first | apply Kd.R_alloc | apply Kd.R_drewN | apply Kd.R_drew)); exact Kd.R_mono HO_3.out (fun _ hk => hk.2)), (by (with_reducible repeat (first | apply Kd.R_alloc | apply Kd.R_drewN | apply Kd.R_drew)); exact HO_4.out), (by (with_reducible repeat (first | refine blk_drewN ?_ _ | refine blk_drew ?_ | refine blk_alloc ?_ _)); exact BK166.out), GW166.out, GE166.out, (by repeat (first | (with_reducible first | exact HB.out | apply below_alloc | apply pw_below_drewN | apply below_drew1 | refine below_set ?_ GE166.out) | exact HB.out))⟩)
                                      · skip
                                        rintro ⟨v161, adz_v161⟩ w44 ⟨hS_, h0_, h1_, h2_, h3_, h4_⟩
                                        have n0_ : Aside0 (Kd.R (Kd.int .i64) 43 w44 w.heap.size (fun _ => True) v161 y160) := ⟨h0_⟩
                                        have n1_ : Aside0 (Kd.R k47 47 w44 w.heap.size (fun _ => True) (.slice (some ad159) x3_1.length co40) x3_1) := ⟨h1_⟩
                                        have n2_ : Aside0 (Kd.R (Kd.int .i64) 3 w44 w.heap.size (fun _ => True) (.slice (some ad146) x4_1.length co38) x4_1) := ⟨h2_⟩
                                        have n3_ : Aside0 (∃ c_, (v161 : Value) = .slice (some adz_v161) y160.length c_) := ⟨h3_⟩
                                        have n4_ : Aside0 (Below w.heap.size w w44) := ⟨h4_⟩
                                        clear HO_3
                                        clear HO_4
                                        clear HB
                                        clear h0_ h1_ h2_ h3_ h4_
                                        have HO162 := n0_
                                        have HO_3 := n1_
                                        have HO_4 := n2_
                                        have HA_HO162 := n3_
                                        have HB := n4_
                                        clear n0_ n1_ n2_ n3_ n4_
                                        have hHeld : w44.cell? (ad146.add (t145).toNat) = some (.int .i64 (rd x4_1 t145)) ∧ w44.cell? (ad159.add (((ji31)).toNat * 5)) = some (.int .i64 ((rd_T47 x3_1 (ji31)).f0)) ∧ w44.cell? ⟨(ad159.add (((ji31)).toNat * 5)).block, (ad159.add (((ji31)).toNat * 5)).off + 1, none⟩ = some (.bool ((rd_T47 x3_1 (ji31)).f1)) ∧ w44.cell? ⟨(ad159.add (((ji31)).toNat * 5)).block, (ad159.add (((ji31)).toNat * 5)).off + 2, none⟩ = some (.bool ((rd_T47 x3_1 (ji31)).f2)) ∧ w44.cell? ⟨(ad159.add (((ji31)).toNat * 5)).block, (ad159.add (((ji31)).toNat * 5)).off + 3, none⟩ = some (.int .u64 ((rd_T47 x3_1 (ji31)).f3)) ∧ w44.cell? ⟨(ad159.add (((ji31)).toNat * 5)).block, (ad159.add (((ji31)).toNat * 5)).off + 4, none⟩ = some (.int .i64 ((rd_T47 x3_1 (ji31)).f4)) ∧ w44.cell? (ad144.add ((x5_1).toNat * 4)) = some (.int .i64 ((rd_T61 l0 x5_1).f0)) ∧ w44.cell? ⟨(ad144.add ((x5_1).toNat * 4)).block, (ad144.add ((x5_1).toNat * 4)).off + 1, none⟩ = some (.int .i64 ((rd_T61 l0 x5_1).f1)) ∧ w44.cell? ⟨(ad144.add ((x5_1).toNat * 4)).block, (ad144.add ((x5_1).toNat * 4)).off + 2, none⟩ = some (.bool ((rd_T61 l0 x5_1).f2)) ∧ w44.cell? ⟨(ad144.add ((x5_1).toNat * 4)).block, (ad144.add ((x5_1).toNat * 4)).off + 3, none⟩ = some (.int .u64 ((rd_T61 l0 x5_1).f3)) := hS_
                                        obtain ⟨co45, eo45⟩ := HA_HO162.out
                                        clear HA_HO162
                                        subst eo45
                                        refine norm_ (a' := ?_) ?_ ?_
                                        rotate_left
                                        · simp only [putAll, Act.put, List.setIfInBounds_toArray, List.set_cons_zero, List.set_cons_succ]
                                          rfl
                                        refine two_ (i := 16) (j := 20) (Ni := some 67) (Nj := some 8) #[true, true, true, true, true, true, true, true, true, true, true, true, true, true, true, true, true, false, false, false, false, false] #[true, true, true, true, true, true, true, true, true, true, true, true, true, true, true, true, false, false, false, false, true, false] rfl rfl rfl rfl (two_of HT_.out (by kernel_rfl)) (by decide) (by decide) (fun K hK => ?_) (fun K hK => ?_)
                                        · skip
                                          refine goes_ Try.func18 (by kernel_rfl) rfl #[.int .i64 ((rd_T61 l0 x5_1).f1), .int .i64 4] (by rfl) rfl rfl (by (try simp only [List.map_toArray, List.map_cons, List.map_nil]); first | done | rfl | (simp only [List.length_drop, List.length_take]; rfl)) ?_
                                          with_reducible refine (hatstandlaw14_pick.calls ((rd_T61 l0 x5_1).f1) 4 t164 _ A34.out).mono ?_
                                          rintro e w' ⟨rfl, ⟨nd, rfl⟩⟩
                                          refine ⟨_, rfl, ?_⟩
                                          refine hK.out _ _ ⟨hHeld.1, hHeld.2.1, hHeld.2.2.1, hHeld.2.2.2.1, hHeld.2.2.2.2.1, hHeld.2.2.2.2.2.1, ((HB.out.cell (World.block_lt_of_cell? w _ hw163_0)).trans hw163_0), ((HB.out.cell (World.block_lt_of_cell? w _ hw163_1)).trans hw163_1), ((HB.out.cell (World.block_lt_of_cell? w _ hw163_2)).trans hw163_2), ((HB.out.cell (World.block_lt_of_cell? w _ hw163_3)).trans hw163_3)⟩ (fun hHeld => ?_)
                                          clear hK K
                                          refine norm_ (a' := ?_) ?_ ?_
                                          rotate_left
                                          · show Act.put _ (some 67) _ = _
                                            simp only [Act.put, List.setIfInBounds_toArray, List.set_cons_zero, List.set_cons_succ, i64_w, i32_w, Go.IntKind.wrap_u32]
                                            rfl
                                          refine pure_ (i := 17) (N := some 68) (v := ?_) (a' := ?_) #[true, true, true, true, true, true, true, true, true, true, true, true, true, true, true, true, true, true, false, false, false, false] rfl rfl (any_of HT_.out (by kernel_rfl)) (fun _ _ _ h => h) (Or.inl ⟨by rfl, ?_⟩) ?_ ?_
                                          rotate_left
                                          · intro w'
                                            go_simp
                                            with_reducible rfl
                                          rotate_left
                                          · simp only [Act.put, List.setIfInBounds_toArray, List.set_cons_zero, List.set_cons_succ, i64_w, i32_w, Go.IntKind.wrap_u32]
                                            rfl
                                          exact norm_ (by first | (simp only [putAll, Act.put, List.setIfInBounds_toArray, List.set_cons_zero, List.set_cons_succ]; done) | (simp only [putAll, Act.put, List.setIfInBounds_toArray, List.set_cons_zero, List.set_cons_succ]; rfl)) (hJ10_16 (.slice (some adz_v161) y160.length co45, adz_v161) _ ⟨hHeld, (by (with_reducible repeat (first | apply Kd.R_alloc | apply Kd.R_drewN | apply Kd.R_drew)); exact HO162.out), (by (with_reducible repeat (first | apply Kd.R_alloc | apply Kd.R_drewN | apply Kd.R_drew)); exact HO_3.out), (by (with_reducible repeat (first | apply Kd.R_alloc | apply Kd.R_drewN | apply Kd.R_drew)); exact HO_4.out), ⟨_, rfl⟩, (by repeat (first | (with_reducible first | exact HB.out | apply below_alloc | apply pw_below_drewN | apply below_drew1) | exact HB.out))⟩)
                                        · skip
                                          refine box_step ?hg (N := 8) ?hd (cs := #[.int .i64 0, .bool false, .bool false, .int .u64 0, .int .i64 0]) (t := 47) ?hr ?_; (case hd => rfl); (case hg => rfl); (case hr => first | (go_simp; done) | (go_simp; rfl))
                                          intro gb166 hg w46 hbox hb
                                          have HS0_ := (hb.cell (World.block_lt_of_cell? _ _ (hHeld.1))).trans (hHeld.1)
                                          have HS1_ := (hb.cell (World.block_lt_of_cell? _ _ (hHeld.2.1))).trans (hHeld.2.1)
                                          have HS2_ := (hb.cell (World.block_lt_of_cell? _ _ (hHeld.2.2.1))).trans (hHeld.2.2.1)
                                          have HS3_ := (hb.cell (World.block_lt_of_cell? _ _ (hHeld.2.2.2.1))).trans (hHeld.2.2.2.1)
                                          have HS4_ := (hb.cell (World.block_lt_of_cell? _ _ (hHeld.2.2.2.2.1))).trans (hHeld.2.2.2.2.1)
                                          have HS5_ := (hb.cell (World.block_lt_of_cell? _ _ (hHeld.2.2.2.2.2.1))).trans (hHeld.2.2.2.2.2.1)
                                          have n0_ := Aside0.mk (Kd.R_below (Kd.R_elderB (by (with_reducible repeat (first | apply Kd.R_alloc | apply Kd.R_drewN | apply Kd.R_drew)); exact HO_3.out) gb166 (Nat.le_of_eq hg.symm)) hb)
                                          have n1_ := Aside0.mk (Kd.R_below (by (with_reducible repeat (first | apply Kd.R_alloc | apply Kd.R_drewN | apply Kd.R_drew)); exact HO_4.out) hb)
                                          have n2_ := Aside0.mk (Kd.R_below (by (with_reducible repeat (first | apply Kd.R_alloc | apply Kd.R_drewN | apply Kd.R_drew)); exact HO162.out) hb)
                                          have n3_ := Aside0.mk (below_step (by repeat (first | (with_reducible first | exact HB.out | apply below_alloc | apply pw_below_drewN | apply below_drew1) | exact HB.out)) hb)
                                          have n4_ := Aside0.mk (hbox)
                                          have n5_ := Aside0.mk ((by rw [hg]; exact (below_size (by repeat (first | (with_reducible first | exact HB.out | apply below_alloc | apply pw_below_drewN | apply below_drew1) | exact HB.out))) : w.heap.size ≤ gb166))
                                          have n6_ := Aside0.mk ((by rw [hg]; exact (below_size (by repeat (first | (with_reducible first | exact HB.out | apply below_alloc | apply pw_below_drewN | apply below_drew1) | exact HB.out))) : w.heap.size ≤ gb166))
                                          clear HO_3
                                          clear HO_4
                                          clear HO162
                                          clear HB
                                          have HO_3 := n0_
                                          have HO_4 := n1_
                                          have HO162 := n2_
                                          have HB := n3_
                                          have BK166 := n4_
                                          have GW166 := n5_
                                          have GE166 := n6_
                                          clear n0_ n1_ n2_ n3_ n4_ n5_ n6_
                                          clear hb hbox hg
                                          refine hK.out _ _ ⟨HS0_, HS1_, HS2_, HS3_, HS4_, HS5_, ((HB.out.cell (World.block_lt_of_cell? w _ hw163_0)).trans hw163_0), ((HB.out.cell (World.block_lt_of_cell? w _ hw163_1)).trans hw163_1), ((HB.out.cell (World.block_lt_of_cell? w _ hw163_2)).trans hw163_2), ((HB.out.cell (World.block_lt_of_cell? w _ hw163_3)).trans hw163_3)⟩ (fun hHeld => ?_)
                                          clear hK K
                                          refine norm_ (a' := ?_) ?_ ?_
                                          rotate_left
                                          · show Act.put _ (some 8) _ = _
                                            simp only [Act.put, List.setIfInBounds_toArray, List.set_cons_zero, List.set_cons_succ, i64_w, i32_w, Go.IntKind.wrap_u32]
                                            rfl
                                          exact norm_ (by first | (simp only [putAll, Act.put, List.setIfInBounds_toArray, List.set_cons_zero, List.set_cons_succ]; done) | (simp only [putAll, Act.put, List.setIfInBounds_toArray, List.set_cons_zero, List.set_cons_succ]; rfl)) (hJ10_20 (.slice (some adz_v161) y160.length co45, adz_v161, gb166) _ ⟨hHeld, (by (with_reducible repeat (first | apply Kd.R_alloc | apply Kd.R_drewN | apply Kd.R_drew)); exact HO162.out), (by (with_reducible repeat (first | apply Kd.R_alloc | apply Kd.R_drewN | apply Kd.R_drew)); exact Kd.R_mono HO_3.out (fun _ hk => hk.2)), (by (with_reducible repeat (first | apply Kd.R_alloc | apply Kd.R_drewN | apply Kd.R_drew)); exact HO_4.out), ⟨_, rfl⟩, (by (with_reducible repeat (first | refine blk_drewN ?_ _ | refine blk_drew ?_ | refine blk_alloc ?_ _)); exact BK166.out), GW166.out, GE166.out, (by repeat (first | (with_reducible first | exact HB.out | apply below_alloc | apply pw_below_drewN | apply below_drew1 | refine below_set ?_ GE166.out) | exact HB.out))⟩)
                                    · skip
                                      rintro gb166 w42 ⟨hS_, h0_, h1_, h2_, h3_, h4_, h5_⟩
                                      have n0_ : Aside0 (Kd.R k47 47 w42 w.heap.size (fun k_ => k_ ≠ gb166) (.slice (some ad159) x3_1.length co40) x3_1) := ⟨h0_⟩
                                      have n1_ : Aside0 (Kd.R (Kd.int .i64) 3 w42 w.heap.size (fun _ => True) (.slice (some ad146) x4_1.length co38) x4_1) := ⟨h1_⟩
                                      have n2_ : Aside0 (w42.heap[gb166]? = some (.cells #[.int .i64 0, .bool false, .bool false, .int .u64 0, .int .i64 0] 47 (0, 0))) := ⟨h2_⟩
                                      have n3_ : Aside0 (w.heap.size ≤ gb166) := ⟨h3_⟩
                                      have n4_ : Aside0 (w.heap.size ≤ gb166) := ⟨h4_⟩
                                      have n5_ : Aside0 (Below w.heap.size w w42) := ⟨h5_⟩
                                      clear HO_3
                                      clear HO_4
                                      clear HB
                                      clear h0_ h1_ h2_ h3_ h4_ h5_
                                      have HO_3 := n0_
                                      have HO_4 := n1_
                                      have BK166 := n2_
                                      have GW166 := n3_
                                      have GE166 := n4_
                                      have HB := n5_
                                      clear n0_ n1_ n2_ n3_ n4_ n5_
                                      have hHeld : w42.cell? (ad146.add (t145).toNat) = some (.int .i64 (rd x4_1 t145)) ∧ w42.cell? (ad159.add (((ji31)).toNat * 5)) = some (.int .i64 ((rd_T47 x3_1 (ji31)).f0)) ∧ w42.cell? ⟨(ad159.add (((ji31)).toNat * 5)).block, (ad159.add (((ji31)).toNat * 5)).off + 1, none⟩ = some (.bool ((rd_T47 x3_1 (ji31)).f1)) ∧ w42.cell? ⟨(ad159.add (((ji31)).toNat * 5)).block, (ad159.add (((ji31)).toNat * 5)).off + 2, none⟩ = some (.bool ((rd_T47 x3_1 (ji31)).f2)) ∧ w42.cell? ⟨(ad159.add (((ji31)).toNat * 5)).block, (ad159.add (((ji31)).toNat * 5)).off + 3, none⟩ = some (.int .u64 ((rd_T47 x3_1 (ji31)).f3)) ∧ w42.cell? ⟨(ad159.add (((ji31)).toNat * 5)).block, (ad159.add (((ji31)).toNat * 5)).off + 4, none⟩ = some (.int .i64 ((rd_T47 x3_1 (ji31)).f4)) ∧ w42.cell? (ad144.add ((x5_1).toNat * 4)) = some (.int .i64 ((rd_T61 l0 x5_1).f0)) ∧ w42.cell? ⟨(ad144.add ((x5_1).toNat * 4)).block, (ad144.add ((x5_1).toNat * 4)).off + 1, none⟩ = some (.int .i64 ((rd_T61 l0 x5_1).f1)) ∧ w42.cell? ⟨(ad144.add ((x5_1).toNat * 4)).block, (ad144.add ((x5_1).toNat * 4)).off + 2, none⟩ = some (.bool ((rd_T61 l0 x5_1).f2)) ∧ w42.cell? ⟨(ad144.add ((x5_1).toNat * 4)).block, (ad144.add ((x5_1).toNat * 4)).off + 3, none⟩ = some (.int .u64 ((rd_T61 l0 x5_1).f3)) := hS_
                                      refine norm_ (a' := ?_) ?_ ?_
                                      rotate_left
                                      · simp only [putAll, Act.put, List.setIfInBounds_toArray, List.set_cons_zero, List.set_cons_succ]
                                        rfl
                                      refine one_ (i := 10) (N := some 61) #[true, true, true, true, true, true, true, true, true, true, true, true, true, true, true, true, true, false, false, false, true, false] rfl rfl (one_of HT_.out (by kernel_rfl)) (by decide) (fun K hK => ?_)
                                      refine Kd.R_lit_step (Kd.int .i64) _ 43 ?hg (N := 61) ?hd (xs := ([1, 1, 2, 6] : List Int)) (inner := [.int .i64 1, .int .i64 1, .int .i64 2, .int .i64 6]) (ok := fun _ => True) (okp := fun _ => True) ?hr ?hp (fun _ hk => hk) trivial (Below.refl _ _) (Nat.le_refl _) (by simp) ?_; (case hd => rfl); (case hg => rfl); (case hr => first | (go_simp; done) | (go_simp; rfl)); (case hp => exact (Reps.one (show Kd.M (Kd.int .i64) _ _ _ 1 [.int .i64 1] from rfl) (Reps.one (show Kd.M (Kd.int .i64) _ _ _ 1 [.int .i64 1] from rfl) (Reps.one (show Kd.M (Kd.int .i64) _ _ _ 2 [.int .i64 2] from rfl) (Reps.one (show Kd.M (Kd.int .i64) _ _ _ 6 [.int .i64 6] from rfl) (Reps.none _ _))))))
                                      intro v161 w43 ho44 hb hg_ hnew_
                                      have HS0_ := (hb.cell (World.block_lt_of_cell? _ _ (hHeld.1))).trans (hHeld.1)
                                      have HS1_ := (hb.cell (World.block_lt_of_cell? _ _ (hHeld.2.1))).trans (hHeld.2.1)
                                      have HS2_ := (hb.cell (World.block_lt_of_cell? _ _ (hHeld.2.2.1))).trans (hHeld.2.2.1)
                                      have HS3_ := (hb.cell (World.block_lt_of_cell? _ _ (hHeld.2.2.2.1))).trans (hHeld.2.2.2.1)
                                      have HS4_ := (hb.cell (World.block_lt_of_cell? _ _ (hHeld.2.2.2.2.1))).trans (hHeld.2.2.2.2.1)
                                      have HS5_ := (hb.cell (World.block_lt_of_cell? _ _ (hHeld.2.2.2.2.2.1))).trans (hHeld.2.2.2.2.2.1)
                                      clear hg_ hnew_
                                      (first | rw [← Ny160.out] at ho44 | (simp only [Int.reduceToNat] at ho44; rw [← Ny160.out] at ho44))
                                      have n0_ := Aside0.mk (Kd.R_below (by (with_reducible repeat (first | apply Kd.R_alloc | apply Kd.R_drewN | apply Kd.R_drew)); exact HO_3.out) hb)
                                      have n1_ := Aside0.mk (Kd.R_below (by (with_reducible repeat (first | apply Kd.R_alloc | apply Kd.R_drewN | apply Kd.R_drew)); exact HO_4.out) hb)
                                      have n2_ := Aside0.mk (Kd.R_lower ho44 (below_size (by repeat (first | (with_reducible first | exact HB.out | apply below_alloc | apply pw_below_drewN | apply below_drew1 | refine below_set ?_ GE166.out) | exact HB.out))))
                                      have n3_ := Aside0.mk (blk_below (g := gb166) (o := .cells #[.int .i64 0, .bool false, .bool false, .int .u64 0, .int .i64 0] 47 (0, 0)) (by (with_reducible repeat (first | refine blk_drewN ?_ _ | refine blk_drew ?_ | refine blk_alloc ?_ _)); exact BK166.out) hb)
                                      have n4_ := Aside0.mk (below_step (by repeat (first | (with_reducible first | exact HB.out | apply below_alloc | apply pw_below_drewN | apply below_drew1 | refine below_set ?_ GE166.out) | exact HB.out)) hb)
                                      clear HO_3
                                      clear HO_4
                                      clear BK166
                                      clear HB
                                      have HO_3 := n0_
                                      have HO_4 := n1_
                                      have HO162 := n2_
                                      have BK166 := n3_
                                      have HB := n4_
                                      clear n0_ n1_ n2_ n3_ n4_
                                      clear hb ho44
                                      obtain ⟨Ao45, co45, eo45⟩ := Kd.R_slice HO162.out
                                      subst eo45
                                      obtain ⟨ado45, fo45, _⟩ := Kd.at_int (Kd.R_reads' HO162.out).2.2 0 (by decide) (by rw [Ny160.out]; simp)
                                      cases fo45
                                      refine hK.out _ _ ⟨HS0_, HS1_, HS2_, HS3_, HS4_, HS5_, ((HB.out.cell (World.block_lt_of_cell? w _ hw163_0)).trans hw163_0), ((HB.out.cell (World.block_lt_of_cell? w _ hw163_1)).trans hw163_1), ((HB.out.cell (World.block_lt_of_cell? w _ hw163_2)).trans hw163_2), ((HB.out.cell (World.block_lt_of_cell? w _ hw163_3)).trans hw163_3)⟩ (fun hHeld => ?_)
                                      clear hK K
                                      refine norm_ (a' := ?_) ?_ ?_
                                      rotate_left
                                      · show Act.put _ (some 61) _ = _
                                        simp only [Act.put, List.setIfInBounds_toArray, List.set_cons_zero, List.set_cons_succ, i64_w, i32_w, Go.IntKind.wrap_u32]
                                        rfl
                                      refine pure_ (i := 17) (N := some 68) (v := ?_) (a' := ?_) #[true, true, true, true, true, true, true, true, true, true, true, true, true, true, true, true, true, true, false, false, true, false] rfl rfl (any_of HT_.out (by kernel_rfl)) (fun _ _ _ h => h) (Or.inl ⟨by rfl, ?_⟩) ?_ ?_
                                      rotate_left
                                      · intro w'
                                        go_simp
                                        with_reducible rfl
                                      rotate_left
                                      · simp only [Act.put, List.setIfInBounds_toArray, List.set_cons_zero, List.set_cons_succ, i64_w, i32_w, Go.IntKind.wrap_u32]
                                        rfl
                                      exact norm_ (by first | (simp only [putAll, Act.put, List.setIfInBounds_toArray, List.set_cons_zero, List.set_cons_succ]; done) | (simp only [putAll, Act.put, List.setIfInBounds_toArray, List.set_cons_zero, List.set_cons_succ]; rfl)) (hJ10_16_20 (.slice (some ado45) y160.length co45, ado45, gb166) _ ⟨hHeld, (by (with_reducible repeat (first | apply Kd.R_alloc | apply Kd.R_drewN | apply Kd.R_drew)); exact HO162.out), (by (with_reducible repeat (first | apply Kd.R_alloc | apply Kd.R_drewN | apply Kd.R_drew)); exact HO_3.out), (by (with_reducible repeat (first | apply Kd.R_alloc | apply Kd.R_drewN | apply Kd.R_drew)); exact HO_4.out), ⟨_, rfl⟩, (by (with_reducible repeat (first | refine blk_drewN ?_ _ | refine blk_drew ?_ | refine blk_alloc ?_ _)); exact BK166.out), GW166.out, GE166.out, (by repeat (first | (with_reducible first | exact HB.out | apply below_alloc | apply pw_below_drewN | apply below_drew1 | refine below_set ?_ GE166.out) | exact HB.out))⟩)
                                  · skip
                                    rintro ⟨v161, adz_v161, gb166⟩ w45 ⟨hS_, h0_, h1_, h2_, h3_, h4_, h5_, h6_, h7_⟩
                                    have n0_ : Aside0 (Kd.R (Kd.int .i64) 43 w45 w.heap.size (fun _ => True) v161 y160) := ⟨h0_⟩
                                    have n1_ : Aside0 (Kd.R k47 47 w45 w.heap.size (fun k_ => k_ ≠ gb166) (.slice (some ad159) x3_1.length co40) x3_1) := ⟨h1_⟩
                                    have n2_ : Aside0 (Kd.R (Kd.int .i64) 3 w45 w.heap.size (fun _ => True) (.slice (some ad146) x4_1.length co38) x4_1) := ⟨h2_⟩
                                    have n3_ : Aside0 (∃ c_, (v161 : Value) = .slice (some adz_v161) y160.length c_) := ⟨h3_⟩
                                    have n4_ : Aside0 (w45.heap[gb166]? = some (.cells #[.int .i64 0, .bool false, .bool false, .int .u64 0, .int .i64 0] 47 (0, 0))) := ⟨h4_⟩
                                    have n5_ : Aside0 (w.heap.size ≤ gb166) := ⟨h5_⟩
                                    have n6_ : Aside0 (w.heap.size ≤ gb166) := ⟨h6_⟩
                                    have n7_ : Aside0 (Below w.heap.size w w45) := ⟨h7_⟩
                                    clear HO_3
                                    clear HO_4
                                    clear HB
                                    clear h0_ h1_ h2_ h3_ h4_ h5_ h6_ h7_
                                    have HO162 := n0_
                                    have HO_3 := n1_
                                    have HO_4 := n2_
                                    have HA_HO162 := n3_
                                    have BK166 := n4_
                                    have GW166 := n5_
                                    have GE166 := n6_
                                    have HB := n7_
                                    clear n0_ n1_ n2_ n3_ n4_ n5_ n6_ n7_
                                    have hHeld : w45.cell? (ad146.add (t145).toNat) = some (.int .i64 (rd x4_1 t145)) ∧ w45.cell? (ad159.add (((ji31)).toNat * 5)) = some (.int .i64 ((rd_T47 x3_1 (ji31)).f0)) ∧ w45.cell? ⟨(ad159.add (((ji31)).toNat * 5)).block, (ad159.add (((ji31)).toNat * 5)).off + 1, none⟩ = some (.bool ((rd_T47 x3_1 (ji31)).f1)) ∧ w45.cell? ⟨(ad159.add (((ji31)).toNat * 5)).block, (ad159.add (((ji31)).toNat * 5)).off + 2, none⟩ = some (.bool ((rd_T47 x3_1 (ji31)).f2)) ∧ w45.cell? ⟨(ad159.add (((ji31)).toNat * 5)).block, (ad159.add (((ji31)).toNat * 5)).off + 3, none⟩ = some (.int .u64 ((rd_T47 x3_1 (ji31)).f3)) ∧ w45.cell? ⟨(ad159.add (((ji31)).toNat * 5)).block, (ad159.add (((ji31)).toNat * 5)).off + 4, none⟩ = some (.int .i64 ((rd_T47 x3_1 (ji31)).f4)) ∧ w45.cell? (ad144.add ((x5_1).toNat * 4)) = some (.int .i64 ((rd_T61 l0 x5_1).f0)) ∧ w45.cell? ⟨(ad144.add ((x5_1).toNat * 4)).block, (ad144.add ((x5_1).toNat * 4)).off + 1, none⟩ = some (.int .i64 ((rd_T61 l0 x5_1).f1)) ∧ w45.cell? ⟨(ad144.add ((x5_1).toNat * 4)).block, (ad144.add ((x5_1).toNat * 4)).off + 2, none⟩ = some (.bool ((rd_T61 l0 x5_1).f2)) ∧ w45.cell? ⟨(ad144.add ((x5_1).toNat * 4)).block, (ad144.add ((x5_1).toNat * 4)).off + 3, none⟩ = some (.int .u64 ((rd_T61 l0 x5_1).f3)) := hS_
                                    obtain ⟨co46, eo46⟩ := HA_HO162.out
                                    clear HA_HO162
                                    subst eo46
                                    refine norm_ (a' := ?_) ?_ ?_
                                    rotate_left
                                    · simp only [putAll, Act.put, List.setIfInBounds_toArray, List.set_cons_zero, List.set_cons_succ]
                                      rfl
                                    refine one_ (i := 16) (N := some 67) #[true, true, true, true, true, true, true, true, true, true, true, true, true, true, true, true, true, false, false, false, true, false] rfl rfl (one_of HT_.out (by kernel_rfl)) (by decide) (fun K hK => ?_)
                                    refine goes_ Try.func18 (by kernel_rfl) rfl #[.int .i64 ((rd_T61 l0 x5_1).f1), .int .i64 4] (by rfl) rfl rfl (by (try simp only [List.map_toArray, List.map_cons, List.map_nil]); first | done | rfl | (simp only [List.length_drop, List.length_take]; rfl)) ?_
                                    with_reducible refine (hatstandlaw14_pick.calls ((rd_T61 l0 x5_1).f1) 4 t164 _ A34.out).mono ?_
                                    rintro e w' ⟨rfl, ⟨nd, rfl⟩⟩
                                    refine ⟨_, rfl, ?_⟩
                                    refine hK.out _ _ ⟨hHeld.1, hHeld.2.1, hHeld.2.2.1, hHeld.2.2.2.1, hHeld.2.2.2.2.1, hHeld.2.2.2.2.2.1, ((HB.out.cell (World.block_lt_of_cell? w _ hw163_0)).trans hw163_0), ((HB.out.cell (World.block_lt_of_cell? w _ hw163_1)).trans hw163_1), ((HB.out.cell (World.block_lt_of_cell? w _ hw163_2)).trans hw163_2), ((HB.out.cell (World.block_lt_of_cell? w _ hw163_3)).trans hw163_3)⟩ (fun hHeld => ?_)
                                    clear hK K
                                    refine norm_ (a' := ?_) ?_ ?_
                                    rotate_left
                                    · show Act.put _ (some 67) _ = _
                                      simp only [Act.put, List.setIfInBounds_toArray, List.set_cons_zero, List.set_cons_succ, i64_w, i32_w, Go.IntKind.wrap_u32]
                                      rfl
                                    refine pure_ (i := 17) (N := some 68) (v := ?_) (a' := ?_) #[true, true, true, true, true, true, true, true, true, true, true, true, true, true, true, true, true, true, false, false, true, false] rfl rfl (any_of HT_.out (by kernel_rfl)) (fun _ _ _ h => h) (Or.inl ⟨by rfl, ?_⟩) ?_ ?_
                                    rotate_left
                                    · intro w'
                                      go_simp
                                      with_reducible rfl
                                    rotate_left
                                    · simp only [Act.put, List.setIfInBounds_toArray, List.set_cons_zero, List.set_cons_succ, i64_w, i32_w, Go.IntKind.wrap_u32]
                                      rfl
                                    exact norm_ (by first | (simp only [putAll, Act.put, List.setIfInBounds_toArray, List.set_cons_zero, List.set_cons_succ]; done) | (simp only [putAll, Act.put, List.setIfInBounds_toArray, List.set_cons_zero, List.set_cons_succ]; rfl)) (hJ10_16_20 (.slice (some adz_v161) y160.length co46, adz_v161, gb166) _ ⟨hHeld, (by (with_reducible repeat (first | apply Kd.R_alloc | apply Kd.R_drewN | apply Kd.R_drew)); exact HO162.out), (by (with_reducible repeat (first | apply Kd.R_alloc | apply Kd.R_drewN | apply Kd.R_drew)); exact HO_3.out), (by (with_reducible repeat (first | apply Kd.R_alloc | apply Kd.R_drewN | apply Kd.R_drew)); exact HO_4.out), ⟨_, rfl⟩, (by (with_reducible repeat (first | refine blk_drewN ?_ _ | refine blk_drew ?_ | refine blk_alloc ?_ _)); exact BK166.out), GW166.out, GE166.out, (by repeat (first | (with_reducible first | exact HB.out | apply below_alloc | apply pw_below_drewN | apply below_drew1 | refine below_set ?_ GE166.out) | exact HB.out))⟩)
                                · skip
                                  rintro ⟨v161, adz_v161⟩ w44 ⟨hS_, h0_, h1_, h2_, h3_, h4_⟩
                                  have n0_ : Aside0 (Kd.R (Kd.int .i64) 43 w44 w.heap.size (fun _ => True) v161 y160) := ⟨h0_⟩
                                  have n1_ : Aside0 (Kd.R k47 47 w44 w.heap.size (fun _ => True) (.slice (some ad159) x3_1.length co40) x3_1) := ⟨h1_⟩
                                  have n2_ : Aside0 (Kd.R (Kd.int .i64) 3 w44 w.heap.size (fun _ => True) (.slice (some ad146) x4_1.length co38) x4_1) := ⟨h2_⟩
                                  have n3_ : Aside0 (∃ c_, (v161 : Value) = .slice (some adz_v161) y160.length c_) := ⟨h3_⟩
                                  have n4_ : Aside0 (Below w.heap.size w w44) := ⟨h4_⟩
                                  clear HO_3
                                  clear HO_4
                                  clear HB
                                  clear h0_ h1_ h2_ h3_ h4_
                                  have HO162 := n0_
                                  have HO_3 := n1_
                                  have HO_4 := n2_
                                  have HA_HO162 := n3_
                                  have HB := n4_
                                  clear n0_ n1_ n2_ n3_ n4_
                                  have hHeld : w44.cell? (ad146.add (t145).toNat) = some (.int .i64 (rd x4_1 t145)) ∧ w44.cell? (ad159.add (((ji31)).toNat * 5)) = some (.int .i64 ((rd_T47 x3_1 (ji31)).f0)) ∧ w44.cell? ⟨(ad159.add (((ji31)).toNat * 5)).block, (ad159.add (((ji31)).toNat * 5)).off + 1, none⟩ = some (.bool ((rd_T47 x3_1 (ji31)).f1)) ∧ w44.cell? ⟨(ad159.add (((ji31)).toNat * 5)).block, (ad159.add (((ji31)).toNat * 5)).off + 2, none⟩ = some (.bool ((rd_T47 x3_1 (ji31)).f2)) ∧ w44.cell? ⟨(ad159.add (((ji31)).toNat * 5)).block, (ad159.add (((ji31)).toNat * 5)).off + 3, none⟩ = some (.int .u64 ((rd_T47 x3_1 (ji31)).f3)) ∧ w44.cell? ⟨(ad159.add (((ji31)).toNat * 5)).block, (ad159.add (((ji31)).toNat * 5)).off + 4, none⟩ = some (.int .i64 ((rd_T47 x3_1 (ji31)).f4)) ∧ w44.cell? (ad144.add ((x5_1).toNat * 4)) = some (.int .i64 ((rd_T61 l0 x5_1).f0)) ∧ w44.cell? ⟨(ad144.add ((x5_1).toNat * 4)).block, (ad144.add ((x5_1).toNat * 4)).off + 1, none⟩ = some (.int .i64 ((rd_T61 l0 x5_1).f1)) ∧ w44.cell? ⟨(ad144.add ((x5_1).toNat * 4)).block, (ad144.add ((x5_1).toNat * 4)).off + 2, none⟩ = some (.bool ((rd_T61 l0 x5_1).f2)) ∧ w44.cell? ⟨(ad144.add ((x5_1).toNat * 4)).block, (ad144.add ((x5_1).toNat * 4)).off + 3, none⟩ = some (.int .u64 ((rd_T61 l0 x5_1).f3)) := hS_
                                  obtain ⟨co45, eo45⟩ := HA_HO162.out
                                  clear HA_HO162
                                  subst eo45
                                  refine norm_ (a' := ?_) ?_ ?_
                                  rotate_left
                                  · simp only [putAll, Act.put, List.setIfInBounds_toArray, List.set_cons_zero, List.set_cons_succ]
                                    rfl
                                  refine two_ (i := 18) (j := 20) (Ni := some 69) (Nj := some 8) #[true, true, true, true, true, true, true, true, true, true, true, true, true, true, true, true, true, true, true, false, false, false] #[true, true, true, true, true, true, true, true, true, true, true, true, true, true, true, true, true, true, false, false, true, false] rfl rfl rfl rfl (two_of HT_.out (by kernel_rfl)) (by decide) (by decide) (fun K hK => ?_) (fun K hK => ?_)
                                  · skip
                                    (have p165 : 0 ≤ (t164 : Int) := of_decide_eq_true (by first | (with_reducible assumption) | assumption); have q165 : t164 < (y160.length : Int) := of_decide_eq_true (by first | (with_reducible assumption) | assumption); obtain ⟨ad165, e165, hx165_0⟩ := Kd.at_int (Kd.R_reads' HO162.out).2.2 t164 p165 q165; obtain rfl : adz_v161 = ad165 := (by injection e165))
                                    refine value_ (w1 := ?_) (v := ?_) (by rfl) rfl ?_ ?_
                                    rotate_left 2
                                    · go_simp
                                      constructor
                                      · rfl
                                      · rfl
                                    clear hx165_0
                                    refine hK.out _ _ ⟨hHeld.1, hHeld.2.1, hHeld.2.2.1, hHeld.2.2.2.1, hHeld.2.2.2.2.1, hHeld.2.2.2.2.2.1, ((HB.out.cell (World.block_lt_of_cell? w _ hw163_0)).trans hw163_0), ((HB.out.cell (World.block_lt_of_cell? w _ hw163_1)).trans hw163_1), ((HB.out.cell (World.block_lt_of_cell? w _ hw163_2)).trans hw163_2), ((HB.out.cell (World.block_lt_of_cell? w _ hw163_3)).trans hw163_3)⟩ (fun hHeld => ?_)
                                    clear hK K
                                    refine norm_ (a' := ?_) ?_ ?_
                                    rotate_left
                                    · show Act.put _ (some 69) _ = _
                                      simp only [Act.put, List.setIfInBounds_toArray, List.set_cons_zero, List.set_cons_succ, i64_w, i32_w, Go.IntKind.wrap_u32]
                                      rfl
                                    refine pure_ (i := 19) (N := some 70) (v := ?_) (a' := ?_) #[true, true, true, true, true, true, true, true, true, true, true, true, true, true, true, true, true, true, true, true, false, false] rfl rfl (any_of HT_.out (by kernel_rfl)) (fun _ _ _ h => h) (Or.inl ⟨by rfl, ?_⟩) ?_ ?_
                                    rotate_left
                                    · intro w'
                                      go_simp
                                      with_reducible rfl
                                    rotate_left
                                    · simp only [Act.put, List.setIfInBounds_toArray, List.set_cons_zero, List.set_cons_succ, i64_w, i32_w, Go.IntKind.wrap_u32]
                                      rfl
                                    exact norm_ (by first | (simp only [putAll, Act.put, List.setIfInBounds_toArray, List.set_cons_zero, List.set_cons_succ]; done) | (simp only [putAll, Act.put, List.setIfInBounds_toArray, List.set_cons_zero, List.set_cons_succ]; rfl)) (hJ10_16_18 (.slice (some adz_v161) y160.length co45, adz_v161) _ ⟨hHeld, (by (with_reducible repeat (first | apply Kd.R_alloc | apply Kd.R_drewN | apply Kd.R_drew)); exact HO162.out), (by (with_reducible repeat (first | apply Kd.R_alloc | apply Kd.R_drewN | apply Kd.R_drew)); exact HO_3.out), (by (with_reducible repeat (first | apply Kd.R_alloc | apply Kd.R_drewN | apply Kd.R_drew)); exact HO_4.out), ⟨_, rfl⟩, (by repeat (first | (with_reducible first | exact HB.out | apply below_alloc | apply pw_below_drewN | apply below_drew1) | exact HB.out))⟩)
                                  · skip
                                    refine box_step ?hg (N := 8) ?hd (cs := #[.int .i64 0, .bool false, .bool false, .int .u64 0, .int .i64 0]) (t := 47) ?hr ?_; (case hd => rfl); (case hg => rfl); (case hr => first | (go_simp; done) | (go_simp; rfl))
                                    intro gb166 hg w46 hbox hb
                                    have HS0_ := (hb.cell (World.block_lt_of_cell? _ _ (hHeld.1))).trans (hHeld.1)
                                    have HS1_ := (hb.cell (World.block_lt_of_cell? _ _ (hHeld.2.1))).trans (hHeld.2.1)
                                    have HS2_ := (hb.cell (World.block_lt_of_cell? _ _ (hHeld.2.2.1))).trans (hHeld.2.2.1)
                                    have HS3_ := (hb.cell (World.block_lt_of_cell? _ _ (hHeld.2.2.2.1))).trans (hHeld.2.2.2.1)
                                    have HS4_ := (hb.cell (World.block_lt_of_cell? _ _ (hHeld.2.2.2.2.1))).trans (hHeld.2.2.2.2.1)
                                    have HS5_ := (hb.cell (World.block_lt_of_cell? _ _ (hHeld.2.2.2.2.2.1))).trans (hHeld.2.2.2.2.2.1)
                                    have n0_ := Aside0.mk (Kd.R_below (Kd.R_elderB (by (with_reducible repeat (first | apply Kd.R_alloc | apply Kd.R_drewN | apply Kd.R_drew)); exact HO_3.out) gb166 (Nat.le_of_eq hg.symm)) hb)
                                    have n1_ := Aside0.mk (Kd.R_below (by (with_reducible repeat (first | apply Kd.R_alloc | apply Kd.R_drewN | apply Kd.R_drew)); exact HO_4.out) hb)
                                    have n2_ := Aside0.mk (Kd.R_below (by (with_reducible repeat (first | apply Kd.R_alloc | apply Kd.R_drewN | apply Kd.R_drew)); exact HO162.out) hb)
                                    have n3_ := Aside0.mk (below_step (by repeat (first | (with_reducible first | exact HB.out | apply below_alloc | apply pw_below_drewN | apply below_drew1) | exact HB.out)) hb)
                                    have n4_ := Aside0.mk (hbox)
                                    have n5_ := Aside0.mk ((by rw [hg]; exact (below_size (by repeat (first | (with_reducible first | exact HB.out | apply below_alloc | apply pw_below_drewN | apply below_drew1) | exact HB.out))) : w.heap.size ≤ gb166))
                                    have n6_ := Aside0.mk ((by rw [hg]; exact (below_size (by repeat (first | (with_reducible first | exact HB.out | apply below_alloc | apply pw_below_drewN | apply below_drew1) | exact HB.out))) : w.heap.size ≤ gb166))
                                    clear HO_3
                                    clear HO_4
                                    clear HO162
                                    clear HB
                                    have HO_3 := n0_
                                    have HO_4 := n1_
                                    have HO162 := n2_
                                    have HB := n3_
                                    have BK166 := n4_
                                    have GW166 := n5_
                                    have GE166 := n6_
                                    clear n0_ n1_ n2_ n3_ n4_ n5_ n6_
                                    clear hb hbox hg
                                    refine hK.out _ _ ⟨HS0_, HS1_, HS2_, HS3_, HS4_, HS5_, ((HB.out.cell (World.block_lt_of_cell? w _ hw163_0)).trans hw163_0), ((HB.out.cell (World.block_lt_of_cell? w _ hw163_1)).trans hw163_1), ((HB.out.cell (World.block_lt_of_cell? w _ hw163_2)).trans hw163_2), ((HB.out.cell (World.block_lt_of_cell? w _ hw163_3)).trans hw163_3)⟩ (fun hHeld => ?_)
                                    clear hK K
                                    refine norm_ (a' := ?_) ?_ ?_
                                    rotate_left
                                    · show Act.put _ (some 8) _ = _
                                      simp only [Act.put, List.setIfInBounds_toArray, List.set_cons_zero, List.set_cons_succ, i64_w, i32_w, Go.IntKind.wrap_u32]
                                      rfl
                                    exact norm_ (by first | (simp only [putAll, Act.put, List.setIfInBounds_toArray, List.set_cons_zero, List.set_cons_succ]; done) | (simp only [putAll, Act.put, List.setIfInBounds_toArray, List.set_cons_zero, List.set_cons_succ]; rfl)) (hJ10_16_20 (.slice (some adz_v161) y160.length co45, adz_v161, gb166) _ ⟨hHeld, (by (with_reducible repeat (first | apply Kd.R_alloc | apply Kd.R_drewN | apply Kd.R_drew)); exact HO162.out), (by (with_reducible repeat (first | apply Kd.R_alloc | apply Kd.R_drewN | apply Kd.R_drew)); exact Kd.R_mono HO_3.out (fun _ hk => hk.2)), (by (with_reducible repeat (first | apply Kd.R_alloc | apply Kd.R_drewN | apply Kd.R_drew)); exact HO_4.out), ⟨_, rfl⟩, (by (with_reducible repeat (first | refine blk_drewN ?_ _ | refine blk_drew ?_ | refine blk_alloc ?_ _)); exact BK166.out), GW166.out, GE166.out, (by repeat (first | (with_reducible first | exact HB.out | apply below_alloc | apply pw_below_drewN | apply below_drew1 | refine below_set ?_ GE166.out) | exact HB.out))⟩)
                              · skip
                                rintro ⟨v161, adz_v161, gb166⟩ w45 ⟨hS_, h0_, h1_, h2_, h3_, h4_, h5_, h6_, h7_⟩
                                have n0_ : Aside0 (Kd.R (Kd.int .i64) 43 w45 w.heap.size (fun _ => True) v161 y160) := ⟨h0_⟩
                                have n1_ : Aside0 (Kd.R k47 47 w45 w.heap.size (fun k_ => k_ ≠ gb166) (.slice (some ad159) x3_1.length co40) x3_1) := ⟨h1_⟩
                                have n2_ : Aside0 (Kd.R (Kd.int .i64) 3 w45 w.heap.size (fun _ => True) (.slice (some ad146) x4_1.length co38) x4_1) := ⟨h2_⟩
                                have n3_ : Aside0 (∃ c_, (v161 : Value) = .slice (some adz_v161) y160.length c_) := ⟨h3_⟩
                                have n4_ : Aside0 (w45.heap[gb166]? = some (.cells #[.int .i64 0, .bool false, .bool false, .int .u64 0, .int .i64 0] 47 (0, 0))) := ⟨h4_⟩
                                have n5_ : Aside0 (w.heap.size ≤ gb166) := ⟨h5_⟩
                                have n6_ : Aside0 (w.heap.size ≤ gb166) := ⟨h6_⟩
                                have n7_ : Aside0 (Below w.heap.size w w45) := ⟨h7_⟩
                                clear HO_3
                                clear HO_4
                                clear HB
                                clear h0_ h1_ h2_ h3_ h4_ h5_ h6_ h7_
                                have HO162 := n0_
                                have HO_3 := n1_
                                have HO_4 := n2_
                                have HA_HO162 := n3_
                                have BK166 := n4_
                                have GW166 := n5_
                                have GE166 := n6_
                                have HB := n7_
                                clear n0_ n1_ n2_ n3_ n4_ n5_ n6_ n7_
                                have hHeld : w45.cell? (ad146.add (t145).toNat) = some (.int .i64 (rd x4_1 t145)) ∧ w45.cell? (ad159.add (((ji31)).toNat * 5)) = some (.int .i64 ((rd_T47 x3_1 (ji31)).f0)) ∧ w45.cell? ⟨(ad159.add (((ji31)).toNat * 5)).block, (ad159.add (((ji31)).toNat * 5)).off + 1, none⟩ = some (.bool ((rd_T47 x3_1 (ji31)).f1)) ∧ w45.cell? ⟨(ad159.add (((ji31)).toNat * 5)).block, (ad159.add (((ji31)).toNat * 5)).off + 2, none⟩ = some (.bool ((rd_T47 x3_1 (ji31)).f2)) ∧ w45.cell? ⟨(ad159.add (((ji31)).toNat * 5)).block, (ad159.add (((ji31)).toNat * 5)).off + 3, none⟩ = some (.int .u64 ((rd_T47 x3_1 (ji31)).f3)) ∧ w45.cell? ⟨(ad159.add (((ji31)).toNat * 5)).block, (ad159.add (((ji31)).toNat * 5)).off + 4, none⟩ = some (.int .i64 ((rd_T47 x3_1 (ji31)).f4)) ∧ w45.cell? (ad144.add ((x5_1).toNat * 4)) = some (.int .i64 ((rd_T61 l0 x5_1).f0)) ∧ w45.cell? ⟨(ad144.add ((x5_1).toNat * 4)).block, (ad144.add ((x5_1).toNat * 4)).off + 1, none⟩ = some (.int .i64 ((rd_T61 l0 x5_1).f1)) ∧ w45.cell? ⟨(ad144.add ((x5_1).toNat * 4)).block, (ad144.add ((x5_1).toNat * 4)).off + 2, none⟩ = some (.bool ((rd_T61 l0 x5_1).f2)) ∧ w45.cell? ⟨(ad144.add ((x5_1).toNat * 4)).block, (ad144.add ((x5_1).toNat * 4)).off + 3, none⟩ = some (.int .u64 ((rd_T61 l0 x5_1).f3)) := hS_
                                obtain ⟨co46, eo46⟩ := HA_HO162.out
                                clear HA_HO162
                                subst eo46
                                refine norm_ (a' := ?_) ?_ ?_
                                rotate_left
                                · simp only [putAll, Act.put, List.setIfInBounds_toArray, List.set_cons_zero, List.set_cons_succ]
                                  rfl
                                refine one_ (i := 18) (N := some 69) #[true, true, true, true, true, true, true, true, true, true, true, true, true, true, true, true, true, true, true, false, true, false] rfl rfl (one_of HT_.out (by kernel_rfl)) (by decide) (fun K hK => ?_)
                                (have p165 : 0 ≤ (t164 : Int) := of_decide_eq_true (by first | (with_reducible assumption) | assumption); have q165 : t164 < (y160.length : Int) := of_decide_eq_true (by first | (with_reducible assumption) | assumption); obtain ⟨ad165, e165, hx165_0⟩ := Kd.at_int (Kd.R_reads' HO162.out).2.2 t164 p165 q165; obtain rfl : adz_v161 = ad165 := (by injection e165))
                                refine value_ (w1 := ?_) (v := ?_) (by rfl) rfl ?_ ?_
                                rotate_left 2
                                · go_simp
                                  constructor
                                  · rfl
                                  · rfl
                                clear hx165_0
                                refine hK.out _ _ ⟨hHeld.1, hHeld.2.1, hHeld.2.2.1, hHeld.2.2.2.1, hHeld.2.2.2.2.1, hHeld.2.2.2.2.2.1, ((HB.out.cell (World.block_lt_of_cell? w _ hw163_0)).trans hw163_0), ((HB.out.cell (World.block_lt_of_cell? w _ hw163_1)).trans hw163_1), ((HB.out.cell (World.block_lt_of_cell? w _ hw163_2)).trans hw163_2), ((HB.out.cell (World.block_lt_of_cell? w _ hw163_3)).trans hw163_3)⟩ (fun hHeld => ?_)
                                clear hK K
                                refine norm_ (a' := ?_) ?_ ?_
                                rotate_left
                                · show Act.put _ (some 69) _ = _
                                  simp only [Act.put, List.setIfInBounds_toArray, List.set_cons_zero, List.set_cons_succ, i64_w, i32_w, Go.IntKind.wrap_u32]
                                  rfl
                                refine pure_ (i := 19) (N := some 70) (v := ?_) (a' := ?_) #[true, true, true, true, true, true, true, true, true, true, true, true, true, true, true, true, true, true, true, true, true, false] rfl rfl (any_of HT_.out (by kernel_rfl)) (fun _ _ _ h => h) (Or.inl ⟨by rfl, ?_⟩) ?_ ?_
                                rotate_left
                                · intro w'
                                  go_simp
                                  with_reducible rfl
                                rotate_left
                                · simp only [Act.put, List.setIfInBounds_toArray, List.set_cons_zero, List.set_cons_succ, i64_w, i32_w, Go.IntKind.wrap_u32]
                                  rfl
                                exact norm_ (by first | (simp only [putAll, Act.put, List.setIfInBounds_toArray, List.set_cons_zero, List.set_cons_succ]; done) | (simp only [putAll, Act.put, List.setIfInBounds_toArray, List.set_cons_zero, List.set_cons_succ]; rfl)) (hJ10_16_18_20 (.slice (some adz_v161) y160.length co46, adz_v161, gb166) _ ⟨hHeld, (by (with_reducible repeat (first | apply Kd.R_alloc | apply Kd.R_drewN | apply Kd.R_drew)); exact HO162.out), (by (with_reducible repeat (first | apply Kd.R_alloc | apply Kd.R_drewN | apply Kd.R_drew)); exact HO_3.out), (by (with_reducible repeat (first | apply Kd.R_alloc | apply Kd.R_drewN | apply Kd.R_drew)); exact HO_4.out), ⟨_, rfl⟩, (by (with_reducible repeat (first | refine blk_drewN ?_ _ | refine blk_drew ?_ | refine blk_alloc ?_ _)); exact BK166.out), GW166.out, GE166.out, (by repeat (first | (with_reducible first | exact HB.out | apply below_alloc | apply pw_below_drewN | apply below_drew1 | refine below_set ?_ GE166.out) | exact HB.out))⟩)
                            · skip
                              rintro ⟨v161, adz_v161⟩ w44 ⟨hS_, h0_, h1_, h2_, h3_, h4_⟩
                              have n0_ : Aside0 (Kd.R (Kd.int .i64) 43 w44 w.heap.size (fun _ => True) v161 y160) := ⟨h0_⟩
                              have n1_ : Aside0 (Kd.R k47 47 w44 w.heap.size (fun _ => True) (.slice (some ad159) x3_1.length co40) x3_1) := ⟨h1_⟩
                              have n2_ : Aside0 (Kd.R (Kd.int .i64) 3 w44 w.heap.size (fun _ => True) (.slice (some ad146) x4_1.length co38) x4_1) := ⟨h2_⟩
                              have n3_ : Aside0 (∃ c_, (v161 : Value) = .slice (some adz_v161) y160.length c_) := ⟨h3_⟩
                              have n4_ : Aside0 (Below w.heap.size w w44) := ⟨h4_⟩
                              clear HO_3
                              clear HO_4
                              clear HB
                              clear h0_ h1_ h2_ h3_ h4_
                              have HO162 := n0_
                              have HO_3 := n1_
                              have HO_4 := n2_
                              have HA_HO162 := n3_
                              have HB := n4_
                              clear n0_ n1_ n2_ n3_ n4_
                              have hHeld : w44.cell? (ad146.add (t145).toNat) = some (.int .i64 (rd x4_1 t145)) ∧ w44.cell? (ad159.add (((ji31)).toNat * 5)) = some (.int .i64 ((rd_T47 x3_1 (ji31)).f0)) ∧ w44.cell? ⟨(ad159.add (((ji31)).toNat * 5)).block, (ad159.add (((ji31)).toNat * 5)).off + 1, none⟩ = some (.bool ((rd_T47 x3_1 (ji31)).f1)) ∧ w44.cell? ⟨(ad159.add (((ji31)).toNat * 5)).block, (ad159.add (((ji31)).toNat * 5)).off + 2, none⟩ = some (.bool ((rd_T47 x3_1 (ji31)).f2)) ∧ w44.cell? ⟨(ad159.add (((ji31)).toNat * 5)).block, (ad159.add (((ji31)).toNat * 5)).off + 3, none⟩ = some (.int .u64 ((rd_T47 x3_1 (ji31)).f3)) ∧ w44.cell? ⟨(ad159.add (((ji31)).toNat * 5)).block, (ad159.add (((ji31)).toNat * 5)).off + 4, none⟩ = some (.int .i64 ((rd_T47 x3_1 (ji31)).f4)) ∧ w44.cell? (ad144.add ((x5_1).toNat * 4)) = some (.int .i64 ((rd_T61 l0 x5_1).f0)) ∧ w44.cell? ⟨(ad144.add ((x5_1).toNat * 4)).block, (ad144.add ((x5_1).toNat * 4)).off + 1, none⟩ = some (.int .i64 ((rd_T61 l0 x5_1).f1)) ∧ w44.cell? ⟨(ad144.add ((x5_1).toNat * 4)).block, (ad144.add ((x5_1).toNat * 4)).off + 2, none⟩ = some (.bool ((rd_T61 l0 x5_1).f2)) ∧ w44.cell? ⟨(ad144.add ((x5_1).toNat * 4)).block, (ad144.add ((x5_1).toNat * 4)).off + 3, none⟩ = some (.int .u64 ((rd_T61 l0 x5_1).f3)) := hS_
                              obtain ⟨co45, eo45⟩ := HA_HO162.out
                              clear HA_HO162
                              subst eo45
                              refine norm_ (a' := ?_) ?_ ?_
                              rotate_left
                              · simp only [putAll, Act.put, List.setIfInBounds_toArray, List.set_cons_zero, List.set_cons_succ]
                                rfl
                              refine one_ (i := 20) (N := some 8) #[true, true, true, true, true, true, true, true, true, true, true, true, true, true, true, true, true, true, true, true, true, false] rfl rfl (one_of HT_.out (by kernel_rfl)) (by decide) (fun K hK => ?_)
                              refine box_step ?hg (N := 8) ?hd (cs := #[.int .i64 0, .bool false, .bool false, .int .u64 0, .int .i64 0]) (t := 47) ?hr ?_; (case hd => rfl); (case hg => rfl); (case hr => first | (go_simp; done) | (go_simp; rfl))
                              intro gb166 hg w46 hbox hb
                              have HS0_ := (hb.cell (World.block_lt_of_cell? _ _ (hHeld.1))).trans (hHeld.1)
                              have HS1_ := (hb.cell (World.block_lt_of_cell? _ _ (hHeld.2.1))).trans (hHeld.2.1)
                              have HS2_ := (hb.cell (World.block_lt_of_cell? _ _ (hHeld.2.2.1))).trans (hHeld.2.2.1)
                              have HS3_ := (hb.cell (World.block_lt_of_cell? _ _ (hHeld.2.2.2.1))).trans (hHeld.2.2.2.1)
                              have HS4_ := (hb.cell (World.block_lt_of_cell? _ _ (hHeld.2.2.2.2.1))).trans (hHeld.2.2.2.2.1)
                              have HS5_ := (hb.cell (World.block_lt_of_cell? _ _ (hHeld.2.2.2.2.2.1))).trans (hHeld.2.2.2.2.2.1)
                              have n0_ := Aside0.mk (Kd.R_below (Kd.R_elderB (by (with_reducible repeat (first | apply Kd.R_alloc | apply Kd.R_drewN | apply Kd.R_drew)); exact HO_3.out) gb166 (Nat.le_of_eq hg.symm)) hb)
                              have n1_ := Aside0.mk (Kd.R_below (by (with_reducible repeat (first | apply Kd.R_alloc | apply Kd.R_drewN | apply Kd.R_drew)); exact HO_4.out) hb)
                              have n2_ := Aside0.mk (Kd.R_below (by (with_reducible repeat (first | apply Kd.R_alloc | apply Kd.R_drewN | apply Kd.R_drew)); exact HO162.out) hb)
                              have n3_ := Aside0.mk (below_step (by repeat (first | (with_reducible first | exact HB.out | apply below_alloc | apply pw_below_drewN | apply below_drew1) | exact HB.out)) hb)
                              have n4_ := Aside0.mk (hbox)
                              have n5_ := Aside0.mk ((by rw [hg]; exact (below_size (by repeat (first | (with_reducible first | exact HB.out | apply below_alloc | apply pw_below_drewN | apply below_drew1) | exact HB.out))) : w.heap.size ≤ gb166))
                              have n6_ := Aside0.mk ((by rw [hg]; exact (below_size (by repeat (first | (with_reducible first | exact HB.out | apply below_alloc | apply pw_below_drewN | apply below_drew1) | exact HB.out))) : w.heap.size ≤ gb166))
                              clear HO_3
                              clear HO_4
                              clear HO162
                              clear HB
                              have HO_3 := n0_
                              have HO_4 := n1_
                              have HO162 := n2_
                              have HB := n3_
                              have BK166 := n4_
                              have GW166 := n5_
                              have GE166 := n6_
                              clear n0_ n1_ n2_ n3_ n4_ n5_ n6_
                              clear hb hbox hg
                              refine hK.out _ _ ⟨HS0_, HS1_, HS2_, HS3_, HS4_, HS5_, ((HB.out.cell (World.block_lt_of_cell? w _ hw163_0)).trans hw163_0), ((HB.out.cell (World.block_lt_of_cell? w _ hw163_1)).trans hw163_1), ((HB.out.cell (World.block_lt_of_cell? w _ hw163_2)).trans hw163_2), ((HB.out.cell (World.block_lt_of_cell? w _ hw163_3)).trans hw163_3)⟩ (fun hHeld => ?_)
                              clear hK K
                              refine norm_ (a' := ?_) ?_ ?_
                              rotate_left
                              · show Act.put _ (some 8) _ = _
                                simp only [Act.put, List.setIfInBounds_toArray, List.set_cons_zero, List.set_cons_succ, i64_w, i32_w, Go.IntKind.wrap_u32]
                                rfl
                              exact norm_ (by first | (simp only [putAll, Act.put, List.setIfInBounds_toArray, List.set_cons_zero, List.set_cons_succ]; done) | (simp only [putAll, Act.put, List.setIfInBounds_toArray, List.set_cons_zero, List.set_cons_succ]; rfl)) (hJ10_16_18_20 (.slice (some adz_v161) y160.length co45, adz_v161, gb166) _ ⟨hHeld, (by (with_reducible repeat (first | apply Kd.R_alloc | apply Kd.R_drewN | apply Kd.R_drew)); exact HO162.out), (by (with_reducible repeat (first | apply Kd.R_alloc | apply Kd.R_drewN | apply Kd.R_drew)); exact Kd.R_mono HO_3.out (fun _ hk => hk.2)), (by (with_reducible repeat (first | apply Kd.R_alloc | apply Kd.R_drewN | apply Kd.R_drew)); exact HO_4.out), ⟨_, rfl⟩, (by (with_reducible repeat (first | refine blk_drewN ?_ _ | refine blk_drew ?_ | refine blk_alloc ?_ _)); exact BK166.out), GW166.out, GE166.out, (by repeat (first | (with_reducible first | exact HB.out | apply below_alloc | apply pw_below_drewN | apply below_drew1 | refine below_set ?_ GE166.out) | exact HB.out))⟩)
                          rintro ⟨v161, adz_v161, gb166⟩ w45 ⟨hS_, h0_, h1_, h2_, h3_, h4_, h5_, h6_, h7_⟩
                          have n0_ : Aside0 (Kd.R (Kd.int .i64) 43 w45 w.heap.size (fun _ => True) v161 y160) := ⟨h0_⟩
                          have n1_ : Aside0 (Kd.R k47 47 w45 w.heap.size (fun k_ => k_ ≠ gb166) (.slice (some ad159) x3_1.length co40) x3_1) := ⟨h1_⟩
                          have n2_ : Aside0 (Kd.R (Kd.int .i64) 3 w45 w.heap.size (fun _ => True) (.slice (some ad146) x4_1.length co38) x4_1) := ⟨h2_⟩
                          have n3_ : Aside0 (∃ c_, (v161 : Value) = .slice (some adz_v161) y160.length c_) := ⟨h3_⟩
                          have n4_ : Aside0 (w45.heap[gb166]? = some (.cells #[.int .i64 0, .bool false, .bool false, .int .u64 0, .int .i64 0] 47 (0, 0))) := ⟨h4_⟩
                          have n5_ : Aside0 (w.heap.size ≤ gb166) := ⟨h5_⟩
                          have n6_ : Aside0 (w.heap.size ≤ gb166) := ⟨h6_⟩
                          have n7_ : Aside0 (Below w.heap.size w w45) := ⟨h7_⟩
                          clear HO_3
                          clear HO_4
                          clear HB
                          clear h0_ h1_ h2_ h3_ h4_ h5_ h6_ h7_
                          have HO162 := n0_
                          have HO_3 := n1_
                          have HO_4 := n2_
                          have HA_HO162 := n3_
                          have BK166 := n4_
                          have GW166 := n5_
                          have GE166 := n6_
                          have HB := n7_
                          clear n0_ n1_ n2_ n3_ n4_ n5_ n6_ n7_
                          have hHeld : w45.cell? (ad146.add (t145).toNat) = some (.int .i64 (rd x4_1 t145)) ∧ w45.cell? (ad159.add (((ji31)).toNat * 5)) = some (.int .i64 ((rd_T47 x3_1 (ji31)).f0)) ∧ w45.cell? ⟨(ad159.add (((ji31)).toNat * 5)).block, (ad159.add (((ji31)).toNat * 5)).off + 1, none⟩ = some (.bool ((rd_T47 x3_1 (ji31)).f1)) ∧ w45.cell? ⟨(ad159.add (((ji31)).toNat * 5)).block, (ad159.add (((ji31)).toNat * 5)).off + 2, none⟩ = some (.bool ((rd_T47 x3_1 (ji31)).f2)) ∧ w45.cell? ⟨(ad159.add (((ji31)).toNat * 5)).block, (ad159.add (((ji31)).toNat * 5)).off + 3, none⟩ = some (.int .u64 ((rd_T47 x3_1 (ji31)).f3)) ∧ w45.cell? ⟨(ad159.add (((ji31)).toNat * 5)).block, (ad159.add (((ji31)).toNat * 5)).off + 4, none⟩ = some (.int .i64 ((rd_T47 x3_1 (ji31)).f4)) ∧ w45.cell? (ad144.add ((x5_1).toNat * 4)) = some (.int .i64 ((rd_T61 l0 x5_1).f0)) ∧ w45.cell? ⟨(ad144.add ((x5_1).toNat * 4)).block, (ad144.add ((x5_1).toNat * 4)).off + 1, none⟩ = some (.int .i64 ((rd_T61 l0 x5_1).f1)) ∧ w45.cell? ⟨(ad144.add ((x5_1).toNat * 4)).block, (ad144.add ((x5_1).toNat * 4)).off + 2, none⟩ = some (.bool ((rd_T61 l0 x5_1).f2)) ∧ w45.cell? ⟨(ad144.add ((x5_1).toNat * 4)).block, (ad144.add ((x5_1).toNat * 4)).off + 3, none⟩ = some (.int .u64 ((rd_T61 l0 x5_1).f3)) := hS_
                          obtain ⟨co46, eo46⟩ := HA_HO162.out
                          clear HA_HO162
                          subst eo46
                          refine norm_ (a' := ?_) ?_ ?_
                          rotate_left
                          · simp only [putAll, Act.put, List.setIfInBounds_toArray, List.set_cons_zero, List.set_cons_succ]
                            rfl
                          refine one_ (i := 21) (N := none) #[true, true, true, true, true, true, true, true, true, true, true, true, true, true, true, true, true, true, true, true, true, true] rfl rfl (one_of HT_.out (by kernel_rfl)) (by decide) (fun K hK => ?_)
                          have hs47 : w45.cell? ⟨gb166, 0, none⟩ = some (.int .i64 0) := (blk_cell BK166.out 0).trans rfl
                          have hfs47 := blk_frozen BK166.out 0
                          have hs48 : w45.cell? ⟨gb166, 1, none⟩ = some (.bool false) := (blk_cell BK166.out 1).trans rfl
                          have hfs48 := blk_frozen BK166.out 1
                          have hs49 : w45.cell? ⟨gb166, 2, none⟩ = some (.bool false) := (blk_cell BK166.out 2).trans rfl
                          have hfs49 := blk_frozen BK166.out 2
                          have hs50 : w45.cell? ⟨gb166, 3, none⟩ = some (.int .u64 0) := (blk_cell BK166.out 3).trans rfl
                          have hfs50 := blk_frozen BK166.out 3
                          have hs51 : w45.cell? ⟨gb166, 4, none⟩ = some (.int .i64 0) := (blk_cell BK166.out 4).trans rfl
                          have hfs51 := blk_frozen BK166.out 4
                          refine skip_ (w1 := ?_) (by rfl) rfl ?_ ?_
                          rotate_left
                          · go_simp
                            rfl
                          refine hK.out _ _ ⟨((cell_far (p := ⟨gb166, _, none⟩) (by first | exact Kd.own_blk (Kd.R_ne HO_4.out BK166.out (by decide)) | (rw [add_block]; exact Kd.own_blk (Kd.R_ne HO_4.out BK166.out (by decide))) | (show (Addr.add _ _).block ≠ _; rw [add_block]; exact Kd.own_blk (Kd.R_ne HO_4.out BK166.out (by decide))) | (dsimp only; exact Kd.own_blk (Kd.R_ne HO_4.out BK166.out (by decide)))) _).trans (((cell_far (p := ⟨gb166, _, none⟩) (by first | exact Kd.own_blk (Kd.R_ne HO_4.out BK166.out (by decide)) | (rw [add_block]; exact Kd.own_blk (Kd.R_ne HO_4.out BK166.out (by decide))) | (show (Addr.add _ _).block ≠ _; rw [add_block]; exact Kd.own_blk (Kd.R_ne HO_4.out BK166.out (by decide))) | (dsimp only; exact Kd.own_blk (Kd.R_ne HO_4.out BK166.out (by decide)))) _).trans (((cell_far (p := ⟨gb166, _, none⟩) (by first | exact Kd.own_blk (Kd.R_ne HO_4.out BK166.out (by decide)) | (rw [add_block]; exact Kd.own_blk (Kd.R_ne HO_4.out BK166.out (by decide))) | (show (Addr.add _ _).block ≠ _; rw [add_block]; exact Kd.own_blk (Kd.R_ne HO_4.out BK166.out (by decide))) | (dsimp only; exact Kd.own_blk (Kd.R_ne HO_4.out BK166.out (by decide)))) _).trans (((cell_far (p := ⟨gb166, _, none⟩) (by first | exact Kd.own_blk (Kd.R_ne HO_4.out BK166.out (by decide)) | (rw [add_block]; exact Kd.own_blk (Kd.R_ne HO_4.out BK166.out (by decide))) | (show (Addr.add _ _).block ≠ _; rw [add_block]; exact Kd.own_blk (Kd.R_ne HO_4.out BK166.out (by decide))) | (dsimp only; exact Kd.own_blk (Kd.R_ne HO_4.out BK166.out (by decide)))) _).trans (((cell_far (p := ⟨gb166, _, none⟩) (by first | exact Kd.own_blk (Kd.R_ne HO_4.out BK166.out (by decide)) | (rw [add_block]; exact Kd.own_blk (Kd.R_ne HO_4.out BK166.out (by decide))) | (show (Addr.add _ _).block ≠ _; rw [add_block]; exact Kd.own_blk (Kd.R_ne HO_4.out BK166.out (by decide))) | (dsimp only; exact Kd.own_blk (Kd.R_ne HO_4.out BK166.out (by decide)))) _).trans (hHeld.1)))))))))), ((cell_far (p := ⟨gb166, _, none⟩) (by first | exact Kd.own_blk (Kd.R_away HO_3.out (fun _ hk => hk)) | (rw [add_block]; exact Kd.own_blk (Kd.R_away HO_3.out (fun _ hk => hk))) | (show (Addr.add _ _).block ≠ _; rw [add_block]; exact Kd.own_blk (Kd.R_away HO_3.out (fun _ hk => hk))) | (dsimp only; exact Kd.own_blk (Kd.R_away HO_3.out (fun _ hk => hk)))) _).trans (((cell_far (p := ⟨gb166, _, none⟩) (by first | exact Kd.own_blk (Kd.R_away HO_3.out (fun _ hk => hk)) | (rw [add_block]; exact Kd.own_blk (Kd.R_away HO_3.out (fun _ hk => hk))) | (show (Addr.add _ _).block ≠ _; rw [add_block]; exact Kd.own_blk (Kd.R_away HO_3.out (fun _ hk => hk))) | (dsimp only; exact Kd.own_blk (Kd.R_away HO_3.out (fun _ hk => hk)))) _).trans (((cell_far (p := ⟨gb166, _, none⟩) (by first | exact Kd.own_blk (Kd.R_away HO_3.out (fun _ hk => hk)) | (rw [add_block]; exact Kd.own_blk (Kd.R_away HO_3.out (fun _ hk => hk))) | (show (Addr.add _ _).block ≠ _; rw [add_block]; exact Kd.own_blk (Kd.R_away HO_3.out (fun _ hk => hk))) | (dsimp only; exact Kd.own_blk (Kd.R_away HO_3.out (fun _ hk => hk)))) _).trans (((cell_far (p := ⟨gb166, _, none⟩) (by first | exact Kd.own_blk (Kd.R_away HO_3.out (fun _ hk => hk)) | (rw [add_block]; exact Kd.own_blk (Kd.R_away HO_3.out (fun _ hk => hk))) | (show (Addr.add _ _).block ≠ _; rw [add_block]; exact Kd.own_blk (Kd.R_away HO_3.out (fun _ hk => hk))) | (dsimp only; exact Kd.own_blk (Kd.R_away HO_3.out (fun _ hk => hk)))) _).trans (((cell_far (p := ⟨gb166, _, none⟩) (by first | exact Kd.own_blk (Kd.R_away HO_3.out (fun _ hk => hk)) | (rw [add_block]; exact Kd.own_blk (Kd.R_away HO_3.out (fun _ hk => hk))) | (show (Addr.add _ _).block ≠ _; rw [add_block]; exact Kd.own_blk (Kd.R_away HO_3.out (fun _ hk => hk))) | (dsimp only; exact Kd.own_blk (Kd.R_away HO_3.out (fun _ hk => hk)))) _).trans (hHeld.2.1)))))))))), ((cell_far (p := ⟨gb166, _, none⟩) (by first | exact Kd.own_blk (Kd.R_away HO_3.out (fun _ hk => hk)) | (rw [add_block]; exact Kd.own_blk (Kd.R_away HO_3.out (fun _ hk => hk))) | (show (Addr.add _ _).block ≠ _; rw [add_block]; exact Kd.own_blk (Kd.R_away HO_3.out (fun _ hk => hk))) | (dsimp only; exact Kd.own_blk (Kd.R_away HO_3.out (fun _ hk => hk)))) _).trans (((cell_far (p := ⟨gb166, _, none⟩) (by first | exact Kd.own_blk (Kd.R_away HO_3.out (fun _ hk => hk)) | (rw [add_block]; exact Kd.own_blk (Kd.R_away HO_3.out (fun _ hk => hk))) | (show (Addr.add _ _).block ≠ _; rw [add_block]; exact Kd.own_blk (Kd.R_away HO_3.out (fun _ hk => hk))) | (dsimp only; exact Kd.own_blk (Kd.R_away HO_3.out (fun _ hk => hk)))) _).trans (((cell_far (p := ⟨gb166, _, none⟩) (by first | exact Kd.own_blk (Kd.R_away HO_3.out (fun _ hk => hk)) | (rw [add_block]; exact Kd.own_blk (Kd.R_away HO_3.out (fun _ hk => hk))) | (show (Addr.add _ _).block ≠ _; rw [add_block]; exact Kd.own_blk (Kd.R_away HO_3.out (fun _ hk => hk))) | (dsimp only; exact Kd.own_blk (Kd.R_away HO_3.out (fun _ hk => hk)))) _).trans (((cell_far (p := ⟨gb166, _, none⟩) (by first | exact Kd.own_blk (Kd.R_away HO_3.out (fun _ hk => hk)) | (rw [add_block]; exact Kd.own_blk (Kd.R_away HO_3.out (fun _ hk => hk))) | (show (Addr.add _ _).block ≠ _; rw [add_block]; exact Kd.own_blk (Kd.R_away HO_3.out (fun _ hk => hk))) | (dsimp only; exact Kd.own_blk (Kd.R_away HO_3.out (fun _ hk => hk)))) _).trans (((cell_far (p := ⟨gb166, _, none⟩) (by first | exact Kd.own_blk (Kd.R_away HO_3.out (fun _ hk => hk)) | (rw [add_block]; exact Kd.own_blk (Kd.R_away HO_3.out (fun _ hk => hk))) | (show (Addr.add _ _).block ≠ _; rw [add_block]; exact Kd.own_blk (Kd.R_away HO_3.out (fun _ hk => hk))) | (dsimp only; exact Kd.own_blk (Kd.R_away HO_3.out (fun _ hk => hk)))) _).trans (hHeld.2.2.1)))))))))), ((cell_far (p := ⟨gb166, _, none⟩) (by first | exact Kd.own_blk (Kd.R_away HO_3.out (fun _ hk => hk)) | (rw [add_block]; exact Kd.own_blk (Kd.R_away HO_3.out (fun _ hk => hk))) | (show (Addr.add _ _).block ≠ _; rw [add_block]; exact Kd.own_blk (Kd.R_away HO_3.out (fun _ hk => hk))) | (dsimp only; exact Kd.own_blk (Kd.R_away HO_3.out (fun _ hk => hk)))) _).trans (((cell_far (p := ⟨gb166, _, none⟩) (by first | exact Kd.own_blk (Kd.R_away HO_3.out (fun _ hk => hk)) | (rw [add_block]; exact Kd.own_blk (Kd.R_away HO_3.out (fun _ hk => hk))) | (show (Addr.add _ _).block ≠ _; rw [add_block]; exact Kd.own_blk (Kd.R_away HO_3.out (fun _ hk => hk))) | (dsimp only; exact Kd.own_blk (Kd.R_away HO_3.out (fun _ hk => hk)))) _).trans (((cell_far (p := ⟨gb166, _, none⟩) (by first | exact Kd.own_blk (Kd.R_away HO_3.out (fun _ hk => hk)) | (rw [add_block]; exact Kd.own_blk (Kd.R_away HO_3.out (fun _ hk => hk))) | (show (Addr.add _ _).block ≠ _; rw [add_block]; exact Kd.own_blk (Kd.R_away HO_3.out (fun _ hk => hk))) | (dsimp only; exact Kd.own_blk (Kd.R_away HO_3.out (fun _ hk => hk)))) _).trans (((cell_far (p := ⟨gb166, _, none⟩) (by first | exact Kd.own_blk (Kd.R_away HO_3.out (fun _ hk => hk)) | (rw [add_block]; exact Kd.own_blk (Kd.R_away HO_3.out (fun _ hk => hk))) | (show (Addr.add _ _).block ≠ _; rw [add_block]; exact Kd.own_blk (Kd.R_away HO_3.out (fun _ hk => hk))) | (dsimp only; exact Kd.own_blk (Kd.R_away HO_3.out (fun _ hk => hk)))) _).trans (((cell_far (p := ⟨gb166, _, none⟩) (by first | exact Kd.own_blk (Kd.R_away HO_3.out (fun _ hk => hk)) | (rw [add_block]; exact Kd.own_blk (Kd.R_away HO_3.out (fun _ hk => hk))) | (show (Addr.add _ _).block ≠ _; rw [add_block]; exact Kd.own_blk (Kd.R_away HO_3.out (fun _ hk => hk))) | (dsimp only; exact Kd.own_blk (Kd.R_away HO_3.out (fun _ hk => hk)))) _).trans (hHeld.2.2.2.1)))))))))), ((cell_far (p := ⟨gb166, _, none⟩) (by first | exact Kd.own_blk (Kd.R_away HO_3.out (fun _ hk => hk)) | (rw [add_block]; exact Kd.own_blk (Kd.R_away HO_3.out (fun _ hk => hk))) | (show (Addr.add _ _).block ≠ _; rw [add_block]; exact Kd.own_blk (Kd.R_away HO_3.out (fun _ hk => hk))) | (dsimp only; exact Kd.own_blk (Kd.R_away HO_3.out (fun _ hk => hk)))) _).trans (((cell_far (p := ⟨gb166, _, none⟩) (by first | exact Kd.own_blk (Kd.R_away HO_3.out (fun _ hk => hk)) | (rw [add_block]; exact Kd.own_blk (Kd.R_away HO_3.out (fun _ hk => hk))) | (show (Addr.add _ _).block ≠ _; rw [add_block]; exact Kd.own_blk (Kd.R_away HO_3.out (fun _ hk => hk))) | (dsimp only; exact Kd.own_blk (Kd.R_away HO_3.out (fun _ hk => hk)))) _).trans (((cell_far (p := ⟨gb166, _, none⟩) (by first | exact Kd.own_blk (Kd.R_away HO_3.out (fun _ hk => hk)) | (rw [add_block]; exact Kd.own_blk (Kd.R_away HO_3.out (fun _ hk => hk))) | (show (Addr.add _ _).block ≠ _; rw [add_block]; exact Kd.own_blk (Kd.R_away HO_3.out (fun _ hk => hk))) | (dsimp only; exact Kd.own_blk (Kd.R_away HO_3.out (fun _ hk => hk)))) _).trans (((cell_far (p := ⟨gb166, _, none⟩) (by first | exact Kd.own_blk (Kd.R_away HO_3.out (fun _ hk => hk)) | (rw [add_block]; exact Kd.own_blk (Kd.R_away HO_3.out (fun _ hk => hk))) | (show (Addr.add _ _).block ≠ _; rw [add_block]; exact Kd.own_blk (Kd.R_away HO_3.out (fun _ hk => hk))) | (dsimp only; exact Kd.own_blk (Kd.R_away HO_3.out (fun _ hk => hk)))) _).trans (((cell_far (p := ⟨gb166, _, none⟩) (by first | exact Kd.own_blk (Kd.R_away HO_3.out (fun _ hk => hk)) | (rw [add_block]; exact Kd.own_blk (Kd.R_away HO_3.out (fun _ hk => hk))) | (show (Addr.add _ _).block ≠ _; rw [add_block]; exact Kd.own_blk (Kd.R_away HO_3.out (fun _ hk => hk))) | (dsimp only; exact Kd.own_blk (Kd.R_away HO_3.out (fun _ hk => hk)))) _).trans (hHeld.2.2.2.2.1)))))))))), ((cell_far (p := ⟨gb166, _, none⟩) (by first | exact Kd.own_blk (Kd.R_away HO_3.out (fun _ hk => hk)) | (rw [add_block]; exact Kd.own_blk (Kd.R_away HO_3.out (fun _ hk => hk))) | (show (Addr.add _ _).block ≠ _; rw [add_block]; exact Kd.own_blk (Kd.R_away HO_3.out (fun _ hk => hk))) | (dsimp only; exact Kd.own_blk (Kd.R_away HO_3.out (fun _ hk => hk)))) _).trans (((cell_far (p := ⟨gb166, _, none⟩) (by first | exact Kd.own_blk (Kd.R_away HO_3.out (fun _ hk => hk)) | (rw [add_block]; exact Kd.own_blk (Kd.R_away HO_3.out (fun _ hk => hk))) | (show (Addr.add _ _).block ≠ _; rw [add_block]; exact Kd.own_blk (Kd.R_away HO_3.out (fun _ hk => hk))) | (dsimp only; exact Kd.own_blk (Kd.R_away HO_3.out (fun _ hk => hk)))) _).trans (((cell_far (p := ⟨gb166, _, none⟩) (by first | exact Kd.own_blk (Kd.R_away HO_3.out (fun _ hk => hk)) | (rw [add_block]; exact Kd.own_blk (Kd.R_away HO_3.out (fun _ hk => hk))) | (show (Addr.add _ _).block ≠ _; rw [add_block]; exact Kd.own_blk (Kd.R_away HO_3.out (fun _ hk => hk))) | (dsimp only; exact Kd.own_blk (Kd.R_away HO_3.out (fun _ hk => hk)))) _).trans (((cell_far (p := ⟨gb166, _, none⟩) (by first | exact Kd.own_blk (Kd.R_away HO_3.out (fun _ hk => hk)) | (rw [add_block]; exact Kd.own_blk (Kd.R_away HO_3.out (fun _ hk => hk))) | (show (Addr.add _ _).block ≠ _; rw [add_block]; exact Kd.own_blk (Kd.R_away HO_3.out (fun _ hk => hk))) | (dsimp only; exact Kd.own_blk (Kd.R_away HO_3.out (fun _ hk => hk)))) _).trans (((cell_far (p := ⟨gb166, _, none⟩) (by first | exact Kd.own_blk (Kd.R_away HO_3.out (fun _ hk => hk)) | (rw [add_block]; exact Kd.own_blk (Kd.R_away HO_3.out (fun _ hk => hk))) | (show (Addr.add _ _).block ≠ _; rw [add_block]; exact Kd.own_blk (Kd.R_away HO_3.out (fun _ hk => hk))) | (dsimp only; exact Kd.own_blk (Kd.R_away HO_3.out (fun _ hk => hk)))) _).trans (hHeld.2.2.2.2.2.1)))))))))), ((cell_far (p := ⟨gb166, _, none⟩) (by first | exact Nat.ne_of_lt (Nat.lt_of_lt_of_le (by have := World.block_lt_of_cell? _ _ hw163_0; first | rwa [add_block] at this | exact this) GW166.out) | (rw [add_block]; exact Nat.ne_of_lt (Nat.lt_of_lt_of_le (by have := World.block_lt_of_cell? _ _ hw163_0; first | rwa [add_block] at this | exact this) GW166.out)) | (show (Addr.add _ _).block ≠ _; rw [add_block]; exact Nat.ne_of_lt (Nat.lt_of_lt_of_le (by have := World.block_lt_of_cell? _ _ hw163_0; first | rwa [add_block] at this | exact this) GW166.out)) | (dsimp only; exact Nat.ne_of_lt (Nat.lt_of_lt_of_le (by have := World.block_lt_of_cell? _ _ hw163_0; first | rwa [add_block] at this | exact this) GW166.out))) _).trans (((cell_far (p := ⟨gb166, _, none⟩) (by first | exact Nat.ne_of_lt (Nat.lt_of_lt_of_le (by have := World.block_lt_of_cell? _ _ hw163_0; first | rwa [add_block] at this | exact this) GW166.out) | (rw [add_block]; exact Nat.ne_of_lt (Nat.lt_of_lt_of_le (by have := World.block_lt_of_cell? _ _ hw163_0; first | rwa [add_block] at this | exact this) GW166.out)) | (show (Addr.add _ _).block ≠ _; rw [add_block]; exact Nat.ne_of_lt (Nat.lt_of_lt_of_le (by have := World.block_lt_of_cell? _ _ hw163_0; first | rwa [add_block] at this | exact this) GW166.out)) | (dsimp only; exact Nat.ne_of_lt (Nat.lt_of_lt_of_le (by have := World.block_lt_of_cell? _ _ hw163_0; first | rwa [add_block] at this | exact this) GW166.out))) _).trans (((cell_far (p := ⟨gb166, _, none⟩) (by first | exact Nat.ne_of_lt (Nat.lt_of_lt_of_le (by have := World.block_lt_of_cell? _ _ hw163_0; first | rwa [add_block] at this | exact this) GW166.out) | (rw [add_block]; exact Nat.ne_of_lt (Nat.lt_of_lt_of_le (by have := World.block_lt_of_cell? _ _ hw163_0; first | rwa [add_block] at this | exact this) GW166.out)) | (show (Addr.add _ _).block ≠ _; rw [add_block]; exact Nat.ne_of_lt (Nat.lt_of_lt_of_le (by have := World.block_lt_of_cell? _ _ hw163_0; first | rwa [add_block] at this | exact this) GW166.out)) | (dsimp only; exact Nat.ne_of_lt (Nat.lt_of_lt_of_le (by have := World.block_lt_of_cell? _ _ hw163_0; first | rwa [add_block] at this | exact this) GW166.out))) _).trans (((cell_far (p := ⟨gb166, _, none⟩) (by first | exact Nat.ne_of_lt (Nat.lt_of_lt_of_le (by have := World.block_lt_of_cell? _ _ hw163_0; first | rwa [add_block] at this | exact this) GW166.out) | (rw [add_block]; exact Nat.ne_of_lt (Nat.lt_of_lt_of_le (by have := World.block_lt_of_cell? _ _ hw163_0; first | rwa [add_block] at this | exact this) GW166.out)) | (show (Addr.add _ _).block ≠ _; rw [add_block]; exact Nat.ne_of_lt (Nat.lt_of_lt_of_le (by have := World.block_lt_of_cell? _ _ hw163_0; first | rwa [add_block] at this | exact this) GW166.out)) | (dsimp only; exact Nat.ne_of_lt (Nat.lt_of_lt_of_le (by have := World.block_lt_of_cell? _ _ hw163_0; first | rwa [add_block] at this | exact this) GW166.out))) _).trans (((cell_far (p := ⟨gb166, _, none⟩) (by first | exact Nat.ne_of_lt (Nat.lt_of_lt_of_le (by have := World.block_lt_of_cell? _ _ hw163_0; first | rwa [add_block] at this | exact this) GW166.out) | (rw [add_block]; exact Nat.ne_of_lt (Nat.lt_of_lt_of_le (by have := World.block_lt_of_cell? _ _ hw163_0; first | rwa [add_block] at this | exact this) GW166.out)) | (show (Addr.add _ _).block ≠ _; rw [add_block]; exact Nat.ne_of_lt (Nat.lt_of_lt_of_le (by have := World.block_lt_of_cell? _ _ hw163_0; first | rwa [add_block] at this | exact this) GW166.out)) | (dsimp only; exact Nat.ne_of_lt (Nat.lt_of_lt_of_le (by have := World.block_lt_of_cell? _ _ hw163_0; first | rwa [add_block] at this | exact this) GW166.out))) _).trans (hHeld.2.2.2.2.2.2.1)))))))))), ((cell_far (p := ⟨gb166, _, none⟩) (by first | exact Nat.ne_of_lt (Nat.lt_of_lt_of_le (by have := World.block_lt_of_cell? _ _ hw163_1; first | rwa [add_block] at this | exact this) GW166.out) | (rw [add_block]; exact Nat.ne_of_lt (Nat.lt_of_lt_of_le (by have := World.block_lt_of_cell? _ _ hw163_1; first | rwa [add_block] at this | exact this) GW166.out)) | (show (Addr.add _ _).block ≠ _; rw [add_block]; exact Nat.ne_of_lt (Nat.lt_of_lt_of_le (by have := World.block_lt_of_cell? _ _ hw163_1; first | rwa [add_block] at this | exact this) GW166.out)) | (dsimp only; exact Nat.ne_of_lt (Nat.lt_of_lt_of_le (by have := World.block_lt_of_cell? _ _ hw163_1; first | rwa [add_block] at this | exact this) GW166.out))) _).trans (((cell_far (p := ⟨gb166, _, none⟩) (by first | exact Nat.ne_of_lt (Nat.lt_of_lt_of_le (by have := World.block_lt_of_cell? _ _ hw163_1; first | rwa [add_block] at this | exact this) GW166.out) | (rw [add_block]; exact Nat.ne_of_lt (Nat.lt_of_lt_of_le (by have := World.block_lt_of_cell? _ _ hw163_1; first | rwa [add_block] at this | exact this) GW166.out)) | (show (Addr.add _ _).block ≠ _; rw [add_block]; exact Nat.ne_of_lt (Nat.lt_of_lt_of_le (by have := World.block_lt_of_cell? _ _ hw163_1; first | rwa [add_block] at this | exact this) GW166.out)) | (dsimp only; exact Nat.ne_of_lt (Nat.lt_of_lt_of_le (by have := World.block_lt_of_cell? _ _ hw163_1; first | rwa [add_block] at this | exact this) GW166.out))) _).trans (((cell_far (p := ⟨gb166, _, none⟩) (by first | exact Nat.ne_of_lt (Nat.lt_of_lt_of_le (by have := World.block_lt_of_cell? _ _ hw163_1; first | rwa [add_block] at this | exact this) GW166.out) | (rw [add_block]; exact Nat.ne_of_lt (Nat.lt_of_lt_of_le (by have := World.block_lt_of_cell? _ _ hw163_1; first | rwa [add_block] at this | exact this) GW166.out)) | (show (Addr.add _ _).block ≠ _; rw [add_block]; exact Nat.ne_of_lt (Nat.lt_of_lt_of_le (by have := World.block_lt_of_cell? _ _ hw163_1; first | rwa [add_block] at this | exact this) GW166.out)) | (dsimp only; exact Nat.ne_of_lt (Nat.lt_of_lt_of_le (by have := World.block_lt_of_cell? _ _ hw163_1; first | rwa [add_block] at this | exact this) GW166.out))) _).trans (((cell_far (p := ⟨gb166, _, none⟩) (by first | exact Nat.ne_of_lt (Nat.lt_of_lt_of_le (by have := World.block_lt_of_cell? _ _ hw163_1; first | rwa [add_block] at this | exact this) GW166.out) | (rw [add_block]; exact Nat.ne_of_lt (Nat.lt_of_lt_of_le (by have := World.block_lt_of_cell? _ _ hw163_1; first | rwa [add_block] at this | exact this) GW166.out)) | (show (Addr.add _ _).block ≠ _; rw [add_block]; exact Nat.ne_of_lt (Nat.lt_of_lt_of_le (by have := World.block_lt_of_cell? _ _ hw163_1; first | rwa [add_block] at this | exact this) GW166.out)) | (dsimp only; exact Nat.ne_of_lt (Nat.lt_of_lt_of_le (by have := World.block_lt_of_cell? _ _ hw163_1; first | rwa [add_block] at this | exact this) GW166.out))) _).trans (((cell_far (p := ⟨gb166, _, none⟩) (by first | exact Nat.ne_of_lt (Nat.lt_of_lt_of_le (by have := World.block_lt_of_cell? _ _ hw163_1; first | rwa [add_block] at this | exact this) GW166.out) | (rw [add_block]; exact Nat.ne_of_lt (Nat.lt_of_lt_of_le (by have := World.block_lt_of_cell? _ _ hw163_1; first | rwa [add_block] at this | exact this) GW166.out)) | (show (Addr.add _ _).block ≠ _; rw [add_block]; exact Nat.ne_of_lt (Nat.lt_of_lt_of_le (by have := World.block_lt_of_cell? _ _ hw163_1; first | rwa [add_block] at this | exact this) GW166.out)) | (dsimp only; exact Nat.ne_of_lt (Nat.lt_of_lt_of_le (by have := World.block_lt_of_cell? _ _ hw163_1; first | rwa [add_block] at this | exact this) GW166.out))) _).trans (hHeld.2.2.2.2.2.2.2.1)))))))))), ((cell_far (p := ⟨gb166, _, none⟩) (by first | exact Nat.ne_of_lt (Nat.lt_of_lt_of_le (by have := World.block_lt_of_cell? _ _ hw163_2; first | rwa [add_block] at this | exact this) GW166.out) | (rw [add_block]; exact Nat.ne_of_lt (Nat.lt_of_lt_of_le (by have := World.block_lt_of_cell? _ _ hw163_2; first | rwa [add_block] at this | exact this) GW166.out)) | (show (Addr.add _ _).block ≠ _; rw [add_block]; exact Nat.ne_of_lt (Nat.lt_of_lt_of_le (by have := World.block_lt_of_cell? _ _ hw163_2; first | rwa [add_block] at this | exact this) GW166.out)) | (dsimp only; exact Nat.ne_of_lt (Nat.lt_of_lt_of_le (by have := World.block_lt_of_cell? _ _ hw163_2; first | rwa [add_block] at this | exact this) GW166.out))) _).trans (((cell_far (p := ⟨gb166, _, none⟩) (by first | exact Nat.ne_of_lt (Nat.lt_of_lt_of_le (by have := World.block_lt_of_cell? _ _ hw163_2; first | rwa [add_block] at this | exact this) GW166.out) | (rw [add_block]; exact Nat.ne_of_lt (Nat.lt_of_lt_of_le (by have := World.block_lt_of_cell? _ _ hw163_2; first | rwa [add_block] at this | exact this) GW166.out)) | (show (Addr.add _ _).block ≠ _; rw [add_block]; exact Nat.ne_of_lt (Nat.lt_of_lt_of_le (by have := World.block_lt_of_cell? _ _ hw163_2; first | rwa [add_block] at this | exact this) GW166.out)) | (dsimp only; exact Nat.ne_of_lt (Nat.lt_of_lt_of_le (by have := World.block_lt_of_cell? _ _ hw163_2; first | rwa [add_block] at this | exact this) GW166.out))) _).trans (((cell_far (p := ⟨gb166, _, none⟩) (by first | exact Nat.ne_of_lt (Nat.lt_of_lt_of_le (by have := World.block_lt_of_cell? _ _ hw163_2; first | rwa [add_block] at this | exact this) GW166.out) | (rw [add_block]; exact Nat.ne_of_lt (Nat.lt_of_lt_of_le (by have := World.block_lt_of_cell? _ _ hw163_2; first | rwa [add_block] at this | exact this) GW166.out)) | (show (Addr.add _ _).block ≠ _; rw [add_block]; exact Nat.ne_of_lt (Nat.lt_of_lt_of_le (by have := World.block_lt_of_cell? _ _ hw163_2; first | rwa [add_block] at this | exact this) GW166.out)) | (dsimp only; exact Nat.ne_of_lt (Nat.lt_of_lt_of_le (by have := World.block_lt_of_cell? _ _ hw163_2; first | rwa [add_block] at this | exact this) GW166.out))) _).trans (((cell_far (p := ⟨gb166, _, none⟩) (by first | exact Nat.ne_of_lt (Nat.lt_of_lt_of_le (by have := World.block_lt_of_cell? _ _ hw163_2; first | rwa [add_block] at this | exact this) GW166.out) | (rw [add_block]; exact Nat.ne_of_lt (Nat.lt_of_lt_of_le (by have := World.block_lt_of_cell? _ _ hw163_2; first | rwa [add_block] at this | exact this) GW166.out)) | (show (Addr.add _ _).block ≠ _; rw [add_block]; exact Nat.ne_of_lt (Nat.lt_of_lt_of_le (by have := World.block_lt_of_cell? _ _ hw163_2; first | rwa [add_block] at this | exact this) GW166.out)) | (dsimp only; exact Nat.ne_of_lt (Nat.lt_of_lt_of_le (by have := World.block_lt_of_cell? _ _ hw163_2; first | rwa [add_block] at this | exact this) GW166.out))) _).trans (((cell_far (p := ⟨gb166, _, none⟩) (by first | exact Nat.ne_of_lt (Nat.lt_of_lt_of_le (by have := World.block_lt_of_cell? _ _ hw163_2; first | rwa [add_block] at this | exact this) GW166.out) | (rw [add_block]; exact Nat.ne_of_lt (Nat.lt_of_lt_of_le (by have := World.block_lt_of_cell? _ _ hw163_2; first | rwa [add_block] at this | exact this) GW166.out)) | (show (Addr.add _ _).block ≠ _; rw [add_block]; exact Nat.ne_of_lt (Nat.lt_of_lt_of_le (by have := World.block_lt_of_cell? _ _ hw163_2; first | rwa [add_block] at this | exact this) GW166.out)) | (dsimp only; exact Nat.ne_of_lt (Nat.lt_of_lt_of_le (by have := World.block_lt_of_cell? _ _ hw163_2; first | rwa [add_block] at this | exact this) GW166.out))) _).trans (hHeld.2.2.2.2.2.2.2.2.1)))))))))), ((cell_far (p := ⟨gb166, _, none⟩) (by first | exact Nat.ne_of_lt (Nat.lt_of_lt_of_le (by have := World.block_lt_of_cell? _ _ hw163_3; first | rwa [add_block] at this | exact this) GW166.out) | (rw [add_block]; exact Nat.ne_of_lt (Nat.lt_of_lt_of_le (by have := World.block_lt_of_cell? _ _ hw163_3; first | rwa [add_block] at this | exact this) GW166.out)) | (show (Addr.add _ _).block ≠ _; rw [add_block]; exact Nat.ne_of_lt (Nat.lt_of_lt_of_le (by have := World.block_lt_of_cell? _ _ hw163_3; first | rwa [add_block] at this | exact this) GW166.out)) | (dsimp only; exact Nat.ne_of_lt (Nat.lt_of_lt_of_le (by have := World.block_lt_of_cell? _ _ hw163_3; first | rwa [add_block] at this | exact this) GW166.out))) _).trans (((cell_far (p := ⟨gb166, _, none⟩) (by first | exact Nat.ne_of_lt (Nat.lt_of_lt_of_le (by have := World.block_lt_of_cell? _ _ hw163_3; first | rwa [add_block] at this | exact this) GW166.out) | (rw [add_block]; exact Nat.ne_of_lt (Nat.lt_of_lt_of_le (by have := World.block_lt_of_cell? _ _ hw163_3; first | rwa [add_block] at this | exact this) GW166.out)) | (show (Addr.add _ _).block ≠ _; rw [add_block]; exact Nat.ne_of_lt (Nat.lt_of_lt_of_le (by have := World.block_lt_of_cell? _ _ hw163_3; first | rwa [add_block] at this | exact this) GW166.out)) | (dsimp only; exact Nat.ne_of_lt (Nat.lt_of_lt_of_le (by have := World.block_lt_of_cell? _ _ hw163_3; first | rwa [add_block] at this | exact this) GW166.out))) _).trans (((cell_far (p := ⟨gb166, _, none⟩) (by first | exact Nat.ne_of_lt (Nat.lt_of_lt_of_le (by have := World.block_lt_of_cell? _ _ hw163_3; first | rwa [add_block] at this | exact this) GW166.out) | (rw [add_block]; exact Nat.ne_of_lt (Nat.lt_of_lt_of_le (by have := World.block_lt_of_cell? _ _ hw163_3; first | rwa [add_block] at this | exact this) GW166.out)) | (show (Addr.add _ _).block ≠ _; rw [add_block]; exact Nat.ne_of_lt (Nat.lt_of_lt_of_le (by have := World.block_lt_of_cell? _ _ hw163_3; first | rwa [add_block] at this | exact this) GW166.out)) | (dsimp only; exact Nat.ne_of_lt (Nat.lt_of_lt_of_le (by have := World.block_lt_of_cell? _ _ hw163_3; first | rwa [add_block] at this | exact this) GW166.out))) _).trans (((cell_far (p := ⟨gb166, _, none⟩) (by first | exact Nat.ne_of_lt (Nat.lt_of_lt_of_le (by have := World.block_lt_of_cell? _ _ hw163_3; first | rwa [add_block] at this | exact this) GW166.out) | (rw [add_block]; exact Nat.ne_of_lt (Nat.lt_of_lt_of_le (by have := World.block_lt_of_cell? _ _ hw163_3; first | rwa [add_block] at this | exact this) GW166.out)) | (show (Addr.add _ _).block ≠ _; rw [add_block]; exact Nat.ne_of_lt (Nat.lt_of_lt_of_le (by have := World.block_lt_of_cell? _ _ hw163_3; first | rwa [add_block] at this | exact this) GW166.out)) | (dsimp only; exact Nat.ne_of_lt (Nat.lt_of_lt_of_le (by have := World.block_lt_of_cell? _ _ hw163_3; first | rwa [add_block] at this | exact this) GW166.out))) _).trans (((cell_far (p := ⟨gb166, _, none⟩) (by first | exact Nat.ne_of_lt (Nat.lt_of_lt_of_le (by have := World.block_lt_of_cell? _ _ hw163_3; first | rwa [add_block] at this | exact this) GW166.out) | (rw [add_block]; exact Nat.ne_of_lt (Nat.lt_of_lt_of_le (by have := World.block_lt_of_cell? _ _ hw163_3; first | rwa [add_block] at this | exact this) GW166.out)) | (show (Addr.add _ _).block ≠ _; rw [add_block]; exact Nat.ne_of_lt (Nat.lt_of_lt_of_le (by have := World.block_lt_of_cell? _ _ hw163_3; first | rwa [add_block] at this | exact this) GW166.out)) | (dsimp only; exact Nat.ne_of_lt (Nat.lt_of_lt_of_le (by have := World.block_lt_of_cell? _ _ hw163_3; first | rwa [add_block] at this | exact this) GW166.out))) _).trans (hHeld.2.2.2.2.2.2.2.2.2))))))))))⟩ (fun hHeld => ?_)
                          clear hK K
                          refine done_ (done_of HT_.out (by kernel_rfl)) ?_
                          go_upto_region 14 with (fail)
                          go_cut [78] (fun v78 wc => ∃ (kq : Nat) (x78_36 : Bool), v78 = .bool x78_36 ∧ Aside0 (hatstandlaw14_events.j1 kq l0 x3_1 x4_1 x5_1 t145 x78_36 t145 true ((rd_T47 x3_1 (ji31)).f2) 0 (rd y160 t164) = some r) ∧ Aside0 (kq ≤ k1) ∧ Aside0 (Kd.R k47 47 wc w.heap.size (fun k_ => k_ ≠ gb166) (.slice (some ad159) x3_1.length co40) x3_1) ∧ Aside0 (Kd.R (Kd.int .i64) 3 wc w.heap.size (fun _ => True) (.slice (some ad146) x4_1.length co38) x4_1) ∧ Aside0 (wc.heap[gb166]? = some (.cells #[.int .i64 t145, .bool true, .bool ((rd_T47 x3_1 (ji31)).f2), .int .u64 0, .int .i64 (rd y160 t164)] 47 (0, 0))) ∧ Aside0 (Below w.heap.size w wc))
                          case first =>
                            have H := HC37.out
                            clear HC37
                            obtain ⟨bq52, hbq52⟩ : ∃ b_ : Bool, b_ = ((rd_T47 x3_1 (ji31)).f2) := ⟨_, rfl⟩
                            replace H : (if (bq52 = true) then (hatstandlaw14_events.j1 k1 l0 x3_1 x4_1 x5_1 t145 false t145 true bq52 0 (rd y160 t164)) else (hatstandlaw14_events.j1 k1 l0 x3_1 x4_1 x5_1 t145 ((rd y160 t164) == 1) t145 true bq52 0 (rd y160 t164))) = some r := by rw [← hbq52] at H; exact H
                            have Nbq52 := Aside0.mk hbq52
                            clear hbq52
                            (try rw [← Nbq52.out])
                            by_cases c53 : (bq52 = true)
                            · subst c53
                              have H1 : (hatstandlaw14_events.j1 k1 l0 x3_1 x4_1 x5_1 t145 false t145 true true 0 (rd y160 t164)) = some r := by rw [if_pos rfl] at H; exact H
                              clear H
                              have H := H1
                              clear H1
                              have H' := Aside0.mk H
                              clear H
                              have hcz54_0 : w45.cell? ⟨gb166, 0, none⟩ = some (.int .i64 0) := (blk_cell BK166.out 0).trans rfl
                              have hcz54_1 : w45.cell? ⟨gb166, 1, none⟩ = some (.bool false) := (blk_cell BK166.out 1).trans rfl
                              have hcz54_2 : w45.cell? ⟨gb166, 2, none⟩ = some (.bool false) := (blk_cell BK166.out 2).trans rfl
                              have hcz54_3 : w45.cell? ⟨gb166, 3, none⟩ = some (.int .u64 0) := (blk_cell BK166.out 3).trans rfl
                              have hcz54_4 : w45.cell? ⟨gb166, 4, none⟩ = some (.int .i64 0) := (blk_cell BK166.out 4).trans rfl
                              have hfz54_0 := blk_frozen BK166.out 0
                              have hfz54_1 := blk_frozen BK166.out 1
                              have hfz54_2 := blk_frozen BK166.out 2
                              have hfz54_3 := blk_frozen BK166.out 3
                              have hfz54_4 := blk_frozen BK166.out 4
                              go_wp2
                              go_meet
                              case rel => (try rw [← Nbq52.out]); exact ⟨_, (false), (by first | rfl | (simp; done) | (simp [*]; done)), H', ⟨by have := HK1.out; first | omega | exact Nat.le_refl _⟩, ⟨by (with_reducible repeat (first | apply Kd.R_alloc | apply Kd.R_drewN | apply Kd.R_drew)); exact Kd.R_mono (Kd.R_far (p := ⟨gb166, 4, none⟩) (Kd.R_far (p := ⟨gb166, 3, none⟩) (Kd.R_far (p := ⟨gb166, 2, none⟩) (Kd.R_far (p := ⟨gb166, 1, none⟩) (Kd.R_far (p := ⟨gb166, 0, none⟩) (Kd.R_mono HO_3.out (fun k_ hk => (⟨hk, hk⟩ : _ ∧ k_ ≠ gb166))) (fun _ hk => hk.2) (.int .i64 t145)) (fun _ hk => hk.2) (.bool true)) (fun _ hk => hk.2) (.bool (true))) (fun _ hk => hk.2) (.int .u64 0)) (fun _ hk => hk.2) (.int .i64 (rd y160 t164))) (fun _ hk => hk.1)⟩, ⟨by (with_reducible repeat (first | apply Kd.R_alloc | apply Kd.R_drewN | apply Kd.R_drew)); exact Kd.R_mono (Kd.R_far (p := ⟨gb166, 4, none⟩) (Kd.R_far (p := ⟨gb166, 3, none⟩) (Kd.R_far (p := ⟨gb166, 2, none⟩) (Kd.R_far (p := ⟨gb166, 1, none⟩) (Kd.R_far (p := ⟨gb166, 0, none⟩) (Kd.R_types HO_4.out BK166.out (by decide)) (fun _ hk => hk.2) (.int .i64 t145)) (fun _ hk => hk.2) (.bool true)) (fun _ hk => hk.2) (.bool (true))) (fun _ hk => hk.2) (.int .u64 0)) (fun _ hk => hk.2) (.int .i64 (rd y160 t164))) (fun _ hk => trivial)⟩, ⟨by (with_reducible repeat (first | refine blk_drewN ?_ _ | refine blk_drew ?_ | refine blk_alloc ?_ _)); refine blk_put (cs := #[.int .i64 t145, .bool true, .bool (true), .int .u64 0, .int .i64 0]) ?_ 4 _ rfl; (with_reducible repeat (first | refine blk_drewN ?_ _ | refine blk_drew ?_ | refine blk_alloc ?_ _)); refine blk_put (cs := #[.int .i64 t145, .bool true, .bool (true), .int .u64 0, .int .i64 0]) ?_ 3 _ rfl; (with_reducible repeat (first | refine blk_drewN ?_ _ | refine blk_drew ?_ | refine blk_alloc ?_ _)); refine blk_put (cs := #[.int .i64 t145, .bool true, .bool false, .int .u64 0, .int .i64 0]) ?_ 2 _ rfl; (with_reducible repeat (first | refine blk_drewN ?_ _ | refine blk_drew ?_ | refine blk_alloc ?_ _)); refine blk_put (cs := #[.int .i64 t145, .bool false, .bool false, .int .u64 0, .int .i64 0]) ?_ 1 _ rfl; (with_reducible repeat (first | refine blk_drewN ?_ _ | refine blk_drew ?_ | refine blk_alloc ?_ _)); refine blk_put (cs := #[.int .i64 0, .bool false, .bool false, .int .u64 0, .int .i64 0]) ?_ 0 _ rfl; (with_reducible repeat (first | refine blk_drewN ?_ _ | refine blk_drew ?_ | refine blk_alloc ?_ _)); exact BK166.out⟩, ⟨by repeat (first | (with_reducible first | exact HB.out | apply below_alloc | apply pw_below_drewN | apply below_drew1 | refine below_set ?_ GE166.out) | exact HB.out)⟩⟩
                            · replace c53 := Bool.eq_false_iff.mpr c53
                              subst c53
                              have H1 : (hatstandlaw14_events.j1 k1 l0 x3_1 x4_1 x5_1 t145 ((rd y160 t164) == 1) t145 true false 0 (rd y160 t164)) = some r := by rw [if_neg (show ¬ (false = true) by decide)] at H; exact H
                              clear H
                              have H := H1
                              clear H1
                              have H' := Aside0.mk H
                              clear H
                              have hcz55_0 : w45.cell? ⟨gb166, 0, none⟩ = some (.int .i64 0) := (blk_cell BK166.out 0).trans rfl
                              have hcz55_1 : w45.cell? ⟨gb166, 1, none⟩ = some (.bool false) := (blk_cell BK166.out 1).trans rfl
                              have hcz55_2 : w45.cell? ⟨gb166, 2, none⟩ = some (.bool false) := (blk_cell BK166.out 2).trans rfl
                              have hcz55_3 : w45.cell? ⟨gb166, 3, none⟩ = some (.int .u64 0) := (blk_cell BK166.out 3).trans rfl
                              have hcz55_4 : w45.cell? ⟨gb166, 4, none⟩ = some (.int .i64 0) := (blk_cell BK166.out 4).trans rfl
                              have hfz55_0 := blk_frozen BK166.out 0
                              have hfz55_1 := blk_frozen BK166.out 1
                              have hfz55_2 := blk_frozen BK166.out 2
                              have hfz55_3 := blk_frozen BK166.out 3
                              have hfz55_4 := blk_frozen BK166.out 4
                              go_wp2
                              go_meet
                              case rel => (try rw [← Nbq52.out]); exact ⟨_, (((rd y160 t164) == 1)), (by first | rfl | (simp; done) | (simp [*]; done)), H', ⟨by have := HK1.out; first | omega | exact Nat.le_refl _⟩, ⟨by (with_reducible repeat (first | apply Kd.R_alloc | apply Kd.R_drewN | apply Kd.R_drew)); exact Kd.R_mono (Kd.R_far (p := ⟨gb166, 4, none⟩) (Kd.R_far (p := ⟨gb166, 3, none⟩) (Kd.R_far (p := ⟨gb166, 2, none⟩) (Kd.R_far (p := ⟨gb166, 1, none⟩) (Kd.R_far (p := ⟨gb166, 0, none⟩) (Kd.R_mono HO_3.out (fun k_ hk => (⟨hk, hk⟩ : _ ∧ k_ ≠ gb166))) (fun _ hk => hk.2) (.int .i64 t145)) (fun _ hk => hk.2) (.bool true)) (fun _ hk => hk.2) (.bool (false))) (fun _ hk => hk.2) (.int .u64 0)) (fun _ hk => hk.2) (.int .i64 (rd y160 t164))) (fun _ hk => hk.1)⟩, ⟨by (with_reducible repeat (first | apply Kd.R_alloc | apply Kd.R_drewN | apply Kd.R_drew)); exact Kd.R_mono (Kd.R_far (p := ⟨gb166, 4, none⟩) (Kd.R_far (p := ⟨gb166, 3, none⟩) (Kd.R_far (p := ⟨gb166, 2, none⟩) (Kd.R_far (p := ⟨gb166, 1, none⟩) (Kd.R_far (p := ⟨gb166, 0, none⟩) (Kd.R_types HO_4.out BK166.out (by decide)) (fun _ hk => hk.2) (.int .i64 t145)) (fun _ hk => hk.2) (.bool true)) (fun _ hk => hk.2) (.bool (false))) (fun _ hk => hk.2) (.int .u64 0)) (fun _ hk => hk.2) (.int .i64 (rd y160 t164))) (fun _ hk => trivial)⟩, ⟨by (with_reducible repeat (first | refine blk_drewN ?_ _ | refine blk_drew ?_ | refine blk_alloc ?_ _)); refine blk_put (cs := #[.int .i64 t145, .bool true, .bool (false), .int .u64 0, .int .i64 0]) ?_ 4 _ rfl; (with_reducible repeat (first | refine blk_drewN ?_ _ | refine blk_drew ?_ | refine blk_alloc ?_ _)); refine blk_put (cs := #[.int .i64 t145, .bool true, .bool (false), .int .u64 0, .int .i64 0]) ?_ 3 _ rfl; (with_reducible repeat (first | refine blk_drewN ?_ _ | refine blk_drew ?_ | refine blk_alloc ?_ _)); refine blk_put (cs := #[.int .i64 t145, .bool true, .bool false, .int .u64 0, .int .i64 0]) ?_ 2 _ rfl; (with_reducible repeat (first | refine blk_drewN ?_ _ | refine blk_drew ?_ | refine blk_alloc ?_ _)); refine blk_put (cs := #[.int .i64 t145, .bool false, .bool false, .int .u64 0, .int .i64 0]) ?_ 1 _ rfl; (with_reducible repeat (first | refine blk_drewN ?_ _ | refine blk_drew ?_ | refine blk_alloc ?_ _)); refine blk_put (cs := #[.int .i64 0, .bool false, .bool false, .int .u64 0, .int .i64 0]) ?_ 0 _ rfl; (with_reducible repeat (first | refine blk_drewN ?_ _ | refine blk_drew ?_ | refine blk_alloc ?_ _)); exact BK166.out⟩, ⟨by repeat (first | (with_reducible first | exact HB.out | apply below_alloc | apply pw_below_drewN | apply below_drew1 | refine below_set ?_ GE166.out) | exact HB.out)⟩⟩
                          case rest =>
                            clear HC37
                            try clear c1
                            try clear p1
                            try clear q1
                            try clear hx1
                            try clear p2
                            try clear c5
                            try clear q5
                            try clear p16
                            try clear q16
                            try clear hx16
                            try clear c18
                            try clear q52
                            try clear c53
                            try clear hcz54_0
                            try clear hcz54_1
                            try clear hcz54_2
                            try clear hcz54_3
                            try clear hcz54_4
                            try clear hcz55_0
                            try clear hcz55_1
                            try clear hcz55_2
                            try clear hcz55_3
                            try clear hcz55_4
                            try clear hfz54_0
                            try clear hfz54_1
                            try clear hfz54_2
                            try clear hfz54_3
                            try clear hfz54_4
                            try clear hfz55_0
                            try clear hfz55_1
                            try clear hfz55_2
                            try clear hfz55_3
                            try clear hfz55_4
                            try clear hx165_0
                            try clear p165
                            try clear q165
                            obtain ⟨kq, x78_36, rfl, HA, HJ36, HO_3, HO_4, BK166, HB⟩ := hcut
                            cases kq with
                            | zero => exact absurd HA.out (by simp [hatstandlaw14_events.j1])
                            | succ kj36 =>
                              have H := HA.out
                              clear HA
                              simp only [hatstandlaw14_events.j1] at H
                              by_cases c56 : x78_36 = true
                              · subst c56
                                have H1 : (if 0 ≤ x5_1 then (if x5_1 < (l0.length : Int) then (if x3_1.length < 4398046511104 then (if 0 ≤ t145 then (if t145 < (x4_1.length : Int) then (hatstandlaw14_events.l0 kj36 l0 (x3_1 ++ [(⟨t145, true, ((rd_T47 x3_1 (ji31)).f2), (rd_T61 l0 x5_1).f3, (rd y160 t164)⟩ : S47)]) (x4_1.set (t145 : Int).toNat 0) (wrap64 (x5_1 + 1))) else (none)) else (none)) else (none)) else (none)) else (none)) = some r := by rw [if_pos rfl] at H; exact H
                                clear H
                                have H := H1
                                clear H1
                                by_cases c57 : 0 ≤ x5_1
                                · rw [if_pos c57] at H
                                  have c57b0 : decide (0 ≤ x5_1) = true := decide_eq_true c57
                                  clear c57
                                  by_cases c58 : x5_1 < (l0.length : Int)
                                  · rw [if_pos c58] at H
                                    have c58b0 : decide (x5_1 < (l0.length : Int)) = true := decide_eq_true c58
                                    clear c58
                                    by_cases c59 : x3_1.length < 4398046511104
                                    · rw [if_pos c59] at H
                                      have LMc59 := Aside0.mk c59
                                      clear c59
                                      obtain ⟨y168, hy168⟩ : ∃ y_ : List (S47), y_ = (x3_1 ++ [(⟨t145, true, ((rd_T47 x3_1 (ji31)).f2), (rd_T61 l0 x5_1).f3, (rd y160 t164)⟩ : S47)]) := ⟨_, rfl⟩
                                      replace H : (if 0 ≤ t145 then (if t145 < (x4_1.length : Int) then (hatstandlaw14_events.l0 kj36 l0 y168 (x4_1.set (t145 : Int).toNat 0) (wrap64 (x5_1 + 1))) else (none)) else (none)) = some r := by first | (rw [hy168]; with_reducible exact H) | (have H2_ := (Option.bind_some _ _).symm.trans H; rw [hy168]; with_reducible exact H2_) | (have H2_ := (Option.bind_some _ _).symm.trans H; with_reducible exact H2_) | with_reducible exact H | (rw [hy168]; exact H) | exact H
                                      have Ny168 := Aside0.mk hy168
                                      clear hy168
                                      by_cases c60 : 0 ≤ t145
                                      · rw [if_pos c60] at H
                                        have c60b0 : decide (0 ≤ t145) = true := decide_eq_true c60
                                        clear c60
                                        by_cases c61 : t145 < (x4_1.length : Int)
                                        · rw [if_pos c61] at H
                                          have c61b0 : decide (t145 < (x4_1.length : Int)) = true := decide_eq_true c61
                                          clear c61
                                          obtain ⟨y171, hy171⟩ : ∃ y_ : List Int, y_ = (x4_1.set (t145 : Int).toNat 0) := ⟨_, rfl⟩
                                          replace H : (hatstandlaw14_events.l0 kj36 l0 y168 y171 (wrap64 (x5_1 + 1))) = some r := by first | (rw [hy171]; with_reducible exact H) | (have H2_ := (Option.bind_some _ _).symm.trans H; rw [hy171]; with_reducible exact H2_) | (have H2_ := (Option.bind_some _ _).symm.trans H; with_reducible exact H2_) | with_reducible exact H | (rw [hy171]; exact H) | exact H
                                          have Ny171 := Aside0.mk hy171
                                          clear hy171
                                          have H' := Aside0.mk H
                                          clear H
                                          have p167 : 0 ≤ (x5_1 : Int) := of_decide_eq_true (by first | (with_reducible assumption) | assumption)
                                          have q167 : x5_1 < (l0.length : Int) := of_decide_eq_true (by first | (with_reducible assumption) | assumption)
                                          obtain ⟨ad167, e167, hx167_0, hx167_1, hx167_2, hx167_3⟩ := at_T61 HR0.out x5_1 p167 q167
                                          obtain rfl : ad144 = ad167 := (by injection e167)
                                          replace hx167_0 := (HB.out.cell (World.block_lt_of_cell? w _ hx167_0)).trans hx167_0
                                          replace hx167_1 := (HB.out.cell (World.block_lt_of_cell? w _ hx167_1)).trans hx167_1
                                          replace hx167_2 := (HB.out.cell (World.block_lt_of_cell? w _ hx167_2)).trans hx167_2
                                          replace hx167_3 := (HB.out.cell (World.block_lt_of_cell? w _ hx167_3)).trans hx167_3
                                          replace p167 := eq_true p167
                                          replace q167 := eq_true q167
                                          have hcz63_0 : wc.cell? ⟨gb166, 0, none⟩ = some (.int .i64 t145) := (blk_cell BK166.out 0).trans rfl
                                          have hcz63_1 : wc.cell? ⟨gb166, 1, none⟩ = some (.bool true) := (blk_cell BK166.out 1).trans rfl
                                          have hcz63_2 : wc.cell? ⟨gb166, 2, none⟩ = some (.bool ((rd_T47 x3_1 (ji31)).f2)) := (blk_cell BK166.out 2).trans rfl
                                          have hcz63_3 : wc.cell? ⟨gb166, 3, none⟩ = some (.int .u64 0) := (blk_cell BK166.out 3).trans rfl
                                          have hcz63_4 : wc.cell? ⟨gb166, 4, none⟩ = some (.int .i64 (rd y160 t164)) := (blk_cell BK166.out 4).trans rfl
                                          have hfz63_0 := blk_frozen BK166.out 0
                                          have hfz63_1 := blk_frozen BK166.out 1
                                          have hfz63_2 := blk_frozen BK166.out 2
                                          have hfz63_3 := blk_frozen BK166.out 3
                                          have hfz63_4 := blk_frozen BK166.out 4
                                          go_wp2_with (first | ((with_reducible refine gate_builtin (b := .append) (xs := #[.tmp 85, .tmp 87]) rfl ?_); at_builtin; refine Kd.R_append k47 (w0 := w) w.heap.size rfl (.tmp 85) (.tmp 87) 22 47 (.agg #[(.int .i64 0), (.bool false), (.bool false), (.int .u64 0), (.int .i64 0)]) 32 rfl Try.underlying22 info47 rfl (by decide) (by omega) (.slice (some ad159) x3_1.length co40) x3_1 (⟨t145, true, ((rd_T47 x3_1 (ji31)).f2), (rd_T61 l0 x5_1).f3, (rd y160 t164)⟩ : S47) [.int .i64 t145, .bool true, .bool ((rd_T47 x3_1 (ji31)).f2), .int .u64 ((rd_T61 l0 x5_1).f3), .int .i64 (rd y160 t164)] (fun k_ => k_ ≠ gb166) (fun _ => False) rfl (by first | (go_simp; done) | (go_simp; rfl)) ?aP (fun _ hk => hk.elim) ?aF ?aO ?aB ?aS ?aL ?_; (case aP => exact k47_mkM _ _ _ (⟨t145, true, ((rd_T47 x3_1 (ji31)).f2), (rd_T61 l0 x5_1).f3, (rd y160 t164)⟩ : S47)); (case aB => exact (by repeat (first | (with_reducible first | exact HB.out | apply below_alloc | apply pw_below_drewN | apply below_drew1 | refine below_set ?_ GE166.out) | exact HB.out))); (case aF => exact (fun k_ hk => Kd.freshB (g := gb166) (o := .cells #[.int .i64 t145, .bool true, .bool ((rd_T47 x3_1 (ji31)).f2), .int .u64 ((rd_T61 l0 x5_1).f3), .int .i64 (rd y160 t164)] 47 (0, 0)) (by (with_reducible repeat (first | refine blk_drewN ?_ _ | refine blk_drew ?_ | refine blk_alloc ?_ _)); refine blk_put (cs := #[.int .i64 t145, .bool true, .bool ((rd_T47 x3_1 (ji31)).f2), .int .u64 0, .int .i64 (rd y160 t164)]) ?_ 3 _ rfl; (with_reducible repeat (first | refine blk_drewN ?_ _ | refine blk_drew ?_ | refine blk_alloc ?_ _)); exact BK166.out) k_ hk)); (case aO => exact (by (with_reducible repeat (first | apply Kd.R_alloc | apply Kd.R_drewN | apply Kd.R_drew)); exact Kd.R_mono (Kd.R_far (p := ⟨gb166, 3, none⟩) (Kd.R_mono HO_3.out (fun k_ hk => (⟨hk, hk⟩ : _ ∧ k_ ≠ gb166))) (fun _ hk => hk.2) (.int .u64 ((rd_T61 l0 x5_1).f3))) (fun _ hk => hk.1))); (case aS => exact (below_size (by repeat (first | (with_reducible first | exact HB.out | apply below_alloc | apply pw_below_drewN | apply below_drew1 | refine below_set ?_ GE166.out) | exact HB.out)))); (case aL => have := LMc59.out; omega); intro v169 w64 ho hb hg hat; rw [← Ny168.out] at ho; have n0_ := Aside0.mk (Kd.R_over' (by (with_reducible repeat (first | apply Kd.R_alloc | apply Kd.R_drewN | apply Kd.R_drew)); exact (Kd.R_mono (Kd.R_far (p := ⟨gb166, 3, none⟩) (Kd.R_types HO_4.out BK166.out (by decide)) (fun _ hk => hk.2) (.int .u64 ((rd_T61 l0 x5_1).f3))) (fun _ h_ => h_.1))) (Kd.R_typed (by (with_reducible repeat (first | apply Kd.R_alloc | apply Kd.R_drewN | apply Kd.R_drew)); exact (Kd.R_mono (Kd.R_far (p := ⟨gb166, 3, none⟩) (Kd.R_mono HO_3.out (fun k_ hk => (⟨hk, hk⟩ : _ ∧ k_ ≠ gb166))) (fun _ hk => hk.2) (.int .u64 ((rd_T61 l0 x5_1).f3))) (fun _ h_ => h_.1)))) (by decide) hg); have n1_ := Aside0.mk (blk_grown (g := gb166) (o := .cells #[.int .i64 t145, .bool true, .bool ((rd_T47 x3_1 (ji31)).f2), .int .u64 ((rd_T61 l0 x5_1).f3), .int .i64 (rd y160 t164)] 47 (0, 0)) (by (with_reducible repeat (first | refine blk_drewN ?_ _ | refine blk_drew ?_ | refine blk_alloc ?_ _)); refine blk_put (cs := #[.int .i64 t145, .bool true, .bool ((rd_T47 x3_1 (ji31)).f2), .int .u64 0, .int .i64 (rd y160 t164)]) ?_ 3 _ rfl; (with_reducible repeat (first | refine blk_drewN ?_ _ | refine blk_drew ?_ | refine blk_alloc ?_ _)); exact BK166.out) hg (Kd.R_away HO_3.out (fun _ hk => hk))); have n2_ := Aside0.mk (hb); have n3_ := Aside0.mk (ho); clear HO_4; clear BK166; clear HB; clear HO_3; have HO_4 := n0_; have BK166 := n1_; have HB := n2_; have HO170 := n3_; clear n0_ n1_ n2_ n3_; clear ho hb hg hat; have p62 : 0 ≤ (t145 : Int) := of_decide_eq_true (by first | (with_reducible assumption) | assumption); have q62 : (t145 : Int) < ((x4_1.length : Int) : Int) := of_decide_eq_true (by first | (with_reducible assumption) | assumption); obtain ⟨go62, co62, eo62, gb62, gl62, cl62, HG62⟩ := Kd.R_form HO_4.out (by omega); (first | cases eo62 | (injection eo62 with ea_ en_ ec_; (first | subst ea_ | (injection ea_ with ea_; subst ea_)); subst ec_; clear en_)); have GB62 := Aside0.mk gb62; have GG62 := Aside0.mk HG62; clear gb62 gl62 HG62; (first | simp only [add_plain] at hx146_0 | skip); (first | simp only [add_plain] at hx158_0 | skip); obtain ⟨hx62_0, hf62_0⟩ := Kd.R_celln 0 HO_4.out (t145 : Int) p62 q62; replace p62 := eq_true p62; replace q62 := eq_true q62; obtain ⟨hy65_, hz65_⟩ := Kd.R_celln 0 HO_4.out (t145 : Int) (of_decide_eq_true (by first | (with_reducible assumption) | assumption)) (of_decide_eq_true (by first | (with_reducible assumption) | assumption)); have HP65 := Kd.R_putg HO_4.out (t145 : Int) 0) | ((with_reducible refine gate_store (t := 3) (p := 91) rfl ?_); refine store_event (t := 3) (p := 91) (v := ?vo_w66) (w1 := (w64.setCell ⟨go62, (t145 : Int).toNat, none⟩ (.int .i64 0))) ?hg ?ho ?hn ?hr ?_; (case ho => rfl); (case hg => rfl); (case hn => rfl); (case hr => first | (go_simp; done) | (go_simp; rfl)); intro w66 hw; have hg : w64.grownBy w66 (some go62) := (by rw [hw]; exact HP65.2); have hp_ : Kd.R (Kd.int .i64) 3 w66 w.heap.size (fun _ => True) (.slice (some ⟨go62, 0, none⟩) x4_1.length co38) y171 := (by rw [hw, Ny171.out]; exact HP65.1); clear HP65; have n0_ := Aside0.mk (hp_); have n1_ := Aside0.mk (blk_grown (g := gb166) (o := .cells #[.int .i64 t145, .bool true, .bool ((rd_T47 x3_1 (ji31)).f2), .int .u64 ((rd_T61 l0 x5_1).f3), .int .i64 (rd y160 t164)] 47 (0, 0)) (by (with_reducible repeat (first | refine blk_drewN ?_ _ | refine blk_drew ?_ | refine blk_alloc ?_ _)); exact BK166.out) hg (Kd.R_ne HO_4.out BK166.out (by decide))); have n2_ := Aside0.mk (Kd.R_over' (v := (.slice (some ⟨go62, 0, none⟩) x4_1.length co38)) (by (with_reducible repeat (first | apply Kd.R_alloc | apply Kd.R_drewN | apply Kd.R_drew)); exact HO170.out) (Kd.R_typed HO_4.out) (by decide) hg); have n3_ := Aside0.mk ((by rw [hw]; exact below_set (HB.out) GB62.out : Below w.heap.size w w66)); clear HO_4; clear BK166; clear HO170; clear HB; have HO_4 := n0_; have BK166 := n1_; have HO170 := n2_; have HB := n3_; clear n0_ n1_ n2_ n3_; clear hg hw hp_))
                                          go_roundg kj36
                                          case measure => have := HK1.out; have := HJ36.out; omega
                                          case rel => exact ⟨(y168), (y171), (wrap64 (x5_1 + 1)), (by first | rfl | (simp; done) | (simp [*]; done)), H', ⟨by have := HK1.out; have := HJ36.out; omega⟩, ⟨by (with_reducible repeat (first | apply Kd.R_alloc | apply Kd.R_drewN | apply Kd.R_drew)); exact Kd.R_mono HO170.out (fun _ hk => trivial)⟩, ⟨by (with_reducible repeat (first | apply Kd.R_alloc | apply Kd.R_drewN | apply Kd.R_drew)); exact HO_4.out⟩, ⟨by repeat (first | (with_reducible first | exact HB.out | apply below_alloc | apply pw_below_drewN | apply below_drew1 | refine below_set ?_ GE166.out) | exact HB.out)⟩⟩
                                        · rw [if_neg c61] at H
                                          exact absurd H (by simp)
                                      · rw [if_neg c60] at H
                                        exact absurd H (by simp)
                                    · rw [if_neg c59] at H
                                      exact absurd H (by simp)
                                  · rw [if_neg c58] at H
                                    exact absurd H (by simp)
                                · rw [if_neg c57] at H
                                  exact absurd H (by simp)
                              · replace c56 := Bool.eq_false_iff.mpr c56
                                subst c56
                                have H1 : (if x3_1.length < 4398046511104 then (if 0 ≤ t145 then (if t145 < (x4_1.length : Int) then (hatstandlaw14_events.l0 kj36 l0 (x3_1 ++ [(⟨t145, true, ((rd_T47 x3_1 (ji31)).f2), 0, (rd y160 t164)⟩ : S47)]) (x4_1.set (t145 : Int).toNat 0) (wrap64 (x5_1 + 1))) else (none)) else (none)) else (none)) = some r := by rw [if_neg (show ¬ (false = true) by decide)] at H; exact H
                                clear H
                                have H := H1
                                clear H1
                                by_cases c67 : x3_1.length < 4398046511104
                                · rw [if_pos c67] at H
                                  have LMc67 := Aside0.mk c67
                                  clear c67
                                  obtain ⟨y172, hy172⟩ : ∃ y_ : List (S47), y_ = (x3_1 ++ [(⟨t145, true, ((rd_T47 x3_1 (ji31)).f2), 0, (rd y160 t164)⟩ : S47)]) := ⟨_, rfl⟩
                                  replace H : (if 0 ≤ t145 then (if t145 < (x4_1.length : Int) then (hatstandlaw14_events.l0 kj36 l0 y172 (x4_1.set (t145 : Int).toNat 0) (wrap64 (x5_1 + 1))) else (none)) else (none)) = some r := by first | (rw [hy172]; with_reducible exact H) | (have H2_ := (Option.bind_some _ _).symm.trans H; rw [hy172]; with_reducible exact H2_) | (have H2_ := (Option.bind_some _ _).symm.trans H; with_reducible exact H2_) | with_reducible exact H | (rw [hy172]; exact H) | exact H
                                  have Ny172 := Aside0.mk hy172
                                  clear hy172
                                  by_cases c68 : 0 ≤ t145
                                  · rw [if_pos c68] at H
                                    have c68b0 : decide (0 ≤ t145) = true := decide_eq_true c68
                                    clear c68
                                    by_cases c69 : t145 < (x4_1.length : Int)
                                    · rw [if_pos c69] at H
                                      have c69b0 : decide (t145 < (x4_1.length : Int)) = true := decide_eq_true c69
                                      clear c69
                                      obtain ⟨y175, hy175⟩ : ∃ y_ : List Int, y_ = (x4_1.set (t145 : Int).toNat 0) := ⟨_, rfl⟩
                                      replace H : (hatstandlaw14_events.l0 kj36 l0 y172 y175 (wrap64 (x5_1 + 1))) = some r := by first | (rw [hy175]; with_reducible exact H) | (have H2_ := (Option.bind_some _ _).symm.trans H; rw [hy175]; with_reducible exact H2_) | (have H2_ := (Option.bind_some _ _).symm.trans H; with_reducible exact H2_) | with_reducible exact H | (rw [hy175]; exact H) | exact H
                                      have Ny175 := Aside0.mk hy175
                                      clear hy175
                                      have H' := Aside0.mk H
                                      clear H
                                      have hcz71_0 : wc.cell? ⟨gb166, 0, none⟩ = some (.int .i64 t145) := (blk_cell BK166.out 0).trans rfl
                                      have hcz71_1 : wc.cell? ⟨gb166, 1, none⟩ = some (.bool true) := (blk_cell BK166.out 1).trans rfl
                                      have hcz71_2 : wc.cell? ⟨gb166, 2, none⟩ = some (.bool ((rd_T47 x3_1 (ji31)).f2)) := (blk_cell BK166.out 2).trans rfl
                                      have hcz71_3 : wc.cell? ⟨gb166, 3, none⟩ = some (.int .u64 0) := (blk_cell BK166.out 3).trans rfl
                                      have hcz71_4 : wc.cell? ⟨gb166, 4, none⟩ = some (.int .i64 (rd y160 t164)) := (blk_cell BK166.out 4).trans rfl
                                      have hfz71_0 := blk_frozen BK166.out 0
                                      have hfz71_1 := blk_frozen BK166.out 1
                                      have hfz71_2 := blk_frozen BK166.out 2
                                      have hfz71_3 := blk_frozen BK166.out 3
                                      have hfz71_4 := blk_frozen BK166.out 4
                                      go_wp2_with (first | ((with_reducible refine gate_builtin (b := .append) (xs := #[.tmp 85, .tmp 87]) rfl ?_); at_builtin; refine Kd.R_append k47 (w0 := w) w.heap.size rfl (.tmp 85) (.tmp 87) 22 47 (.agg #[(.int .i64 0), (.bool false), (.bool false), (.int .u64 0), (.int .i64 0)]) 32 rfl Try.underlying22 info47 rfl (by decide) (by omega) (.slice (some ad159) x3_1.length co40) x3_1 (⟨t145, true, ((rd_T47 x3_1 (ji31)).f2), 0, (rd y160 t164)⟩ : S47) [.int .i64 t145, .bool true, .bool ((rd_T47 x3_1 (ji31)).f2), .int .u64 0, .int .i64 (rd y160 t164)] (fun k_ => k_ ≠ gb166) (fun _ => False) rfl rfl ?aP (fun _ hk => hk.elim) ?aF ?aO ?aB ?aS ?aL ?_; (case aP => exact k47_mkM _ _ _ (⟨t145, true, ((rd_T47 x3_1 (ji31)).f2), 0, (rd y160 t164)⟩ : S47)); (case aB => exact (by repeat (first | (with_reducible first | exact HB.out | apply below_alloc | apply pw_below_drewN | apply below_drew1 | refine below_set ?_ GE166.out) | exact HB.out))); (case aF => exact (fun k_ hk => Kd.freshB (g := gb166) (o := .cells #[.int .i64 t145, .bool true, .bool ((rd_T47 x3_1 (ji31)).f2), .int .u64 0, .int .i64 (rd y160 t164)] 47 (0, 0)) (by (with_reducible repeat (first | refine blk_drewN ?_ _ | refine blk_drew ?_ | refine blk_alloc ?_ _)); exact BK166.out) k_ hk)); (case aO => exact (by (with_reducible repeat (first | apply Kd.R_alloc | apply Kd.R_drewN | apply Kd.R_drew)); exact HO_3.out)); (case aS => exact (below_size (by repeat (first | (with_reducible first | exact HB.out | apply below_alloc | apply pw_below_drewN | apply below_drew1 | refine below_set ?_ GE166.out) | exact HB.out)))); (case aL => have := LMc67.out; omega); intro v173 w72 ho hb hg hat; rw [← Ny172.out] at ho; have n0_ := Aside0.mk (Kd.R_over' (by (with_reducible repeat (first | apply Kd.R_alloc | apply Kd.R_drewN | apply Kd.R_drew)); exact HO_4.out) (Kd.R_typed (by (with_reducible repeat (first | apply Kd.R_alloc | apply Kd.R_drewN | apply Kd.R_drew)); exact HO_3.out)) (by decide) hg); have n1_ := Aside0.mk (blk_grown (g := gb166) (o := .cells #[.int .i64 t145, .bool true, .bool ((rd_T47 x3_1 (ji31)).f2), .int .u64 0, .int .i64 (rd y160 t164)] 47 (0, 0)) (by (with_reducible repeat (first | refine blk_drewN ?_ _ | refine blk_drew ?_ | refine blk_alloc ?_ _)); exact BK166.out) hg (Kd.R_away HO_3.out (fun _ hk => hk))); have n2_ := Aside0.mk (hb); have n3_ := Aside0.mk (ho); clear HO_4; clear BK166; clear HB; clear HO_3; have HO_4 := n0_; have BK166 := n1_; have HB := n2_; have HO174 := n3_; clear n0_ n1_ n2_ n3_; clear ho hb hg hat; have p70 : 0 ≤ (t145 : Int) := of_decide_eq_true (by first | (with_reducible assumption) | assumption); have q70 : (t145 : Int) < ((x4_1.length : Int) : Int) := of_decide_eq_true (by first | (with_reducible assumption) | assumption); obtain ⟨go70, co70, eo70, gb70, gl70, cl70, HG70⟩ := Kd.R_form HO_4.out (by omega); (first | cases eo70 | (injection eo70 with ea_ en_ ec_; (first | subst ea_ | (injection ea_ with ea_; subst ea_)); subst ec_; clear en_)); have GB70 := Aside0.mk gb70; have GG70 := Aside0.mk HG70; clear gb70 gl70 HG70; obtain ⟨hx70_0, hf70_0⟩ := Kd.R_celln 0 HO_4.out (t145 : Int) p70 q70; replace p70 := eq_true p70; replace q70 := eq_true q70; obtain ⟨hy73_, hz73_⟩ := Kd.R_celln 0 HO_4.out (t145 : Int) (of_decide_eq_true (by first | (with_reducible assumption) | assumption)) (of_decide_eq_true (by first | (with_reducible assumption) | assumption)); have HP73 := Kd.R_putg HO_4.out (t145 : Int) 0) | ((with_reducible refine gate_store (t := 3) (p := 91) rfl ?_); refine store_event (t := 3) (p := 91) (v := ?vo_w74) (w1 := (w72.setCell ⟨go70, (t145 : Int).toNat, none⟩ (.int .i64 0))) ?hg ?ho ?hn ?hr ?_; (case ho => rfl); (case hg => rfl); (case hn => rfl); (case hr => first | (go_simp; done) | (go_simp; rfl)); intro w74 hw; have hg : w72.grownBy w74 (some go70) := (by rw [hw]; exact HP73.2); have hp_ : Kd.R (Kd.int .i64) 3 w74 w.heap.size (fun _ => True) (.slice (some ⟨go70, 0, none⟩) x4_1.length co38) y175 := (by rw [hw, Ny175.out]; exact HP73.1); clear HP73; have n0_ := Aside0.mk (hp_); have n1_ := Aside0.mk (blk_grown (g := gb166) (o := .cells #[.int .i64 t145, .bool true, .bool ((rd_T47 x3_1 (ji31)).f2), .int .u64 0, .int .i64 (rd y160 t164)] 47 (0, 0)) (by (with_reducible repeat (first | refine blk_drewN ?_ _ | refine blk_drew ?_ | refine blk_alloc ?_ _)); exact BK166.out) hg (Kd.R_ne HO_4.out BK166.out (by decide))); have n2_ := Aside0.mk (Kd.R_over' (v := (.slice (some ⟨go70, 0, none⟩) x4_1.length co38)) (by (with_reducible repeat (first | apply Kd.R_alloc | apply Kd.R_drewN | apply Kd.R_drew)); exact HO174.out) (Kd.R_typed HO_4.out) (by decide) hg); have n3_ := Aside0.mk ((by rw [hw]; exact below_set (HB.out) GB70.out : Below w.heap.size w w74)); clear HO_4; clear BK166; clear HO174; clear HB; have HO_4 := n0_; have BK166 := n1_; have HO174 := n2_; have HB := n3_; clear n0_ n1_ n2_ n3_; clear hg hw hp_))
                                      go_roundg kj36
                                      case measure => have := HK1.out; have := HJ36.out; omega
                                      case rel => exact ⟨(y172), (y175), (wrap64 (x5_1 + 1)), (by first | rfl | (simp; done) | (simp [*]; done)), H', ⟨by have := HK1.out; have := HJ36.out; omega⟩, ⟨by (with_reducible repeat (first | apply Kd.R_alloc | apply Kd.R_drewN | apply Kd.R_drew)); exact Kd.R_mono HO174.out (fun _ hk => trivial)⟩, ⟨by (with_reducible repeat (first | apply Kd.R_alloc | apply Kd.R_drewN | apply Kd.R_drew)); exact HO_4.out⟩, ⟨by repeat (first | (with_reducible first | exact HB.out | apply below_alloc | apply pw_below_drewN | apply below_drew1 | refine below_set ?_ GE166.out) | exact HB.out)⟩⟩
                                    · rw [if_neg c69] at H
                                      exact absurd H (by simp)
                                  · rw [if_neg c68] at H
                                    exact absurd H (by simp)
                                · rw [if_neg c67] at H
                                  exact absurd H (by simp)
                        · rw [if_neg c36] at H
                          exact absurd H (by simp)
                      · rw [if_neg c35] at H
                        exact absurd H (by simp)
                    · rw [if_neg c33] at H
                      exact absurd H (by simp)
                  · rw [if_neg c32] at H
                    exact absurd H (by simp)
              · rw [if_neg c9] at H
                exact absurd H (by simp)
            · rw [if_neg c8] at H
              exact absurd H (by simp)
          · rw [if_neg c6] at H
            exact absurd H (by simp)
        · rw [if_neg c5] at H
          have c5b0 : decide (x5_1 < (l0.length : Int)) = false := decide_eq_false c5
          clear c5
          obtain rfl := Option.some.inj H
          go_wp2
          go_ret
          exact ⟨_, by first | rfl | (simp [errW_none, errW_some] <;> rfl) | (simp [*, errW_none, errW_some] <;> rfl), by (with_reducible repeat (first | apply Kd.R_alloc | apply Kd.R_drewN | apply Kd.R_drew)); exact HO_3.out, by repeat (first | (with_reducible first | exact HB.out | apply below_alloc | apply pw_below_drewN | apply below_drew1) | exact HB.out)⟩
  · rw [if_neg c2] at H
    exact absurd H (by simp)

end Go.Proofs.Ytmdjmfbinjnlcaa.P
