/- Walks, written by a program for this claim: each Go function that the laws reach comes to what its Lean function says. -/
import Derived.Test.YtdcnnphgcapiaaaPx0
import Derived.Test.YtdcnnphgcapiaaaPx8
namespace Go.Proofs.Ytdcnnphgcapiaaa.P
open Go.RowKit Go.Proofs.YtdcnnphgcapiaaaW.PrintWords Go.Proofs.YtdcnnphgcapiaaaW.PrintLast Go.Proofs.YtdcnnphgcapiaaaW.PrintMore
attribute [local go_sem] max2_int min2_int max_two min_two max_three min_three max_four min_four   -- for this text's walks alone
set_option linter.unusedVariables false
set_option linter.unusedSimpArgs false

/-! ### hatstandlaw15_made: function 11 -/
mutual
def hatstandlaw15_made.l0 : Nat → List (S51) → Int → List (S30) → List Int → Int → Option ((List (S30)))
  | 0, _, _, _, _, _ => none
  | k + 1, x0, x1, x5, x6, x7 => if x7 < (x0.length : Int) then (if 0 ≤ x7 then ((hatstandlaw15_pick.f ((rd_T51 x0 x7).f3) 700).bind fun t212 => ((hatstandlaw15_pick.f (wrap64 (Int.tdiv ((rd_T51 x0 x7).f3) 7)) 700).bind fun t214 => ((hatstandref15_Status.f x6 x1 ((rd_T51 x0 x7).f0) ((rd_T51 x0 x7).f2)).bind fun bt218 => (if ((rd_T51 x0 x7).f0 = true) then (hatstandlaw15_made.j1 k x0 x1 x5 x6 x7 bt218.1 x7 ((rd_T51 x0 x7).f0) ((rd_T51 x0 x7).f2) bt218.2.2 (wrap64 ((wrap64 ((wrap64 (100 * x7)) - t212)) + 1000)) (wrap64 ((wrap64 ((wrap64 (100 * x7)) + t214)) + 1001))) else (hatstandlaw15_made.j1 k x0 x1 x5 x6 x7 bt218.1 x7 ((rd_T51 x0 x7).f0) bt218.2.1 bt218.2.2 (wrap64 ((wrap64 ((wrap64 (100 * x7)) - t212)) + 1000)) (wrap64 ((wrap64 ((wrap64 (100 * x7)) + t214)) + 1001))))))) else (none)) else (some x5)
def hatstandlaw15_made.j1 : Nat → List (S51) → Int → List (S30) → List Int → Int → List Int → Int → Bool → Int → Int → Int → Int → Option ((List (S30)))
  | 0, _, _, _, _, _, _, _, _, _, _, _, _ => none
  | k + 1, x0, x1, x5, x6, x7, x9, x216000, x216001, x216002, x216003, x216004, x216005 => if 0 ≤ x7 then (if x7 < (x0.length : Int) then (if (rd_T51 x0 x7).f1 = true then (if x5.length < 2932031007402 then (hatstandlaw15_made.l0 k x0 x1 (x5 ++ [(⟨x216000, x216001, x216002, 6, x216004, x216005⟩ : S30)]) x6 (wrap64 (x7 + 1))) else (none)) else (if x5.length < 2932031007402 then (hatstandlaw15_made.l0 k x0 x1 (x5 ++ [(⟨x216000, x216001, x216002, x216003, x216004, x216005⟩ : S30)]) x9 (wrap64 (x7 + 1))) else (none))) else (none)) else (none)
end
def hatstandlaw15_made.f (k : Nat) (l0 : List (S51)) (a1 : Int) : Option ((List (S30))) := hatstandlaw15_made.l0 k l0 a1 ([] : List (S30)) ([] : List Int) 0
theorem hatstandlaw15_made.mono_l : ∀ k, (∀ y0 y1 y2 y3 y4, LeO (hatstandlaw15_made.l0 k y0 y1 y2 y3 y4) (hatstandlaw15_made.l0 (k + 1) y0 y1 y2 y3 y4)) ∧ (∀ y0 y1 y2 y3 y4 y5 y6 y7 y8 y9 y10 y11, LeO (hatstandlaw15_made.j1 k y0 y1 y2 y3 y4 y5 y6 y7 y8 y9 y10 y11) (hatstandlaw15_made.j1 (k + 1) y0 y1 y2 y3 y4 y5 y6 y7 y8 y9 y10 y11))
  | 0 => ⟨fun _ _ _ _ _ r h => by simp [hatstandlaw15_made.l0] at h, fun _ _ _ _ _ _ _ _ _ _ _ _ r h => by simp [hatstandlaw15_made.j1] at h⟩
  | k + 1 => by
    obtain ⟨ih0, ih1⟩ := hatstandlaw15_made.mono_l k
    refine ⟨?_, ?_⟩
    · intro y0 y1 y2 y3 y4
      unfold hatstandlaw15_made.l0
      repeat' first
      | (with_reducible exact ih0 _ _ _ _ _)
      | (with_reducible exact ih1 _ _ _ _ _ _ _ _ _ _ _ _)
      | (with_reducible exact LeO.refl _)
      | (with_reducible exact LeO.none _)
      | (with_reducible refine LeO.ite ?_ ?_)
      | (with_reducible refine LeO.bind ?_ (fun _ => ?_))
      | exact ih0 _ _ _ _ _
      | exact ih1 _ _ _ _ _ _ _ _ _ _ _ _
      | exact LeO.none _
      | refine LeO.ite ?_ ?_
      | refine LeO.bind ?_ (fun _ => ?_)
    · intro y0 y1 y2 y3 y4 y5 y6 y7 y8 y9 y10 y11
      unfold hatstandlaw15_made.j1
      repeat' first
      | (with_reducible exact ih0 _ _ _ _ _)
      | (with_reducible exact ih1 _ _ _ _ _ _ _ _ _ _ _ _)
      | (with_reducible exact LeO.refl _)
      | (with_reducible exact LeO.none _)
      | (with_reducible refine LeO.ite ?_ ?_)
      | (with_reducible refine LeO.bind ?_ (fun _ => ?_))
      | exact ih0 _ _ _ _ _
      | exact ih1 _ _ _ _ _ _ _ _ _ _ _ _
      | exact LeO.none _
      | refine LeO.ite ?_ ?_
      | refine LeO.bind ?_ (fun _ => ?_)
theorem hatstandlaw15_made.mono : ∀ a0 a1 k, LeO (hatstandlaw15_made.f k a0 a1) (hatstandlaw15_made.f (k + 1) a0 a1) := by
  intro a0 a1 k
  obtain ⟨ih0, ih1⟩ := hatstandlaw15_made.mono_l k
  unfold hatstandlaw15_made.f
  repeat' first
      | (with_reducible exact ih0 _ _ _ _ _)
      | (with_reducible exact ih1 _ _ _ _ _ _ _ _ _ _ _ _)
      | (with_reducible exact LeO.refl _)
      | (with_reducible exact LeO.none _)
      | (with_reducible refine LeO.ite ?_ ?_)
      | (with_reducible refine LeO.bind ?_ (fun _ => ?_))
      | exact ih0 _ _ _ _ _
      | exact ih1 _ _ _ _ _ _ _ _ _ _ _ _
      | exact LeO.none _
      | refine LeO.ite ?_ ?_
      | refine LeO.bind ?_ (fun _ => ?_)
def hatstandlaw15_made.T6 : Bool × List (List Nat × List Nat) := (true, [([], []), ([], []), ([], []), ([1, 2], [1, 2]), ([3], [3]), ([4], [4]), ([], []), ([], []), ([6, 7], [6, 7]), ([8], [8]), ([9], [9]), ([], []), ([11], [11]), ([], []), ([], []), ([13, 14], [13, 14]), ([15], [15]), ([16], [16]), ([17], [17]), ([12, 18], [12, 18]), ([19], [19]), ([], []), ([21], [21]), ([], []), ([], []), ([23, 24], [23, 24]), ([25], [25]), ([26], [26]), ([27], [27]), ([28, 18], [28]), ([22, 29], [22, 29]), ([30], [30]), ([0, 5, 10, 20, 31], [0, 5, 10, 20, 31]), ([], []), ([33, 32, 29, 0, 1, 2, 3, 4, 5, 6, 7, 8, 9, 10, 11, 12, 13, 14, 15, 16, 17, 18, 19, 20, 21, 22, 23, 24, 25, 26, 27, 28, 29, 30, 31, 32, 33], [32, 33])])
def hatstandlaw15_made.B6 : List Nat := [0, 0, 0, 6, 14, 30, 0, 0, 192, 448, 960, 0, 2048, 0, 0, 24576, 57344, 122880, 253952, 522240, 1046528, 0, 2097152, 0, 0, 25165824, 58720256, 125829120, 260046848, 528998400, 1072160768, 2145902592, 4294967295, 0, 17179869183]
theorem hatstandlaw15_made.tab6 : rtab .any (opsOf Try.f11 6) = hatstandlaw15_made.T6 := by kernel_rfl
theorem hatstandlaw15_made.bits6 : waitsOk hatstandlaw15_made.T6.2 hatstandlaw15_made.B6 = true := by kernel_rfl
def hatstandlaw15_made.T7 : Bool × List (List Nat × List Nat) := (true, [([], []), ([], []), ([], []), ([], []), ([2, 3], [2, 3]), ([4], [4]), ([5], [5]), ([], []), ([], []), ([7, 8], [7, 8]), ([9], [9]), ([10], [10]), ([0, 1, 6, 11], [0, 1, 6, 11]), ([12], [12]), ([13], [13]), ([13], [13]), ([13], [13]), ([14, 12, 0, 1, 2, 3, 4, 5, 6, 7, 8, 9, 10, 11, 12, 13, 14], [14]), ([15, 17, 0, 1, 2, 3, 4, 5, 6, 7, 8, 9, 10, 11, 12, 13, 14, 15, 17], [15]), ([16, 18, 0, 1, 2, 3, 4, 5, 6, 7, 8, 9, 10, 11, 12, 13, 14, 15, 16, 17, 18], [16])])
def hatstandlaw15_made.B7 : List Nat := [0, 0, 0, 0, 12, 28, 60, 0, 0, 384, 896, 1920, 4095, 8191, 16383, 16383, 16383, 32767, 196607, 524287]
theorem hatstandlaw15_made.tab7 : rtab .any (opsOf Try.f11 7) = hatstandlaw15_made.T7 := by kernel_rfl
theorem hatstandlaw15_made.bits7 : waitsOk hatstandlaw15_made.T7.2 hatstandlaw15_made.B7 = true := by kernel_rfl
set_option maxHeartbeats 8000000 in
set_option maxRecDepth 100000 in
theorem hatstandlaw15_made.calls (k : Nat) (A0 : Option Addr) (c0 : Nat) (l0 : List (S51)) (a1 : Int) (r : List (S30)) (w : World) (hr0 : Kd.C k51 w A0 l0.length l0) (hc0 : l0.length ≤ c0) (h : hatstandlaw15_made.f k l0 a1 = some r) :
    Calls Try.prog 11 #[.slice A0 l0.length c0, .int .i64 a1] w fun e w' => ∃ v0_ : Value, e = .returned (v0_) ∧ Kd.R k30 30 w' w.heap.size (fun _ => True) v0_ r ∧ Below w.heap.size w w' := by
  have hu30 := Try.underlying30
  have HR0 := Aside0.mk hr0
  have HC0 := Aside0.mk hc0
  clear hr0 hc0
  have HB := Aside0.mk (Below.refl w.heap.size w)
  have H : (hatstandlaw15_made.l0 k l0 a1 ([] : List (S30)) ([] : List Int) 0) = some r := h
  clear h
  have H' := Aside0.mk H
  clear H
  go_enter Try.func11, Try.ntmps11
  go_wp2
  go_loopg [5, 6, 7] k (fun kq v5 v6 v7 w' => ∃ (x5_1 : List (S30)) (x6_1 : List Int) (x7_1 : Int), v7 = .int .i64 x7_1 ∧ Aside0 (hatstandlaw15_made.l0 kq l0 a1 x5_1 x6_1 x7_1 = some r) ∧ Aside0 (kq ≤ k) ∧ Aside0 (Kd.R k30 30 w' w.heap.size (fun _ => True) v5 x5_1) ∧ Aside0 (Kd.R (Kd.int .u64) 27 w' w.heap.size (fun _ => True) v6 x6_1) ∧ Aside0 (Below w.heap.size w w'))
  case atStart => exact ⟨(([] : List (S30))), (([] : List Int)), (0), (by first | rfl | (simp; done) | (simp [*]; done)), H', ⟨Nat.le_refl _⟩, ⟨by first | exact Kd.R_nil _ _ _ _ _ | exact Kd.N_nil _ _ _ _ _ | exact Kd.V_nil _ _ _ _ _ | exact Kd.Q_nil _ _ _ _ _ | exact Kd.S_nil _ _ _ _ _⟩, ⟨by first | exact Kd.R_nil _ _ _ _ _ | exact Kd.N_nil _ _ _ _ _ | exact Kd.V_nil _ _ _ _ _ | exact Kd.Q_nil _ _ _ _ _ | exact Kd.S_nil _ _ _ _ _⟩, ⟨by repeat (first | (with_reducible first | exact HB.out | apply below_alloc | apply pw_below_drewN | apply below_drew1) | exact HB.out)⟩⟩
  case round =>
    clear H'
    try clear c1
    try clear p2
    obtain ⟨x5_1, x6_1, x7_1, rfl, HA, HK1, HO_5, HO_6, HB⟩ := hrel
    cases gk with
    | zero => exact absurd HA.out (by simp [hatstandlaw15_made.l0])
    | succ k1 =>
      have H := HA.out
      clear HA
      simp only [hatstandlaw15_made.l0] at H
      by_cases c3 : x7_1 < (l0.length : Int)
      · rw [if_pos c3] at H
        have c3b0 : decide (x7_1 < (l0.length : Int)) = true := decide_eq_true c3
        clear c3
        by_cases c4 : 0 ≤ x7_1
        · rw [if_pos c4] at H
          have c4b0 : decide (0 ≤ x7_1) = true := decide_eq_true c4
          clear c4
          replace H := Option.bind_eq_some_iff.mp H
          obtain ⟨t212, A50, H⟩ := H
          replace H : ((hatstandlaw15_pick.f (wrap64 (Int.tdiv ((rd_T51 l0 x7_1).f3) 7)) 700).bind fun t214 => ((hatstandref15_Status.f x6_1 a1 ((rd_T51 l0 x7_1).f0) ((rd_T51 l0 x7_1).f2)).bind fun bt218 => (if ((rd_T51 l0 x7_1).f0 = true) then (hatstandlaw15_made.j1 k1 l0 a1 x5_1 x6_1 x7_1 bt218.1 x7_1 ((rd_T51 l0 x7_1).f0) ((rd_T51 l0 x7_1).f2) bt218.2.2 (wrap64 ((wrap64 ((wrap64 (100 * x7_1)) - t212)) + 1000)) (wrap64 ((wrap64 ((wrap64 (100 * x7_1)) + t214)) + 1001))) else (hatstandlaw15_made.j1 k1 l0 a1 x5_1 x6_1 x7_1 bt218.1 x7_1 ((rd_T51 l0 x7_1).f0) bt218.2.1 bt218.2.2 (wrap64 ((wrap64 ((wrap64 (100 * x7_1)) - t212)) + 1000)) (wrap64 ((wrap64 ((wrap64 (100 * x7_1)) + t214)) + 1001)))))) = some r := H
          have A5 := Aside0.mk A50
          clear A50
          replace H := Option.bind_eq_some_iff.mp H
          obtain ⟨t214, A60, H⟩ := H
          replace H : ((hatstandref15_Status.f x6_1 a1 ((rd_T51 l0 x7_1).f0) ((rd_T51 l0 x7_1).f2)).bind fun bt218 => (if ((rd_T51 l0 x7_1).f0 = true) then (hatstandlaw15_made.j1 k1 l0 a1 x5_1 x6_1 x7_1 bt218.1 x7_1 ((rd_T51 l0 x7_1).f0) ((rd_T51 l0 x7_1).f2) bt218.2.2 (wrap64 ((wrap64 ((wrap64 (100 * x7_1)) - t212)) + 1000)) (wrap64 ((wrap64 ((wrap64 (100 * x7_1)) + t214)) + 1001))) else (hatstandlaw15_made.j1 k1 l0 a1 x5_1 x6_1 x7_1 bt218.1 x7_1 ((rd_T51 l0 x7_1).f0) bt218.2.1 bt218.2.2 (wrap64 ((wrap64 ((wrap64 (100 * x7_1)) - t212)) + 1000)) (wrap64 ((wrap64 ((wrap64 (100 * x7_1)) + t214)) + 1001))))) = some r := H
          have A6 := Aside0.mk A60
          clear A60
          replace H := Option.bind_eq_some_iff.mp H
          obtain ⟨⟨t218, t219, t220⟩, A70, H⟩ := H
          replace H : (if ((rd_T51 l0 x7_1).f0 = true) then (hatstandlaw15_made.j1 k1 l0 a1 x5_1 x6_1 x7_1 t218 x7_1 ((rd_T51 l0 x7_1).f0) ((rd_T51 l0 x7_1).f2) t220 (wrap64 ((wrap64 ((wrap64 (100 * x7_1)) - t212)) + 1000)) (wrap64 ((wrap64 ((wrap64 (100 * x7_1)) + t214)) + 1001))) else (hatstandlaw15_made.j1 k1 l0 a1 x5_1 x6_1 x7_1 t218 x7_1 ((rd_T51 l0 x7_1).f0) t219 t220 (wrap64 ((wrap64 ((wrap64 (100 * x7_1)) - t212)) + 1000)) (wrap64 ((wrap64 ((wrap64 (100 * x7_1)) + t214)) + 1001)))) = some r := H
          have A7 := Aside0.mk A70
          clear A70
          have HC8 := Aside0.mk H
          clear H
          try go_wp2
          have n0_ := Aside0.mk (Kd.R_drew HO_5.out)
          have n1_ := Aside0.mk (Kd.R_drew HO_6.out)
          have n2_ := Aside0.mk (below_drew1 HB.out)
          clear HO_5
          clear HO_6
          clear HB
          have HO_5 := n0_
          have HO_6 := n1_
          have HB := n2_
          clear n0_ n1_ n2_
          have p209 : 0 ≤ (x7_1 : Int) := of_decide_eq_true (by first | (with_reducible assumption) | assumption)
          have q209 : x7_1 < (l0.length : Int) := of_decide_eq_true (by first | (with_reducible assumption) | assumption)
          obtain ⟨ad209, e209, hx209_0, hx209_1, hx209_2, hx209_3⟩ := at_T51 HR0.out x7_1 p209 q209
          have hw209_3 := hx209_3
          have hw209_2 := hx209_2
          have hw209_1 := hx209_1
          have hw209_0 := hx209_0
          cases e209
          replace hx209_0 := (HB.out.cell (World.block_lt_of_cell? w _ hx209_0)).trans hx209_0
          replace hx209_1 := (HB.out.cell (World.block_lt_of_cell? w _ hx209_1)).trans hx209_1
          replace hx209_2 := (HB.out.cell (World.block_lt_of_cell? w _ hx209_2)).trans hx209_2
          replace hx209_3 := (HB.out.cell (World.block_lt_of_cell? w _ hx209_3)).trans hx209_3
          replace p209 := eq_true p209
          replace q209 := eq_true q209
          have p210 : 0 ≤ (x7_1 : Int) := of_decide_eq_true (by first | (with_reducible assumption) | assumption)
          have q210 : x7_1 < (l0.length : Int) := of_decide_eq_true (by first | (with_reducible assumption) | assumption)
          obtain ⟨ad210, e210, hx210_0, hx210_1, hx210_2, hx210_3⟩ := at_T51 HR0.out x7_1 p210 q210
          have hw210_3 := hx210_3
          have hw210_2 := hx210_2
          have hw210_1 := hx210_1
          have hw210_0 := hx210_0
          obtain rfl : ad209 = ad210 := (by injection e210)
          replace hx210_0 := (HB.out.cell (World.block_lt_of_cell? w _ hx210_0)).trans hx210_0
          replace hx210_1 := (HB.out.cell (World.block_lt_of_cell? w _ hx210_1)).trans hx210_1
          replace hx210_2 := (HB.out.cell (World.block_lt_of_cell? w _ hx210_2)).trans hx210_2
          replace hx210_3 := (HB.out.cell (World.block_lt_of_cell? w _ hx210_3)).trans hx210_3
          replace p210 := eq_true p210
          replace q210 := eq_true q210
          have p211 : 0 ≤ (x7_1 : Int) := of_decide_eq_true (by first | (with_reducible assumption) | assumption)
          have q211 : x7_1 < (l0.length : Int) := of_decide_eq_true (by first | (with_reducible assumption) | assumption)
          obtain ⟨ad211, e211, hx211_0, hx211_1, hx211_2, hx211_3⟩ := at_T51 HR0.out x7_1 p211 q211
          have hw211_3 := hx211_3
          have hw211_2 := hx211_2
          have hw211_1 := hx211_1
          have hw211_0 := hx211_0
          obtain rfl : ad209 = ad211 := (by injection e211)
          replace hx211_0 := (HB.out.cell (World.block_lt_of_cell? w _ hx211_0)).trans hx211_0
          replace hx211_1 := (HB.out.cell (World.block_lt_of_cell? w _ hx211_1)).trans hx211_1
          replace hx211_2 := (HB.out.cell (World.block_lt_of_cell? w _ hx211_2)).trans hx211_2
          replace hx211_3 := (HB.out.cell (World.block_lt_of_cell? w _ hx211_3)).trans hx211_3
          replace p211 := eq_true p211
          replace q211 := eq_true q211
          have p213 : 0 ≤ (x7_1 : Int) := of_decide_eq_true (by first | (with_reducible assumption) | assumption)
          have q213 : x7_1 < (l0.length : Int) := of_decide_eq_true (by first | (with_reducible assumption) | assumption)
          obtain ⟨ad213, e213, hx213_0, hx213_1, hx213_2, hx213_3⟩ := at_T51 HR0.out x7_1 p213 q213
          have hw213_3 := hx213_3
          have hw213_2 := hx213_2
          have hw213_1 := hx213_1
          have hw213_0 := hx213_0
          obtain rfl : ad209 = ad213 := (by injection e213)
          replace hx213_0 := (HB.out.cell (World.block_lt_of_cell? w _ hx213_0)).trans hx213_0
          replace hx213_1 := (HB.out.cell (World.block_lt_of_cell? w _ hx213_1)).trans hx213_1
          replace hx213_2 := (HB.out.cell (World.block_lt_of_cell? w _ hx213_2)).trans hx213_2
          replace hx213_3 := (HB.out.cell (World.block_lt_of_cell? w _ hx213_3)).trans hx213_3
          replace p213 := eq_true p213
          replace q213 := eq_true q213
          refine start_ (n := 35) (S := fun w' => w'.cell? (ad209.add ((x7_1).toNat * 4)) = some (.bool ((rd_T51 l0 x7_1).f0)) ∧ w'.cell? ⟨(ad209.add ((x7_1).toNat * 4)).block, (ad209.add ((x7_1).toNat * 4)).off + 1, none⟩ = some (.bool ((rd_T51 l0 x7_1).f1)) ∧ w'.cell? ⟨(ad209.add ((x7_1).toNat * 4)).block, (ad209.add ((x7_1).toNat * 4)).off + 2, none⟩ = some (.int .u64 ((rd_T51 l0 x7_1).f2)) ∧ w'.cell? ⟨(ad209.add ((x7_1).toNat * 4)).block, (ad209.add ((x7_1).toNat * 4)).off + 3, none⟩ = some (.int .i64 ((rd_T51 l0 x7_1).f3)) ∧ w'.cell? (ad209.add ((x7_1).toNat * 4)) = some (.bool ((rd_T51 l0 x7_1).f0)) ∧ w'.cell? ⟨(ad209.add ((x7_1).toNat * 4)).block, (ad209.add ((x7_1).toNat * 4)).off + 1, none⟩ = some (.bool ((rd_T51 l0 x7_1).f1)) ∧ w'.cell? ⟨(ad209.add ((x7_1).toNat * 4)).block, (ad209.add ((x7_1).toNat * 4)).off + 2, none⟩ = some (.int .u64 ((rd_T51 l0 x7_1).f2)) ∧ w'.cell? ⟨(ad209.add ((x7_1).toNat * 4)).block, (ad209.add ((x7_1).toNat * 4)).off + 3, none⟩ = some (.int .i64 ((rd_T51 l0 x7_1).f3)) ∧ w'.cell? (ad209.add ((x7_1).toNat * 4)) = some (.bool ((rd_T51 l0 x7_1).f0)) ∧ w'.cell? ⟨(ad209.add ((x7_1).toNat * 4)).block, (ad209.add ((x7_1).toNat * 4)).off + 1, none⟩ = some (.bool ((rd_T51 l0 x7_1).f1)) ∧ w'.cell? ⟨(ad209.add ((x7_1).toNat * 4)).block, (ad209.add ((x7_1).toNat * 4)).off + 2, none⟩ = some (.int .u64 ((rd_T51 l0 x7_1).f2)) ∧ w'.cell? ⟨(ad209.add ((x7_1).toNat * 4)).block, (ad209.add ((x7_1).toNat * 4)).off + 3, none⟩ = some (.int .i64 ((rd_T51 l0 x7_1).f3)) ∧ w'.cell? (ad209.add ((x7_1).toNat * 4)) = some (.bool ((rd_T51 l0 x7_1).f0)) ∧ w'.cell? ⟨(ad209.add ((x7_1).toNat * 4)).block, (ad209.add ((x7_1).toNat * 4)).off + 1, none⟩ = some (.bool ((rd_T51 l0 x7_1).f1)) ∧ w'.cell? ⟨(ad209.add ((x7_1).toNat * 4)).block, (ad209.add ((x7_1).toNat * 4)).off + 2, none⟩ = some (.int .u64 ((rd_T51 l0 x7_1).f2)) ∧ w'.cell? ⟨(ad209.add ((x7_1).toNat * 4)).block, (ad209.add ((x7_1).toNat * 4)).off + 3, none⟩ = some (.int .i64 ((rd_T51 l0 x7_1).f3))) (ds := []) #[false, false, false, false, false, false, false, false, false, false, false, false, false, false, false, false, false, false, false, false, false, false, false, false, false, false, false, false, false, false, false, false, false, false, false] (by kernel_rfl) rfl rfl ⟨((HB.out.cell (World.block_lt_of_cell? w _ hw209_0)).trans hw209_0), ((HB.out.cell (World.block_lt_of_cell? w _ hw209_1)).trans hw209_1), ((HB.out.cell (World.block_lt_of_cell? w _ hw209_2)).trans hw209_2), ((HB.out.cell (World.block_lt_of_cell? w _ hw209_3)).trans hw209_3), ((HB.out.cell (World.block_lt_of_cell? w _ hw210_0)).trans hw210_0), ((HB.out.cell (World.block_lt_of_cell? w _ hw210_1)).trans hw210_1), ((HB.out.cell (World.block_lt_of_cell? w _ hw210_2)).trans hw210_2), ((HB.out.cell (World.block_lt_of_cell? w _ hw210_3)).trans hw210_3), ((HB.out.cell (World.block_lt_of_cell? w _ hw211_0)).trans hw211_0), ((HB.out.cell (World.block_lt_of_cell? w _ hw211_1)).trans hw211_1), ((HB.out.cell (World.block_lt_of_cell? w _ hw211_2)).trans hw211_2), ((HB.out.cell (World.block_lt_of_cell? w _ hw211_3)).trans hw211_3), ((HB.out.cell (World.block_lt_of_cell? w _ hw213_0)).trans hw213_0), ((HB.out.cell (World.block_lt_of_cell? w _ hw213_1)).trans hw213_1), ((HB.out.cell (World.block_lt_of_cell? w _ hw213_2)).trans hw213_2), ((HB.out.cell (World.block_lt_of_cell? w _ hw213_3)).trans hw213_3)⟩ (fun hHeld => ?_); refine with_tabW hatstandlaw15_made.tab6 hatstandlaw15_made.bits6 (fun HT_ HW_ => ?_)
          generalize wr.drew = w9 at HO_5 HO_6 HB hx209_0 hx209_1 hx209_2 hx209_3 hx210_0 hx210_1 hx210_2 hx210_3 hx211_0 hx211_1 hx211_2 hx211_3 hx213_0 hx213_1 hx213_2 hx213_3 hHeld ⊢
          refine pure_ (i := 0) (N := some 18) (v := ?_) (a' := ?_) #[true, false, false, false, false, false, false, false, false, false, false, false, false, false, false, false, false, false, false, false, false, false, false, false, false, false, false, false, false, false, false, false, false, false, false] rfl rfl (any_of HT_.out (by kernel_rfl)) (fun _ _ _ h => h) (Or.inl ⟨by rfl, ?_⟩) ?_ ?_
          rotate_left
          · intro w'
            go_simp
            with_reducible rfl
          rotate_left
          · simp only [Act.put, List.setIfInBounds_toArray, List.set_cons_zero, List.set_cons_succ, i64_w, i32_w, Go.IntKind.wrap_u32]
            rfl
          refine pure_ (i := 1) (N := some 19) (v := ?_) (a' := ?_) #[true, true, false, false, false, false, false, false, false, false, false, false, false, false, false, false, false, false, false, false, false, false, false, false, false, false, false, false, false, false, false, false, false, false, false] rfl rfl (any_of HT_.out (by kernel_rfl)) (fun _ _ _ h => h) (Or.inl ⟨by rfl, ?_⟩) ?_ ?_
          rotate_left
          · intro w'
            go_simp
            with_reducible rfl
          rotate_left
          · simp only [Act.put, List.setIfInBounds_toArray, List.set_cons_zero, List.set_cons_succ, i64_w, i32_w, Go.IntKind.wrap_u32]
            rfl
          refine pure_ (i := 2) (N := some 20) (v := ?_) (a' := ?_) #[true, true, true, false, false, false, false, false, false, false, false, false, false, false, false, false, false, false, false, false, false, false, false, false, false, false, false, false, false, false, false, false, false, false, false] rfl rfl (any_of HT_.out (by kernel_rfl)) (fun _ _ _ h => h) (Or.inl ⟨by rfl, ?_⟩) ?_ ?_
          rotate_left
          · intro w'
            go_simp
            with_reducible rfl
          rotate_left
          · simp only [Act.put, List.setIfInBounds_toArray, List.set_cons_zero, List.set_cons_succ, i64_w, i32_w, Go.IntKind.wrap_u32]
            rfl
          refine pure_ (i := 3) (N := some 21) (v := ?_) (a' := ?_) #[true, true, true, true, false, false, false, false, false, false, false, false, false, false, false, false, false, false, false, false, false, false, false, false, false, false, false, false, false, false, false, false, false, false, false] rfl rfl (any_of HT_.out (by kernel_rfl)) (fun _ _ _ h => h) (Or.inl ⟨by rfl, ?_⟩) ?_ ?_
          rotate_left
          · intro w'
            go_simp
            with_reducible rfl
          rotate_left
          · simp only [Act.put, List.setIfInBounds_toArray, List.set_cons_zero, List.set_cons_succ, i64_w, i32_w, Go.IntKind.wrap_u32]
            rfl
          refine pure_ (i := 4) (N := some 22) (v := ?_) (a' := ?_) #[true, true, true, true, true, false, false, false, false, false, false, false, false, false, false, false, false, false, false, false, false, false, false, false, false, false, false, false, false, false, false, false, false, false, false] rfl rfl (any_of HT_.out (by kernel_rfl)) (fun _ _ _ h => h) (Or.inl ⟨by rfl, ?_⟩) ?_ ?_
          rotate_left
          · intro w'
            go_simp
            with_reducible rfl
          rotate_left
          · simp only [Act.put, List.setIfInBounds_toArray, List.set_cons_zero, List.set_cons_succ, i64_w, i32_w, Go.IntKind.wrap_u32]
            rfl
          refine pure_ (i := 6) (N := some 24) (v := ?_) (a' := ?_) #[true, true, true, true, true, false, true, false, false, false, false, false, false, false, false, false, false, false, false, false, false, false, false, false, false, false, false, false, false, false, false, false, false, false, false] rfl rfl (any_of HT_.out (by kernel_rfl)) (fun _ _ _ h => h) (Or.inl ⟨by rfl, ?_⟩) ?_ ?_
          rotate_left
          · intro w'
            go_simp
            with_reducible rfl
          rotate_left
          · simp only [Act.put, List.setIfInBounds_toArray, List.set_cons_zero, List.set_cons_succ, i64_w, i32_w, Go.IntKind.wrap_u32]
            rfl
          refine pure_ (i := 7) (N := some 25) (v := ?_) (a' := ?_) #[true, true, true, true, true, false, true, true, false, false, false, false, false, false, false, false, false, false, false, false, false, false, false, false, false, false, false, false, false, false, false, false, false, false, false] rfl rfl (any_of HT_.out (by kernel_rfl)) (fun _ _ _ h => h) (Or.inl ⟨by rfl, ?_⟩) ?_ ?_
          rotate_left
          · intro w'
            go_simp
            with_reducible rfl
          rotate_left
          · simp only [Act.put, List.setIfInBounds_toArray, List.set_cons_zero, List.set_cons_succ, i64_w, i32_w, Go.IntKind.wrap_u32]
            rfl
          refine pure_ (i := 8) (N := some 26) (v := ?_) (a' := ?_) #[true, true, true, true, true, false, true, true, true, false, false, false, false, false, false, false, false, false, false, false, false, false, false, false, false, false, false, false, false, false, false, false, false, false, false] rfl rfl (any_of HT_.out (by kernel_rfl)) (fun _ _ _ h => h) (Or.inl ⟨by rfl, ?_⟩) ?_ ?_
          rotate_left
          · intro w'
            go_simp
            with_reducible rfl
          rotate_left
          · simp only [Act.put, List.setIfInBounds_toArray, List.set_cons_zero, List.set_cons_succ, i64_w, i32_w, Go.IntKind.wrap_u32]
            rfl
          refine pure_ (i := 9) (N := some 27) (v := ?_) (a' := ?_) #[true, true, true, true, true, false, true, true, true, true, false, false, false, false, false, false, false, false, false, false, false, false, false, false, false, false, false, false, false, false, false, false, false, false, false] rfl rfl (any_of HT_.out (by kernel_rfl)) (fun _ _ _ h => h) (Or.inl ⟨by rfl, ?_⟩) ?_ ?_
          rotate_left
          · intro w'
            go_simp
            with_reducible rfl
          rotate_left
          · simp only [Act.put, List.setIfInBounds_toArray, List.set_cons_zero, List.set_cons_succ, i64_w, i32_w, Go.IntKind.wrap_u32]
            rfl
          refine pure_ (i := 11) (N := some 29) (v := ?_) (a' := ?_) #[true, true, true, true, true, false, true, true, true, true, false, true, false, false, false, false, false, false, false, false, false, false, false, false, false, false, false, false, false, false, false, false, false, false, false] rfl rfl (any_of HT_.out (by kernel_rfl)) (fun _ _ _ h => h) (Or.inl ⟨by rfl, ?_⟩) ?_ ?_
          rotate_left
          · intro w'
            go_simp
            with_reducible rfl
          rotate_left
          · simp only [Act.put, List.setIfInBounds_toArray, List.set_cons_zero, List.set_cons_succ, i64_w, i32_w, Go.IntKind.wrap_u32]
            rfl
          refine pure_ (i := 12) (N := some 30) (v := ?_) (a' := ?_) #[true, true, true, true, true, false, true, true, true, true, false, true, true, false, false, false, false, false, false, false, false, false, false, false, false, false, false, false, false, false, false, false, false, false, false] rfl rfl (any_of HT_.out (by kernel_rfl)) (fun _ _ _ h => h) (Or.inl ⟨by rfl, ?_⟩) ?_ ?_
          rotate_left
          · intro w'
            go_simp
            with_reducible rfl
          rotate_left
          · simp only [Act.put, List.setIfInBounds_toArray, List.set_cons_zero, List.set_cons_succ, i64_w, i32_w, Go.IntKind.wrap_u32]
            rfl
          refine pure_ (i := 13) (N := some 31) (v := ?_) (a' := ?_) #[true, true, true, true, true, false, true, true, true, true, false, true, true, true, false, false, false, false, false, false, false, false, false, false, false, false, false, false, false, false, false, false, false, false, false] rfl rfl (any_of HT_.out (by kernel_rfl)) (fun _ _ _ h => h) (Or.inl ⟨by rfl, ?_⟩) ?_ ?_
          rotate_left
          · intro w'
            go_simp
            with_reducible rfl
          rotate_left
          · simp only [Act.put, List.setIfInBounds_toArray, List.set_cons_zero, List.set_cons_succ, i64_w, i32_w, Go.IntKind.wrap_u32]
            rfl
          refine pure_ (i := 14) (N := some 32) (v := ?_) (a' := ?_) #[true, true, true, true, true, false, true, true, true, true, false, true, true, true, true, false, false, false, false, false, false, false, false, false, false, false, false, false, false, false, false, false, false, false, false] rfl rfl (any_of HT_.out (by kernel_rfl)) (fun _ _ _ h => h) (Or.inl ⟨by rfl, ?_⟩) ?_ ?_
          rotate_left
          · intro w'
            go_simp
            with_reducible rfl
          rotate_left
          · simp only [Act.put, List.setIfInBounds_toArray, List.set_cons_zero, List.set_cons_succ, i64_w, i32_w, Go.IntKind.wrap_u32]
            rfl
          refine pure_ (i := 15) (N := some 33) (v := ?_) (a' := ?_) #[true, true, true, true, true, false, true, true, true, true, false, true, true, true, true, true, false, false, false, false, false, false, false, false, false, false, false, false, false, false, false, false, false, false, false] rfl rfl (any_of HT_.out (by kernel_rfl)) (fun _ _ _ h => h) (Or.inl ⟨by rfl, ?_⟩) ?_ ?_
          rotate_left
          · intro w'
            go_simp
            with_reducible rfl
          rotate_left
          · simp only [Act.put, List.setIfInBounds_toArray, List.set_cons_zero, List.set_cons_succ, i64_w, i32_w, Go.IntKind.wrap_u32]
            rfl
          refine pure_ (i := 16) (N := some 34) (v := ?_) (a' := ?_) #[true, true, true, true, true, false, true, true, true, true, false, true, true, true, true, true, true, false, false, false, false, false, false, false, false, false, false, false, false, false, false, false, false, false, false] rfl rfl (any_of HT_.out (by kernel_rfl)) (fun _ _ _ h => h) (Or.inl ⟨by rfl, ?_⟩) ?_ ?_
          rotate_left
          · intro w'
            go_simp
            with_reducible rfl
          rotate_left
          · simp only [Act.put, List.setIfInBounds_toArray, List.set_cons_zero, List.set_cons_succ, i64_w, i32_w, Go.IntKind.wrap_u32]
            rfl
          refine pure_ (i := 21) (N := some 39) (v := ?_) (a' := ?_) #[true, true, true, true, true, false, true, true, true, true, false, true, true, true, true, true, true, false, false, false, false, true, false, false, false, false, false, false, false, false, false, false, false, false, false] rfl rfl (any_of HT_.out (by kernel_rfl)) (fun _ _ _ h => h) (Or.inl ⟨by rfl, ?_⟩) ?_ ?_
          rotate_left
          · intro w'
            go_simp
            with_reducible rfl
          rotate_left
          · simp only [Act.put, List.setIfInBounds_toArray, List.set_cons_zero, List.set_cons_succ, i64_w, i32_w, Go.IntKind.wrap_u32]
            rfl
          refine pure_ (i := 22) (N := some 40) (v := ?_) (a' := ?_) #[true, true, true, true, true, false, true, true, true, true, false, true, true, true, true, true, true, false, false, false, false, true, true, false, false, false, false, false, false, false, false, false, false, false, false] rfl rfl (any_of HT_.out (by kernel_rfl)) (fun _ _ _ h => h) (Or.inl ⟨by rfl, ?_⟩) ?_ ?_
          rotate_left
          · intro w'
            go_simp
            with_reducible rfl
          rotate_left
          · simp only [Act.put, List.setIfInBounds_toArray, List.set_cons_zero, List.set_cons_succ, i64_w, i32_w, Go.IntKind.wrap_u32]
            rfl
          refine pure_ (i := 23) (N := some 41) (v := ?_) (a' := ?_) #[true, true, true, true, true, false, true, true, true, true, false, true, true, true, true, true, true, false, false, false, false, true, true, true, false, false, false, false, false, false, false, false, false, false, false] rfl rfl (any_of HT_.out (by kernel_rfl)) (fun _ _ _ h => h) (Or.inl ⟨by rfl, ?_⟩) ?_ ?_
          rotate_left
          · intro w'
            go_simp
            with_reducible rfl
          rotate_left
          · simp only [Act.put, List.setIfInBounds_toArray, List.set_cons_zero, List.set_cons_succ, i64_w, i32_w, Go.IntKind.wrap_u32]
            rfl
          refine pure_ (i := 24) (N := some 42) (v := ?_) (a' := ?_) #[true, true, true, true, true, false, true, true, true, true, false, true, true, true, true, true, true, false, false, false, false, true, true, true, true, false, false, false, false, false, false, false, false, false, false] rfl rfl (any_of HT_.out (by kernel_rfl)) (fun _ _ _ h => h) (Or.inl ⟨by rfl, ?_⟩) ?_ ?_
          rotate_left
          · intro w'
            go_simp
            with_reducible rfl
          rotate_left
          · simp only [Act.put, List.setIfInBounds_toArray, List.set_cons_zero, List.set_cons_succ, i64_w, i32_w, Go.IntKind.wrap_u32]
            rfl
          refine pure_ (i := 25) (N := some 43) (v := ?_) (a' := ?_) #[true, true, true, true, true, false, true, true, true, true, false, true, true, true, true, true, true, false, false, false, false, true, true, true, true, true, false, false, false, false, false, false, false, false, false] rfl rfl (any_of HT_.out (by kernel_rfl)) (fun _ _ _ h => h) (Or.inl ⟨by rfl, ?_⟩) ?_ ?_
          rotate_left
          · intro w'
            go_simp
            with_reducible rfl
          rotate_left
          · simp only [Act.put, List.setIfInBounds_toArray, List.set_cons_zero, List.set_cons_succ, i64_w, i32_w, Go.IntKind.wrap_u32]
            rfl
          refine pure_ (i := 26) (N := some 44) (v := ?_) (a' := ?_) #[true, true, true, true, true, false, true, true, true, true, false, true, true, true, true, true, true, false, false, false, false, true, true, true, true, true, true, false, false, false, false, false, false, false, false] rfl rfl (any_of HT_.out (by kernel_rfl)) (fun _ _ _ h => h) (Or.inl ⟨by rfl, ?_⟩) ?_ ?_
          rotate_left
          · intro w'
            go_simp
            with_reducible rfl
          rotate_left
          · simp only [Act.put, List.setIfInBounds_toArray, List.set_cons_zero, List.set_cons_succ, i64_w, i32_w, Go.IntKind.wrap_u32]
            rfl
          refine take_ (i := 5) (N := some 23) (v := ?_) (a' := ?_) #[true, true, true, true, true, true, true, true, true, true, false, true, true, true, true, true, true, false, false, false, false, true, true, true, true, true, true, false, false, false, false, false, false, false, false] rfl rfl (take_ofW HT_.out HW_.out (by kernel_rfl)) (fun _ _ _ h => h) (Or.inl ⟨by rfl, ?_⟩) hHeld ?_ ?_
          rotate_left
          · rintro w' ⟨s0, s1, s2, s3, s4, s5, s6, s7, s8, s9, s10, s11, s12, s13, s14, s15⟩
            go_simp
            with_reducible rfl
          rotate_left
          · simp only [Act.put, List.setIfInBounds_toArray, List.set_cons_zero, List.set_cons_succ, i64_w, i32_w, Go.IntKind.wrap_u32]
            rfl
          refine take_ (i := 10) (N := some 28) (v := ?_) (a' := ?_) #[true, true, true, true, true, true, true, true, true, true, true, true, true, true, true, true, true, false, false, false, false, true, true, true, true, true, true, false, false, false, false, false, false, false, false] rfl rfl (take_ofW HT_.out HW_.out (by kernel_rfl)) (fun _ _ _ h => h) (Or.inl ⟨by rfl, ?_⟩) hHeld ?_ ?_
          rotate_left
          · rintro w' ⟨s0, s1, s2, s3, s4, s5, s6, s7, s8, s9, s10, s11, s12, s13, s14, s15⟩
            go_simp
            with_reducible rfl
          rotate_left
          · simp only [Act.put, List.setIfInBounds_toArray, List.set_cons_zero, List.set_cons_succ, i64_w, i32_w, Go.IntKind.wrap_u32]
            rfl
          refine take_ (i := 17) (N := some 35) (v := ?_) (a' := ?_) #[true, true, true, true, true, true, true, true, true, true, true, true, true, true, true, true, true, true, false, false, false, true, true, true, true, true, true, false, false, false, false, false, false, false, false] rfl rfl (take_ofW HT_.out HW_.out (by kernel_rfl)) (fun _ _ _ h => h) (Or.inl ⟨by rfl, ?_⟩) hHeld ?_ ?_
          rotate_left
          · rintro w' ⟨s0, s1, s2, s3, s4, s5, s6, s7, s8, s9, s10, s11, s12, s13, s14, s15⟩
            go_simp
            with_reducible rfl
          rotate_left
          · simp only [Act.put, List.setIfInBounds_toArray, List.set_cons_zero, List.set_cons_succ, i64_w, i32_w, Go.IntKind.wrap_u32]
            rfl
          refine take_ (i := 27) (N := some 45) (v := ?_) (a' := ?_) #[true, true, true, true, true, true, true, true, true, true, true, true, true, true, true, true, true, true, false, false, false, true, true, true, true, true, true, true, false, false, false, false, false, false, false] rfl rfl (take_ofW HT_.out HW_.out (by kernel_rfl)) (fun _ _ _ h => h) (Or.inl ⟨by rfl, ?_⟩) hHeld ?_ ?_
          rotate_left
          · rintro w' ⟨s0, s1, s2, s3, s4, s5, s6, s7, s8, s9, s10, s11, s12, s13, s14, s15⟩
            go_simp
            with_reducible rfl
          rotate_left
          · simp only [Act.put, List.setIfInBounds_toArray, List.set_cons_zero, List.set_cons_succ, i64_w, i32_w, Go.IntKind.wrap_u32]
            rfl
          refine pure_ (i := 28) (N := some 46) (v := ?_) (a' := ?_) #[true, true, true, true, true, true, true, true, true, true, true, true, true, true, true, true, true, true, false, false, false, true, true, true, true, true, true, true, true, false, false, false, false, false, false] rfl rfl (any_of HT_.out (by kernel_rfl)) (fun _ _ _ h => h) (Or.inl ⟨by rfl, ?_⟩) ?_ ?_
          rotate_left
          · intro w'
            go_simp
            with_reducible rfl
          rotate_left
          · simp only [Act.put, List.setIfInBounds_toArray, List.set_cons_zero, List.set_cons_succ, i64_w, i32_w, Go.IntKind.wrap_u32]
            rfl
          refine join_ (σ := Nat) 1 #[true, true, true, true, true, true, true, true, true, true, true, true, true, true, true, true, true, true, true, true, true, true, true, true, true, true, true, true, true, true, true, true, true, true, false] (fun s_ => [(36, .int .i64 t212), (47, .int .i64 t214), (8, .pointer (some ⟨s_, 0, none⟩)), (37, .int .i64 (wrap64 ((wrap64 (100 * x7_1)) - t212))), (38, .int .i64 (wrap64 ((wrap64 ((wrap64 (100 * x7_1)) - t212)) + 1000))), (48, .int .i64 (wrap64 ((wrap64 (100 * x7_1)) + t214))), (49, .int .i64 (wrap64 ((wrap64 ((wrap64 (100 * x7_1)) + t214)) + 1001))), (50, .agg #[.int .i64 x7_1, .bool ((rd_T51 l0 x7_1).f0), .int .u64 ((rd_T51 l0 x7_1).f2), .int .i64 0, .int .i64 (wrap64 ((wrap64 ((wrap64 (100 * x7_1)) - t212)) + 1000)), .int .i64 (wrap64 ((wrap64 ((wrap64 (100 * x7_1)) + t214)) + 1001))])]) (fun s_ w' => (w'.cell? (ad209.add ((x7_1).toNat * 4)) = some (.bool ((rd_T51 l0 x7_1).f0)) ∧ w'.cell? ⟨(ad209.add ((x7_1).toNat * 4)).block, (ad209.add ((x7_1).toNat * 4)).off + 1, none⟩ = some (.bool ((rd_T51 l0 x7_1).f1)) ∧ w'.cell? ⟨(ad209.add ((x7_1).toNat * 4)).block, (ad209.add ((x7_1).toNat * 4)).off + 2, none⟩ = some (.int .u64 ((rd_T51 l0 x7_1).f2)) ∧ w'.cell? ⟨(ad209.add ((x7_1).toNat * 4)).block, (ad209.add ((x7_1).toNat * 4)).off + 3, none⟩ = some (.int .i64 ((rd_T51 l0 x7_1).f3)) ∧ w'.cell? (ad209.add ((x7_1).toNat * 4)) = some (.bool ((rd_T51 l0 x7_1).f0)) ∧ w'.cell? ⟨(ad209.add ((x7_1).toNat * 4)).block, (ad209.add ((x7_1).toNat * 4)).off + 1, none⟩ = some (.bool ((rd_T51 l0 x7_1).f1)) ∧ w'.cell? ⟨(ad209.add ((x7_1).toNat * 4)).block, (ad209.add ((x7_1).toNat * 4)).off + 2, none⟩ = some (.int .u64 ((rd_T51 l0 x7_1).f2)) ∧ w'.cell? ⟨(ad209.add ((x7_1).toNat * 4)).block, (ad209.add ((x7_1).toNat * 4)).off + 3, none⟩ = some (.int .i64 ((rd_T51 l0 x7_1).f3)) ∧ w'.cell? (ad209.add ((x7_1).toNat * 4)) = some (.bool ((rd_T51 l0 x7_1).f0)) ∧ w'.cell? ⟨(ad209.add ((x7_1).toNat * 4)).block, (ad209.add ((x7_1).toNat * 4)).off + 1, none⟩ = some (.bool ((rd_T51 l0 x7_1).f1)) ∧ w'.cell? ⟨(ad209.add ((x7_1).toNat * 4)).block, (ad209.add ((x7_1).toNat * 4)).off + 2, none⟩ = some (.int .u64 ((rd_T51 l0 x7_1).f2)) ∧ w'.cell? ⟨(ad209.add ((x7_1).toNat * 4)).block, (ad209.add ((x7_1).toNat * 4)).off + 3, none⟩ = some (.int .i64 ((rd_T51 l0 x7_1).f3)) ∧ w'.cell? (ad209.add ((x7_1).toNat * 4)) = some (.bool ((rd_T51 l0 x7_1).f0)) ∧ w'.cell? ⟨(ad209.add ((x7_1).toNat * 4)).block, (ad209.add ((x7_1).toNat * 4)).off + 1, none⟩ = some (.bool ((rd_T51 l0 x7_1).f1)) ∧ w'.cell? ⟨(ad209.add ((x7_1).toNat * 4)).block, (ad209.add ((x7_1).toNat * 4)).off + 2, none⟩ = some (.int .u64 ((rd_T51 l0 x7_1).f2)) ∧ w'.cell? ⟨(ad209.add ((x7_1).toNat * 4)).block, (ad209.add ((x7_1).toNat * 4)).off + 3, none⟩ = some (.int .i64 ((rd_T51 l0 x7_1).f3))) ∧ (Kd.R k30 30 w' w.heap.size (fun k_ => k_ ≠ s_) u5 x5_1) ∧ (Kd.R (Kd.int .u64) 27 w' w.heap.size (fun _ => True) u6 x6_1) ∧ (w'.heap[s_]? = some (.cells #[.int .i64 0, .bool false, .int .u64 0, .int .i64 0, .int .i64 0, .int .i64 0] 30 (0, 0))) ∧ (w.heap.size ≤ s_) ∧ (w.heap.size ≤ s_) ∧ (Below w.heap.size w w')) ?_ ?_
          rotate_left
          · intro hCont
            refine two_ (i := 18) (j := 33) (Ni := some 36) (Nj := some 8) #[true, true, true, true, true, true, true, true, true, true, true, true, true, true, true, true, true, true, true, false, false, true, true, true, true, true, true, true, true, false, false, false, false, false, false] #[true, true, true, true, true, true, true, true, true, true, true, true, true, true, true, true, true, true, false, false, false, true, true, true, true, true, true, true, true, false, false, false, false, true, false] rfl rfl rfl rfl (two_of HT_.out (by kernel_rfl)) (by decide) (by decide) (fun K hK => ?_) (fun K hK => ?_)
            · skip
              refine goes_ Try.func10 (by kernel_rfl) rfl #[.int .i64 ((rd_T51 l0 x7_1).f3), .int .i64 700] (by rfl) rfl rfl (by (try simp only [List.map_toArray, List.map_cons, List.map_nil]); first | done | rfl | (simp only [List.length_drop, List.length_take]; rfl)) ?_
              with_reducible refine (hatstandlaw15_pick.calls ((rd_T51 l0 x7_1).f3) 700 t212 _ A5.out).mono ?_
              rintro e w' ⟨rfl, ⟨nd, rfl⟩⟩
              refine ⟨_, rfl, ?_⟩
              refine hK.out _ _ ⟨((HB.out.cell (World.block_lt_of_cell? w _ hw209_0)).trans hw209_0), ((HB.out.cell (World.block_lt_of_cell? w _ hw209_1)).trans hw209_1), ((HB.out.cell (World.block_lt_of_cell? w _ hw209_2)).trans hw209_2), ((HB.out.cell (World.block_lt_of_cell? w _ hw209_3)).trans hw209_3), ((HB.out.cell (World.block_lt_of_cell? w _ hw210_0)).trans hw210_0), ((HB.out.cell (World.block_lt_of_cell? w _ hw210_1)).trans hw210_1), ((HB.out.cell (World.block_lt_of_cell? w _ hw210_2)).trans hw210_2), ((HB.out.cell (World.block_lt_of_cell? w _ hw210_3)).trans hw210_3), ((HB.out.cell (World.block_lt_of_cell? w _ hw211_0)).trans hw211_0), ((HB.out.cell (World.block_lt_of_cell? w _ hw211_1)).trans hw211_1), ((HB.out.cell (World.block_lt_of_cell? w _ hw211_2)).trans hw211_2), ((HB.out.cell (World.block_lt_of_cell? w _ hw211_3)).trans hw211_3), ((HB.out.cell (World.block_lt_of_cell? w _ hw213_0)).trans hw213_0), ((HB.out.cell (World.block_lt_of_cell? w _ hw213_1)).trans hw213_1), ((HB.out.cell (World.block_lt_of_cell? w _ hw213_2)).trans hw213_2), ((HB.out.cell (World.block_lt_of_cell? w _ hw213_3)).trans hw213_3)⟩ (fun hHeld => ?_)
              clear hK K
              refine norm_ (a' := ?_) ?_ ?_
              rotate_left
              · show Act.put _ (some 36) _ = _
                simp only [Act.put, List.setIfInBounds_toArray, List.set_cons_zero, List.set_cons_succ, i64_w, i32_w, Go.IntKind.wrap_u32]
                rfl
              refine pure_ (i := 19) (N := some 37) (v := ?_) (a' := ?_) #[true, true, true, true, true, true, true, true, true, true, true, true, true, true, true, true, true, true, true, true, false, true, true, true, true, true, true, true, true, false, false, false, false, false, false] rfl rfl (any_of HT_.out (by kernel_rfl)) (fun _ _ _ h => h) (Or.inl ⟨by rfl, ?_⟩) ?_ ?_
              rotate_left
              · intro w'
                go_simp
                with_reducible rfl
              rotate_left
              · simp only [Act.put, List.setIfInBounds_toArray, List.set_cons_zero, List.set_cons_succ, i64_w, i32_w, Go.IntKind.wrap_u32]
                rfl
              refine pure_ (i := 20) (N := some 38) (v := ?_) (a' := ?_) #[true, true, true, true, true, true, true, true, true, true, true, true, true, true, true, true, true, true, true, true, true, true, true, true, true, true, true, true, true, false, false, false, false, false, false] rfl rfl (any_of HT_.out (by kernel_rfl)) (fun _ _ _ h => h) (Or.inl ⟨by rfl, ?_⟩) ?_ ?_
              rotate_left
              · intro w'
                go_simp
                with_reducible rfl
              rotate_left
              · simp only [Act.put, List.setIfInBounds_toArray, List.set_cons_zero, List.set_cons_succ, i64_w, i32_w, Go.IntKind.wrap_u32]
                rfl
              refine two_ (i := 29) (j := 33) (Ni := some 47) (Nj := some 8) #[true, true, true, true, true, true, true, true, true, true, true, true, true, true, true, true, true, true, true, true, true, true, true, true, true, true, true, true, true, true, false, false, false, false, false] #[true, true, true, true, true, true, true, true, true, true, true, true, true, true, true, true, true, true, true, true, true, true, true, true, true, true, true, true, true, false, false, false, false, true, false] rfl rfl rfl rfl (two_of HT_.out (by kernel_rfl)) (by decide) (by decide) (fun K hK => ?_) (fun K hK => ?_)
              · skip
                refine goes_ Try.func10 (by kernel_rfl) rfl #[.int .i64 (wrap64 (Int.tdiv ((rd_T51 l0 x7_1).f3) 7)), .int .i64 700] (by rfl) rfl rfl (by (try simp only [List.map_toArray, List.map_cons, List.map_nil]); first | done | rfl | (simp only [List.length_drop, List.length_take]; rfl)) ?_
                with_reducible refine (hatstandlaw15_pick.calls (wrap64 (Int.tdiv ((rd_T51 l0 x7_1).f3) 7)) 700 t214 _ A6.out).mono ?_
                rintro e w' ⟨rfl, ⟨nd, rfl⟩⟩
                refine ⟨_, rfl, ?_⟩
                refine hK.out _ _ ⟨((HB.out.cell (World.block_lt_of_cell? w _ hw209_0)).trans hw209_0), ((HB.out.cell (World.block_lt_of_cell? w _ hw209_1)).trans hw209_1), ((HB.out.cell (World.block_lt_of_cell? w _ hw209_2)).trans hw209_2), ((HB.out.cell (World.block_lt_of_cell? w _ hw209_3)).trans hw209_3), ((HB.out.cell (World.block_lt_of_cell? w _ hw210_0)).trans hw210_0), ((HB.out.cell (World.block_lt_of_cell? w _ hw210_1)).trans hw210_1), ((HB.out.cell (World.block_lt_of_cell? w _ hw210_2)).trans hw210_2), ((HB.out.cell (World.block_lt_of_cell? w _ hw210_3)).trans hw210_3), ((HB.out.cell (World.block_lt_of_cell? w _ hw211_0)).trans hw211_0), ((HB.out.cell (World.block_lt_of_cell? w _ hw211_1)).trans hw211_1), ((HB.out.cell (World.block_lt_of_cell? w _ hw211_2)).trans hw211_2), ((HB.out.cell (World.block_lt_of_cell? w _ hw211_3)).trans hw211_3), ((HB.out.cell (World.block_lt_of_cell? w _ hw213_0)).trans hw213_0), ((HB.out.cell (World.block_lt_of_cell? w _ hw213_1)).trans hw213_1), ((HB.out.cell (World.block_lt_of_cell? w _ hw213_2)).trans hw213_2), ((HB.out.cell (World.block_lt_of_cell? w _ hw213_3)).trans hw213_3)⟩ (fun hHeld => ?_)
                clear hK K
                refine norm_ (a' := ?_) ?_ ?_
                rotate_left
                · show Act.put _ (some 47) _ = _
                  simp only [Act.put, List.setIfInBounds_toArray, List.set_cons_zero, List.set_cons_succ, i64_w, i32_w, Go.IntKind.wrap_u32]
                  rfl
                refine pure_ (i := 30) (N := some 48) (v := ?_) (a' := ?_) #[true, true, true, true, true, true, true, true, true, true, true, true, true, true, true, true, true, true, true, true, true, true, true, true, true, true, true, true, true, true, true, false, false, false, false] rfl rfl (any_of HT_.out (by kernel_rfl)) (fun _ _ _ h => h) (Or.inl ⟨by rfl, ?_⟩) ?_ ?_
                rotate_left
                · intro w'
                  go_simp
                  with_reducible rfl
                rotate_left
                · simp only [Act.put, List.setIfInBounds_toArray, List.set_cons_zero, List.set_cons_succ, i64_w, i32_w, Go.IntKind.wrap_u32]
                  rfl
                refine pure_ (i := 31) (N := some 49) (v := ?_) (a' := ?_) #[true, true, true, true, true, true, true, true, true, true, true, true, true, true, true, true, true, true, true, true, true, true, true, true, true, true, true, true, true, true, true, true, false, false, false] rfl rfl (any_of HT_.out (by kernel_rfl)) (fun _ _ _ h => h) (Or.inl ⟨by rfl, ?_⟩) ?_ ?_
                rotate_left
                · intro w'
                  go_simp
                  with_reducible rfl
                rotate_left
                · simp only [Act.put, List.setIfInBounds_toArray, List.set_cons_zero, List.set_cons_succ, i64_w, i32_w, Go.IntKind.wrap_u32]
                  rfl
                refine pure_ (i := 32) (N := some 50) (v := ?_) (a' := ?_) #[true, true, true, true, true, true, true, true, true, true, true, true, true, true, true, true, true, true, true, true, true, true, true, true, true, true, true, true, true, true, true, true, true, false, false] rfl rfl (any_of HT_.out (by kernel_rfl)) (fun _ _ _ h => h) (Or.inl ⟨by rfl, ?_⟩) ?_ ?_
                rotate_left
                · intro w'
                  go_simp
                  with_reducible rfl
                rotate_left
                · simp only [Act.put, List.setIfInBounds_toArray, List.set_cons_zero, List.set_cons_succ, i64_w, i32_w, Go.IntKind.wrap_u32]
                  rfl
                refine one_ (i := 33) (N := some 8) #[true, true, true, true, true, true, true, true, true, true, true, true, true, true, true, true, true, true, true, true, true, true, true, true, true, true, true, true, true, true, true, true, true, true, false] rfl rfl (one_of HT_.out (by kernel_rfl)) (by decide) (fun K hK => ?_)
                refine box_step ?hg (N := 8) ?hd (cs := #[.int .i64 0, .bool false, .int .u64 0, .int .i64 0, .int .i64 0, .int .i64 0]) (t := 30) ?hr ?_; (case hd => rfl); (case hg => rfl); (case hr => first | (go_simp; done) | (go_simp; rfl))
                intro gb215 hg w10 hbox hb
                have n0_ := Aside0.mk (Kd.R_below (Kd.R_elderB (by (with_reducible repeat (first | apply Kd.R_alloc | apply Kd.R_drewN | apply Kd.R_drew)); exact HO_5.out) gb215 (Nat.le_of_eq hg.symm)) hb)
                have n1_ := Aside0.mk (Kd.R_below (by (with_reducible repeat (first | apply Kd.R_alloc | apply Kd.R_drewN | apply Kd.R_drew)); exact HO_6.out) hb)
                have n2_ := Aside0.mk (below_step (by repeat (first | (with_reducible first | exact HB.out | apply below_alloc | apply pw_below_drewN | apply below_drew1) | exact HB.out)) hb)
                have n3_ := Aside0.mk (hbox)
                have n4_ := Aside0.mk ((by rw [hg]; exact (below_size (by repeat (first | (with_reducible first | exact HB.out | apply below_alloc | apply pw_below_drewN | apply below_drew1) | exact HB.out))) : w.heap.size ≤ gb215))
                have n5_ := Aside0.mk ((by rw [hg]; exact (below_size (by repeat (first | (with_reducible first | exact HB.out | apply below_alloc | apply pw_below_drewN | apply below_drew1) | exact HB.out))) : w.heap.size ≤ gb215))
                clear HO_5
                clear HO_6
                clear HB
                have HO_5 := n0_
                have HO_6 := n1_
                have HB := n2_
                have BK215 := n3_
                have GW215 := n4_
                have GE215 := n5_
                clear n0_ n1_ n2_ n3_ n4_ n5_
                clear hb hbox hg
                refine hK.out _ _ ⟨((HB.out.cell (World.block_lt_of_cell? w _ hw209_0)).trans hw209_0), ((HB.out.cell (World.block_lt_of_cell? w _ hw209_1)).trans hw209_1), ((HB.out.cell (World.block_lt_of_cell? w _ hw209_2)).trans hw209_2), ((HB.out.cell (World.block_lt_of_cell? w _ hw209_3)).trans hw209_3), ((HB.out.cell (World.block_lt_of_cell? w _ hw210_0)).trans hw210_0), ((HB.out.cell (World.block_lt_of_cell? w _ hw210_1)).trans hw210_1), ((HB.out.cell (World.block_lt_of_cell? w _ hw210_2)).trans hw210_2), ((HB.out.cell (World.block_lt_of_cell? w _ hw210_3)).trans hw210_3), ((HB.out.cell (World.block_lt_of_cell? w _ hw211_0)).trans hw211_0), ((HB.out.cell (World.block_lt_of_cell? w _ hw211_1)).trans hw211_1), ((HB.out.cell (World.block_lt_of_cell? w _ hw211_2)).trans hw211_2), ((HB.out.cell (World.block_lt_of_cell? w _ hw211_3)).trans hw211_3), ((HB.out.cell (World.block_lt_of_cell? w _ hw213_0)).trans hw213_0), ((HB.out.cell (World.block_lt_of_cell? w _ hw213_1)).trans hw213_1), ((HB.out.cell (World.block_lt_of_cell? w _ hw213_2)).trans hw213_2), ((HB.out.cell (World.block_lt_of_cell? w _ hw213_3)).trans hw213_3)⟩ (fun hHeld => ?_)
                clear hK K
                refine norm_ (a' := ?_) ?_ ?_
                rotate_left
                · show Act.put _ (some 8) _ = _
                  simp only [Act.put, List.setIfInBounds_toArray, List.set_cons_zero, List.set_cons_succ, i64_w, i32_w, Go.IntKind.wrap_u32]
                  rfl
                exact norm_ (by simp only [putAll, Act.put, List.setIfInBounds_toArray, List.set_cons_zero, List.set_cons_succ]) (hCont (gb215) _ ⟨hHeld, (by (with_reducible repeat (first | apply Kd.R_alloc | apply Kd.R_drewN | apply Kd.R_drew)); exact Kd.R_mono HO_5.out (fun _ hk => hk.2)), (by (with_reducible repeat (first | apply Kd.R_alloc | apply Kd.R_drewN | apply Kd.R_drew)); exact HO_6.out), (by (with_reducible repeat (first | refine blk_drewN ?_ _ | refine blk_drew ?_ | refine blk_alloc ?_ _)); exact BK215.out), GW215.out, GE215.out, (by repeat (first | (with_reducible first | exact HB.out | apply below_alloc | apply pw_below_drewN | apply below_drew1 | refine below_set ?_ GE215.out) | exact HB.out))⟩)
              · skip
                refine box_step ?hg (N := 8) ?hd (cs := #[.int .i64 0, .bool false, .int .u64 0, .int .i64 0, .int .i64 0, .int .i64 0]) (t := 30) ?hr ?_; (case hd => rfl); (case hg => rfl); (case hr => first | (go_simp; done) | (go_simp; rfl))
                intro gb215 hg w10 hbox hb
                have n0_ := Aside0.mk (Kd.R_below (Kd.R_elderB (by (with_reducible repeat (first | apply Kd.R_alloc | apply Kd.R_drewN | apply Kd.R_drew)); exact HO_5.out) gb215 (Nat.le_of_eq hg.symm)) hb)
                have n1_ := Aside0.mk (Kd.R_below (by (with_reducible repeat (first | apply Kd.R_alloc | apply Kd.R_drewN | apply Kd.R_drew)); exact HO_6.out) hb)
                have n2_ := Aside0.mk (below_step (by repeat (first | (with_reducible first | exact HB.out | apply below_alloc | apply pw_below_drewN | apply below_drew1) | exact HB.out)) hb)
                have n3_ := Aside0.mk (hbox)
                have n4_ := Aside0.mk ((by rw [hg]; exact (below_size (by repeat (first | (with_reducible first | exact HB.out | apply below_alloc | apply pw_below_drewN | apply below_drew1) | exact HB.out))) : w.heap.size ≤ gb215))
                have n5_ := Aside0.mk ((by rw [hg]; exact (below_size (by repeat (first | (with_reducible first | exact HB.out | apply below_alloc | apply pw_below_drewN | apply below_drew1) | exact HB.out))) : w.heap.size ≤ gb215))
                clear HO_5
                clear HO_6
                clear HB
                have HO_5 := n0_
                have HO_6 := n1_
                have HB := n2_
                have BK215 := n3_
                have GW215 := n4_
                have GE215 := n5_
                clear n0_ n1_ n2_ n3_ n4_ n5_
                clear hb hbox hg
                refine hK.out _ _ ⟨((HB.out.cell (World.block_lt_of_cell? w _ hw209_0)).trans hw209_0), ((HB.out.cell (World.block_lt_of_cell? w _ hw209_1)).trans hw209_1), ((HB.out.cell (World.block_lt_of_cell? w _ hw209_2)).trans hw209_2), ((HB.out.cell (World.block_lt_of_cell? w _ hw209_3)).trans hw209_3), ((HB.out.cell (World.block_lt_of_cell? w _ hw210_0)).trans hw210_0), ((HB.out.cell (World.block_lt_of_cell? w _ hw210_1)).trans hw210_1), ((HB.out.cell (World.block_lt_of_cell? w _ hw210_2)).trans hw210_2), ((HB.out.cell (World.block_lt_of_cell? w _ hw210_3)).trans hw210_3), ((HB.out.cell (World.block_lt_of_cell? w _ hw211_0)).trans hw211_0), ((HB.out.cell (World.block_lt_of_cell? w _ hw211_1)).trans hw211_1), ((HB.out.cell (World.block_lt_of_cell? w _ hw211_2)).trans hw211_2), ((HB.out.cell (World.block_lt_of_cell? w _ hw211_3)).trans hw211_3), ((HB.out.cell (World.block_lt_of_cell? w _ hw213_0)).trans hw213_0), ((HB.out.cell (World.block_lt_of_cell? w _ hw213_1)).trans hw213_1), ((HB.out.cell (World.block_lt_of_cell? w _ hw213_2)).trans hw213_2), ((HB.out.cell (World.block_lt_of_cell? w _ hw213_3)).trans hw213_3)⟩ (fun hHeld => ?_)
                clear hK K
                refine norm_ (a' := ?_) ?_ ?_
                rotate_left
                · show Act.put _ (some 8) _ = _
                  simp only [Act.put, List.setIfInBounds_toArray, List.set_cons_zero, List.set_cons_succ, i64_w, i32_w, Go.IntKind.wrap_u32]
                  rfl
                refine one_ (i := 29) (N := some 47) #[true, true, true, true, true, true, true, true, true, true, true, true, true, true, true, true, true, true, true, true, true, true, true, true, true, true, true, true, true, true, false, false, false, true, false] rfl rfl (one_of HT_.out (by kernel_rfl)) (by decide) (fun K hK => ?_)
                refine goes_ Try.func10 (by kernel_rfl) rfl #[.int .i64 (wrap64 (Int.tdiv ((rd_T51 l0 x7_1).f3) 7)), .int .i64 700] (by rfl) rfl rfl (by (try simp only [List.map_toArray, List.map_cons, List.map_nil]); first | done | rfl | (simp only [List.length_drop, List.length_take]; rfl)) ?_
                with_reducible refine (hatstandlaw15_pick.calls (wrap64 (Int.tdiv ((rd_T51 l0 x7_1).f3) 7)) 700 t214 _ A6.out).mono ?_
                rintro e w' ⟨rfl, ⟨nd, rfl⟩⟩
                refine ⟨_, rfl, ?_⟩
                refine hK.out _ _ ⟨((HB.out.cell (World.block_lt_of_cell? w _ hw209_0)).trans hw209_0), ((HB.out.cell (World.block_lt_of_cell? w _ hw209_1)).trans hw209_1), ((HB.out.cell (World.block_lt_of_cell? w _ hw209_2)).trans hw209_2), ((HB.out.cell (World.block_lt_of_cell? w _ hw209_3)).trans hw209_3), ((HB.out.cell (World.block_lt_of_cell? w _ hw210_0)).trans hw210_0), ((HB.out.cell (World.block_lt_of_cell? w _ hw210_1)).trans hw210_1), ((HB.out.cell (World.block_lt_of_cell? w _ hw210_2)).trans hw210_2), ((HB.out.cell (World.block_lt_of_cell? w _ hw210_3)).trans hw210_3), ((HB.out.cell (World.block_lt_of_cell? w _ hw211_0)).trans hw211_0), ((HB.out.cell (World.block_lt_of_cell? w _ hw211_1)).trans hw211_1), ((HB.out.cell (World.block_lt_of_cell? w _ hw211_2)).trans hw211_2), ((HB.out.cell (World.block_lt_of_cell? w _ hw211_3)).trans hw211_3), ((HB.out.cell (World.block_lt_of_cell? w _ hw213_0)).trans hw213_0), ((HB.out.cell (World.block_lt_of_cell? w _ hw213_1)).trans hw213_1), ((HB.out.cell (World.block_lt_of_cell? w _ hw213_2)).trans hw213_2), ((HB.out.cell (World.block_lt_of_cell? w _ hw213_3)).trans hw213_3)⟩ (fun hHeld => ?_)
                clear hK K
                refine norm_ (a' := ?_) ?_ ?_
                rotate_left
                · show Act.put _ (some 47) _ = _
                  simp only [Act.put, List.setIfInBounds_toArray, List.set_cons_zero, List.set_cons_succ, i64_w, i32_w, Go.IntKind.wrap_u32]
                  rfl
                refine pure_ (i := 30) (N := some 48) (v := ?_) (a' := ?_) #[true, true, true, true, true, true, true, true, true, true, true, true, true, true, true, true, true, true, true, true, true, true, true, true, true, true, true, true, true, true, true, false, false, true, false] rfl rfl (any_of HT_.out (by kernel_rfl)) (fun _ _ _ h => h) (Or.inl ⟨by rfl, ?_⟩) ?_ ?_
                rotate_left
                · intro w'
                  go_simp
                  with_reducible rfl
                rotate_left
                · simp only [Act.put, List.setIfInBounds_toArray, List.set_cons_zero, List.set_cons_succ, i64_w, i32_w, Go.IntKind.wrap_u32]
                  rfl
                refine pure_ (i := 31) (N := some 49) (v := ?_) (a' := ?_) #[true, true, true, true, true, true, true, true, true, true, true, true, true, true, true, true, true, true, true, true, true, true, true, true, true, true, true, true, true, true, true, true, false, true, false] rfl rfl (any_of HT_.out (by kernel_rfl)) (fun _ _ _ h => h) (Or.inl ⟨by rfl, ?_⟩) ?_ ?_
                rotate_left
                · intro w'
                  go_simp
                  with_reducible rfl
                rotate_left
                · simp only [Act.put, List.setIfInBounds_toArray, List.set_cons_zero, List.set_cons_succ, i64_w, i32_w, Go.IntKind.wrap_u32]
                  rfl
                refine pure_ (i := 32) (N := some 50) (v := ?_) (a' := ?_) #[true, true, true, true, true, true, true, true, true, true, true, true, true, true, true, true, true, true, true, true, true, true, true, true, true, true, true, true, true, true, true, true, true, true, false] rfl rfl (any_of HT_.out (by kernel_rfl)) (fun _ _ _ h => h) (Or.inl ⟨by rfl, ?_⟩) ?_ ?_
                rotate_left
                · intro w'
                  go_simp
                  with_reducible rfl
                rotate_left
                · simp only [Act.put, List.setIfInBounds_toArray, List.set_cons_zero, List.set_cons_succ, i64_w, i32_w, Go.IntKind.wrap_u32]
                  rfl
                exact norm_ (by simp only [putAll, Act.put, List.setIfInBounds_toArray, List.set_cons_zero, List.set_cons_succ]) (hCont (gb215) _ ⟨hHeld, (by (with_reducible repeat (first | apply Kd.R_alloc | apply Kd.R_drewN | apply Kd.R_drew)); exact Kd.R_mono HO_5.out (fun _ hk => hk.2)), (by (with_reducible repeat (first | apply Kd.R_alloc | apply Kd.R_drewN | apply Kd.R_drew)); exact HO_6.out), (by (with_reducible repeat (first | refine blk_drewN ?_ _ | refine blk_drew ?_ | refine blk_alloc ?_ _)); exact BK215.out), GW215.out, GE215.out, (by repeat (first | (with_reducible first | exact HB.out | apply below_alloc | apply pw_below_drewN | apply below_drew1 | refine below_set ?_ GE215.out) | exact HB.out))⟩)
            · skip
              refine box_step ?hg (N := 8) ?hd (cs := #[.int .i64 0, .bool false, .int .u64 0, .int .i64 0, .int .i64 0, .int .i64 0]) (t := 30) ?hr ?_; (case hd => rfl); (case hg => rfl); (case hr => first | (go_simp; done) | (go_simp; rfl))
              intro gb215 hg w10 hbox hb
              have n0_ := Aside0.mk (Kd.R_below (Kd.R_elderB (by (with_reducible repeat (first | apply Kd.R_alloc | apply Kd.R_drewN | apply Kd.R_drew)); exact HO_5.out) gb215 (Nat.le_of_eq hg.symm)) hb)
              have n1_ := Aside0.mk (Kd.R_below (by (with_reducible repeat (first | apply Kd.R_alloc | apply Kd.R_drewN | apply Kd.R_drew)); exact HO_6.out) hb)
              have n2_ := Aside0.mk (below_step (by repeat (first | (with_reducible first | exact HB.out | apply below_alloc | apply pw_below_drewN | apply below_drew1) | exact HB.out)) hb)
              have n3_ := Aside0.mk (hbox)
              have n4_ := Aside0.mk ((by rw [hg]; exact (below_size (by repeat (first | (with_reducible first | exact HB.out | apply below_alloc | apply pw_below_drewN | apply below_drew1) | exact HB.out))) : w.heap.size ≤ gb215))
              have n5_ := Aside0.mk ((by rw [hg]; exact (below_size (by repeat (first | (with_reducible first | exact HB.out | apply below_alloc | apply pw_below_drewN | apply below_drew1) | exact HB.out))) : w.heap.size ≤ gb215))
              clear HO_5
              clear HO_6
              clear HB
              have HO_5 := n0_
              have HO_6 := n1_
              have HB := n2_
              have BK215 := n3_
              have GW215 := n4_
              have GE215 := n5_
              clear n0_ n1_ n2_ n3_ n4_ n5_
              clear hb hbox hg
              refine hK.out _ _ ⟨((HB.out.cell (World.block_lt_of_cell? w _ hw209_0)).trans hw209_0), ((HB.out.cell (World.block_lt_of_cell? w _ hw209_1)).trans hw209_1), ((HB.out.cell (World.block_lt_of_cell? w _ hw209_2)).trans hw209_2), ((HB.out.cell (World.block_lt_of_cell? w _ hw209_3)).trans hw209_3), ((HB.out.cell (World.block_lt_of_cell? w _ hw210_0)).trans hw210_0), ((HB.out.cell (World.block_lt_of_cell? w _ hw210_1)).trans hw210_1), ((HB.out.cell (World.block_lt_of_cell? w _ hw210_2)).trans hw210_2), ((HB.out.cell (World.block_lt_of_cell? w _ hw210_3)).trans hw210_3), ((HB.out.cell (World.block_lt_of_cell? w _ hw211_0)).trans hw211_0), ((HB.out.cell (World.block_lt_of_cell? w _ hw211_1)).trans hw211_1), ((HB.out.cell (World.block_lt_of_cell? w _ hw211_2)).trans hw211_2), ((HB.out.cell (World.block_lt_of_cell? w _ hw211_3)).trans hw211_3), ((HB.out.cell (World.block_lt_of_cell? w _ hw213_0)).trans hw213_0), ((HB.out.cell (World.block_lt_of_cell? w _ hw213_1)).trans hw213_1), ((HB.out.cell (World.block_lt_of_cell? w _ hw213_2)).trans hw213_2), ((HB.out.cell (World.block_lt_of_cell? w _ hw213_3)).trans hw213_3)⟩ (fun hHeld => ?_)
              clear hK K
              refine norm_ (a' := ?_) ?_ ?_
              rotate_left
              · show Act.put _ (some 8) _ = _
                simp only [Act.put, List.setIfInBounds_toArray, List.set_cons_zero, List.set_cons_succ, i64_w, i32_w, Go.IntKind.wrap_u32]
                rfl
              refine one_ (i := 18) (N := some 36) #[true, true, true, true, true, true, true, true, true, true, true, true, true, true, true, true, true, true, true, false, false, true, true, true, true, true, true, true, true, false, false, false, false, true, false] rfl rfl (one_of HT_.out (by kernel_rfl)) (by decide) (fun K hK => ?_)
              refine goes_ Try.func10 (by kernel_rfl) rfl #[.int .i64 ((rd_T51 l0 x7_1).f3), .int .i64 700] (by rfl) rfl rfl (by (try simp only [List.map_toArray, List.map_cons, List.map_nil]); first | done | rfl | (simp only [List.length_drop, List.length_take]; rfl)) ?_
              with_reducible refine (hatstandlaw15_pick.calls ((rd_T51 l0 x7_1).f3) 700 t212 _ A5.out).mono ?_
              rintro e w' ⟨rfl, ⟨nd, rfl⟩⟩
              refine ⟨_, rfl, ?_⟩
              refine hK.out _ _ ⟨((HB.out.cell (World.block_lt_of_cell? w _ hw209_0)).trans hw209_0), ((HB.out.cell (World.block_lt_of_cell? w _ hw209_1)).trans hw209_1), ((HB.out.cell (World.block_lt_of_cell? w _ hw209_2)).trans hw209_2), ((HB.out.cell (World.block_lt_of_cell? w _ hw209_3)).trans hw209_3), ((HB.out.cell (World.block_lt_of_cell? w _ hw210_0)).trans hw210_0), ((HB.out.cell (World.block_lt_of_cell? w _ hw210_1)).trans hw210_1), ((HB.out.cell (World.block_lt_of_cell? w _ hw210_2)).trans hw210_2), ((HB.out.cell (World.block_lt_of_cell? w _ hw210_3)).trans hw210_3), ((HB.out.cell (World.block_lt_of_cell? w _ hw211_0)).trans hw211_0), ((HB.out.cell (World.block_lt_of_cell? w _ hw211_1)).trans hw211_1), ((HB.out.cell (World.block_lt_of_cell? w _ hw211_2)).trans hw211_2), ((HB.out.cell (World.block_lt_of_cell? w _ hw211_3)).trans hw211_3), ((HB.out.cell (World.block_lt_of_cell? w _ hw213_0)).trans hw213_0), ((HB.out.cell (World.block_lt_of_cell? w _ hw213_1)).trans hw213_1), ((HB.out.cell (World.block_lt_of_cell? w _ hw213_2)).trans hw213_2), ((HB.out.cell (World.block_lt_of_cell? w _ hw213_3)).trans hw213_3)⟩ (fun hHeld => ?_)
              clear hK K
              refine norm_ (a' := ?_) ?_ ?_
              rotate_left
              · show Act.put _ (some 36) _ = _
                simp only [Act.put, List.setIfInBounds_toArray, List.set_cons_zero, List.set_cons_succ, i64_w, i32_w, Go.IntKind.wrap_u32]
                rfl
              refine pure_ (i := 19) (N := some 37) (v := ?_) (a' := ?_) #[true, true, true, true, true, true, true, true, true, true, true, true, true, true, true, true, true, true, true, true, false, true, true, true, true, true, true, true, true, false, false, false, false, true, false] rfl rfl (any_of HT_.out (by kernel_rfl)) (fun _ _ _ h => h) (Or.inl ⟨by rfl, ?_⟩) ?_ ?_
              rotate_left
              · intro w'
                go_simp
                with_reducible rfl
              rotate_left
              · simp only [Act.put, List.setIfInBounds_toArray, List.set_cons_zero, List.set_cons_succ, i64_w, i32_w, Go.IntKind.wrap_u32]
                rfl
              refine pure_ (i := 20) (N := some 38) (v := ?_) (a' := ?_) #[true, true, true, true, true, true, true, true, true, true, true, true, true, true, true, true, true, true, true, true, true, true, true, true, true, true, true, true, true, false, false, false, false, true, false] rfl rfl (any_of HT_.out (by kernel_rfl)) (fun _ _ _ h => h) (Or.inl ⟨by rfl, ?_⟩) ?_ ?_
              rotate_left
              · intro w'
                go_simp
                with_reducible rfl
              rotate_left
              · simp only [Act.put, List.setIfInBounds_toArray, List.set_cons_zero, List.set_cons_succ, i64_w, i32_w, Go.IntKind.wrap_u32]
                rfl
              refine one_ (i := 29) (N := some 47) #[true, true, true, true, true, true, true, true, true, true, true, true, true, true, true, true, true, true, true, true, true, true, true, true, true, true, true, true, true, true, false, false, false, true, false] rfl rfl (one_of HT_.out (by kernel_rfl)) (by decide) (fun K hK => ?_)
              refine goes_ Try.func10 (by kernel_rfl) rfl #[.int .i64 (wrap64 (Int.tdiv ((rd_T51 l0 x7_1).f3) 7)), .int .i64 700] (by rfl) rfl rfl (by (try simp only [List.map_toArray, List.map_cons, List.map_nil]); first | done | rfl | (simp only [List.length_drop, List.length_take]; rfl)) ?_
              with_reducible refine (hatstandlaw15_pick.calls (wrap64 (Int.tdiv ((rd_T51 l0 x7_1).f3) 7)) 700 t214 _ A6.out).mono ?_
              rintro e w' ⟨rfl, ⟨nd, rfl⟩⟩
              refine ⟨_, rfl, ?_⟩
              refine hK.out _ _ ⟨((HB.out.cell (World.block_lt_of_cell? w _ hw209_0)).trans hw209_0), ((HB.out.cell (World.block_lt_of_cell? w _ hw209_1)).trans hw209_1), ((HB.out.cell (World.block_lt_of_cell? w _ hw209_2)).trans hw209_2), ((HB.out.cell (World.block_lt_of_cell? w _ hw209_3)).trans hw209_3), ((HB.out.cell (World.block_lt_of_cell? w _ hw210_0)).trans hw210_0), ((HB.out.cell (World.block_lt_of_cell? w _ hw210_1)).trans hw210_1), ((HB.out.cell (World.block_lt_of_cell? w _ hw210_2)).trans hw210_2), ((HB.out.cell (World.block_lt_of_cell? w _ hw210_3)).trans hw210_3), ((HB.out.cell (World.block_lt_of_cell? w _ hw211_0)).trans hw211_0), ((HB.out.cell (World.block_lt_of_cell? w _ hw211_1)).trans hw211_1), ((HB.out.cell (World.block_lt_of_cell? w _ hw211_2)).trans hw211_2), ((HB.out.cell (World.block_lt_of_cell? w _ hw211_3)).trans hw211_3), ((HB.out.cell (World.block_lt_of_cell? w _ hw213_0)).trans hw213_0), ((HB.out.cell (World.block_lt_of_cell? w _ hw213_1)).trans hw213_1), ((HB.out.cell (World.block_lt_of_cell? w _ hw213_2)).trans hw213_2), ((HB.out.cell (World.block_lt_of_cell? w _ hw213_3)).trans hw213_3)⟩ (fun hHeld => ?_)
              clear hK K
              refine norm_ (a' := ?_) ?_ ?_
              rotate_left
              · show Act.put _ (some 47) _ = _
                simp only [Act.put, List.setIfInBounds_toArray, List.set_cons_zero, List.set_cons_succ, i64_w, i32_w, Go.IntKind.wrap_u32]
                rfl
              refine pure_ (i := 30) (N := some 48) (v := ?_) (a' := ?_) #[true, true, true, true, true, true, true, true, true, true, true, true, true, true, true, true, true, true, true, true, true, true, true, true, true, true, true, true, true, true, true, false, false, true, false] rfl rfl (any_of HT_.out (by kernel_rfl)) (fun _ _ _ h => h) (Or.inl ⟨by rfl, ?_⟩) ?_ ?_
              rotate_left
              · intro w'
                go_simp
                with_reducible rfl
              rotate_left
              · simp only [Act.put, List.setIfInBounds_toArray, List.set_cons_zero, List.set_cons_succ, i64_w, i32_w, Go.IntKind.wrap_u32]
                rfl
              refine pure_ (i := 31) (N := some 49) (v := ?_) (a' := ?_) #[true, true, true, true, true, true, true, true, true, true, true, true, true, true, true, true, true, true, true, true, true, true, true, true, true, true, true, true, true, true, true, true, false, true, false] rfl rfl (any_of HT_.out (by kernel_rfl)) (fun _ _ _ h => h) (Or.inl ⟨by rfl, ?_⟩) ?_ ?_
              rotate_left
              · intro w'
                go_simp
                with_reducible rfl
              rotate_left
              · simp only [Act.put, List.setIfInBounds_toArray, List.set_cons_zero, List.set_cons_succ, i64_w, i32_w, Go.IntKind.wrap_u32]
                rfl
              refine pure_ (i := 32) (N := some 50) (v := ?_) (a' := ?_) #[true, true, true, true, true, true, true, true, true, true, true, true, true, true, true, true, true, true, true, true, true, true, true, true, true, true, true, true, true, true, true, true, true, true, false] rfl rfl (any_of HT_.out (by kernel_rfl)) (fun _ _ _ h => h) (Or.inl ⟨by rfl, ?_⟩) ?_ ?_
              rotate_left
              · intro w'
                go_simp
                with_reducible rfl
              rotate_left
              · simp only [Act.put, List.setIfInBounds_toArray, List.set_cons_zero, List.set_cons_succ, i64_w, i32_w, Go.IntKind.wrap_u32]
                rfl
              exact norm_ (by simp only [putAll, Act.put, List.setIfInBounds_toArray, List.set_cons_zero, List.set_cons_succ]) (hCont (gb215) _ ⟨hHeld, (by (with_reducible repeat (first | apply Kd.R_alloc | apply Kd.R_drewN | apply Kd.R_drew)); exact Kd.R_mono HO_5.out (fun _ hk => hk.2)), (by (with_reducible repeat (first | apply Kd.R_alloc | apply Kd.R_drewN | apply Kd.R_drew)); exact HO_6.out), (by (with_reducible repeat (first | refine blk_drewN ?_ _ | refine blk_drew ?_ | refine blk_alloc ?_ _)); exact BK215.out), GW215.out, GE215.out, (by repeat (first | (with_reducible first | exact HB.out | apply below_alloc | apply pw_below_drewN | apply below_drew1 | refine below_set ?_ GE215.out) | exact HB.out))⟩)
          rintro gb215 w11 ⟨hS_, h0_, h1_, h2_, h3_, h4_, h5_⟩
          have n0_ : Aside0 (Kd.R k30 30 w11 w.heap.size (fun k_ => k_ ≠ gb215) u5 x5_1) := ⟨h0_⟩
          have n1_ : Aside0 (Kd.R (Kd.int .u64) 27 w11 w.heap.size (fun _ => True) u6 x6_1) := ⟨h1_⟩
          have n2_ : Aside0 (w11.heap[gb215]? = some (.cells #[.int .i64 0, .bool false, .int .u64 0, .int .i64 0, .int .i64 0, .int .i64 0] 30 (0, 0))) := ⟨h2_⟩
          have n3_ : Aside0 (w.heap.size ≤ gb215) := ⟨h3_⟩
          have n4_ : Aside0 (w.heap.size ≤ gb215) := ⟨h4_⟩
          have n5_ : Aside0 (Below w.heap.size w w11) := ⟨h5_⟩
          clear HO_5
          clear HO_6
          clear HB
          clear h0_ h1_ h2_ h3_ h4_ h5_
          have HO_5 := n0_
          have HO_6 := n1_
          have BK215 := n2_
          have GW215 := n3_
          have GE215 := n4_
          have HB := n5_
          clear n0_ n1_ n2_ n3_ n4_ n5_
          have hHeld : w11.cell? (ad209.add ((x7_1).toNat * 4)) = some (.bool ((rd_T51 l0 x7_1).f0)) ∧ w11.cell? ⟨(ad209.add ((x7_1).toNat * 4)).block, (ad209.add ((x7_1).toNat * 4)).off + 1, none⟩ = some (.bool ((rd_T51 l0 x7_1).f1)) ∧ w11.cell? ⟨(ad209.add ((x7_1).toNat * 4)).block, (ad209.add ((x7_1).toNat * 4)).off + 2, none⟩ = some (.int .u64 ((rd_T51 l0 x7_1).f2)) ∧ w11.cell? ⟨(ad209.add ((x7_1).toNat * 4)).block, (ad209.add ((x7_1).toNat * 4)).off + 3, none⟩ = some (.int .i64 ((rd_T51 l0 x7_1).f3)) ∧ w11.cell? (ad209.add ((x7_1).toNat * 4)) = some (.bool ((rd_T51 l0 x7_1).f0)) ∧ w11.cell? ⟨(ad209.add ((x7_1).toNat * 4)).block, (ad209.add ((x7_1).toNat * 4)).off + 1, none⟩ = some (.bool ((rd_T51 l0 x7_1).f1)) ∧ w11.cell? ⟨(ad209.add ((x7_1).toNat * 4)).block, (ad209.add ((x7_1).toNat * 4)).off + 2, none⟩ = some (.int .u64 ((rd_T51 l0 x7_1).f2)) ∧ w11.cell? ⟨(ad209.add ((x7_1).toNat * 4)).block, (ad209.add ((x7_1).toNat * 4)).off + 3, none⟩ = some (.int .i64 ((rd_T51 l0 x7_1).f3)) ∧ w11.cell? (ad209.add ((x7_1).toNat * 4)) = some (.bool ((rd_T51 l0 x7_1).f0)) ∧ w11.cell? ⟨(ad209.add ((x7_1).toNat * 4)).block, (ad209.add ((x7_1).toNat * 4)).off + 1, none⟩ = some (.bool ((rd_T51 l0 x7_1).f1)) ∧ w11.cell? ⟨(ad209.add ((x7_1).toNat * 4)).block, (ad209.add ((x7_1).toNat * 4)).off + 2, none⟩ = some (.int .u64 ((rd_T51 l0 x7_1).f2)) ∧ w11.cell? ⟨(ad209.add ((x7_1).toNat * 4)).block, (ad209.add ((x7_1).toNat * 4)).off + 3, none⟩ = some (.int .i64 ((rd_T51 l0 x7_1).f3)) ∧ w11.cell? (ad209.add ((x7_1).toNat * 4)) = some (.bool ((rd_T51 l0 x7_1).f0)) ∧ w11.cell? ⟨(ad209.add ((x7_1).toNat * 4)).block, (ad209.add ((x7_1).toNat * 4)).off + 1, none⟩ = some (.bool ((rd_T51 l0 x7_1).f1)) ∧ w11.cell? ⟨(ad209.add ((x7_1).toNat * 4)).block, (ad209.add ((x7_1).toNat * 4)).off + 2, none⟩ = some (.int .u64 ((rd_T51 l0 x7_1).f2)) ∧ w11.cell? ⟨(ad209.add ((x7_1).toNat * 4)).block, (ad209.add ((x7_1).toNat * 4)).off + 3, none⟩ = some (.int .i64 ((rd_T51 l0 x7_1).f3)) := hS_
          refine norm_ (a' := ?_) ?_ ?_
          rotate_left
          · simp only [putAll, Act.put, List.setIfInBounds_toArray, List.set_cons_zero, List.set_cons_succ]
            rfl
          refine one_ (i := 34) (N := none) #[true, true, true, true, true, true, true, true, true, true, true, true, true, true, true, true, true, true, true, true, true, true, true, true, true, true, true, true, true, true, true, true, true, true, true] rfl rfl (one_of HT_.out (by kernel_rfl)) (by decide) (fun K hK => ?_)
          have hs12 : w11.cell? ⟨gb215, 0, none⟩ = some (.int .i64 0) := (blk_cell BK215.out 0).trans rfl
          have hfs12 := blk_frozen BK215.out 0
          have hs13 : w11.cell? ⟨gb215, 1, none⟩ = some (.bool false) := (blk_cell BK215.out 1).trans rfl
          have hfs13 := blk_frozen BK215.out 1
          have hs14 : w11.cell? ⟨gb215, 2, none⟩ = some (.int .u64 0) := (blk_cell BK215.out 2).trans rfl
          have hfs14 := blk_frozen BK215.out 2
          have hs15 : w11.cell? ⟨gb215, 3, none⟩ = some (.int .i64 0) := (blk_cell BK215.out 3).trans rfl
          have hfs15 := blk_frozen BK215.out 3
          have hs16 : w11.cell? ⟨gb215, 4, none⟩ = some (.int .i64 0) := (blk_cell BK215.out 4).trans rfl
          have hfs16 := blk_frozen BK215.out 4
          have hs17 : w11.cell? ⟨gb215, 5, none⟩ = some (.int .i64 0) := (blk_cell BK215.out 5).trans rfl
          have hfs17 := blk_frozen BK215.out 5
          refine skip_ (w1 := ?_) (by rfl) rfl ?_ ?_
          rotate_left
          · go_simp
            rfl
          refine hK.out _ _ ⟨((cell_far (p := ⟨gb215, _, none⟩) (by first | exact Nat.ne_of_lt (Nat.lt_of_lt_of_le (by have := World.block_lt_of_cell? _ _ hw209_0; first | rwa [add_block] at this | exact this) GW215.out) | (rw [add_block]; exact Nat.ne_of_lt (Nat.lt_of_lt_of_le (by have := World.block_lt_of_cell? _ _ hw209_0; first | rwa [add_block] at this | exact this) GW215.out)) | (show (Addr.add _ _).block ≠ _; rw [add_block]; exact Nat.ne_of_lt (Nat.lt_of_lt_of_le (by have := World.block_lt_of_cell? _ _ hw209_0; first | rwa [add_block] at this | exact this) GW215.out)) | (dsimp only; exact Nat.ne_of_lt (Nat.lt_of_lt_of_le (by have := World.block_lt_of_cell? _ _ hw209_0; first | rwa [add_block] at this | exact this) GW215.out))) _).trans (((cell_far (p := ⟨gb215, _, none⟩) (by first | exact Nat.ne_of_lt (Nat.lt_of_lt_of_le (by have := World.block_lt_of_cell? _ _ hw209_0; first | rwa [add_block] at this | exact this) GW215.out) | (rw [add_block]; exact Nat.ne_of_lt (Nat.lt_of_lt_of_le (by have := World.block_lt_of_cell? _ _ hw209_0; first | rwa [add_block] at this | exact this) GW215.out)) | (show (Addr.add _ _).block ≠ _; rw [add_block]; exact Nat.ne_of_lt (Nat.lt_of_lt_of_le (by have := World.block_lt_of_cell? _ _ hw209_0; first | rwa [add_block] at this | exact this) GW215.out)) | (dsimp only; exact Nat.ne_of_lt (Nat.lt_of_lt_of_le (by have := World.block_lt_of_cell? _ _ hw209_0; first | rwa [add_block] at this | exact this) GW215.out))) _).trans (((cell_far (p := ⟨gb215, _, none⟩) (by first | exact Nat.ne_of_lt (Nat.lt_of_lt_of_le (by have := World.block_lt_of_cell? _ _ hw209_0; first | rwa [add_block] at this | exact this) GW215.out) | (rw [add_block]; exact Nat.ne_of_lt (Nat.lt_of_lt_of_le (by have := World.block_lt_of_cell? _ _ hw209_0; first | rwa [add_block] at this | exact this) GW215.out)) | (show (Addr.add _ _).block ≠ _; rw [add_block]; exact Nat.ne_of_lt (Nat.lt_of_lt_of_le (by have := World.block_lt_of_cell? _ _ hw209_0; first | rwa [add_block] at this | exact this) GW215.out)) | (dsimp only; exact Nat.ne_of_lt (Nat.lt_of_lt_of_le (by have := World.block_lt_of_cell? _ _ hw209_0; first | rwa [add_block] at this | exact this) GW215.out))) _).trans (((cell_far (p := ⟨gb215, _, none⟩) (by first | exact Nat.ne_of_lt (Nat.lt_of_lt_of_le (by have := World.block_lt_of_cell? _ _ hw209_0; first | rwa [add_block] at this | exact this) GW215.out) | (rw [add_block]; exact Nat.ne_of_lt (Nat.lt_of_lt_of_le (by have := World.block_lt_of_cell? _ _ hw209_0; first | rwa [add_block] at this | exact this) GW215.out)) | (show (Addr.add _ _).block ≠ _; rw [add_block]; exact Nat.ne_of_lt (Nat.lt_of_lt_of_le (by have := World.block_lt_of_cell? _ _ hw209_0; first | rwa [add_block] at this | exact this) GW215.out)) | (dsimp only; exact Nat.ne_of_lt (Nat.lt_of_lt_of_le (by have := World.block_lt_of_cell? _ _ hw209_0; first | rwa [add_block] at this | exact this) GW215.out))) _).trans (((cell_far (p := ⟨gb215, _, none⟩) (by first | exact Nat.ne_of_lt (Nat.lt_of_lt_of_le (by have := World.block_lt_of_cell? _ _ hw209_0; first | rwa [add_block] at this | exact this) GW215.out) | (rw [add_block]; exact Nat.ne_of_lt (Nat.lt_of_lt_of_le (by have := World.block_lt_of_cell? _ _ hw209_0; first | rwa [add_block] at this | exact this) GW215.out)) | (show (Addr.add _ _).block ≠ _; rw [add_block]; exact Nat.ne_of_lt (Nat.lt_of_lt_of_le (by have := World.block_lt_of_cell? _ _ hw209_0; first | rwa [add_block] at this | exact this) GW215.out)) | (dsimp only; exact Nat.ne_of_lt (Nat.lt_of_lt_of_le (by have := World.block_lt_of_cell? _ _ hw209_0; first | rwa [add_block] at this | exact this) GW215.out))) _).trans (((cell_far (p := ⟨gb215, _, none⟩) (by first | exact Nat.ne_of_lt (Nat.lt_of_lt_of_le (by have := World.block_lt_of_cell? _ _ hw209_0; first | rwa [add_block] at this | exact this) GW215.out) | (rw [add_block]; exact Nat.ne_of_lt (Nat.lt_of_lt_of_le (by have := World.block_lt_of_cell? _ _ hw209_0; first | rwa [add_block] at this | exact this) GW215.out)) | (show (Addr.add _ _).block ≠ _; rw [add_block]; exact Nat.ne_of_lt (Nat.lt_of_lt_of_le (by have := World.block_lt_of_cell? _ _ hw209_0; first | rwa [add_block] at this | exact this) GW215.out)) | (dsimp only; exact Nat.ne_of_lt (Nat.lt_of_lt_of_le (by have := World.block_lt_of_cell? _ _ hw209_0; first | rwa [add_block] at this | exact this) GW215.out))) _).trans (hHeld.1)))))))))))), ((cell_far (p := ⟨gb215, _, none⟩) (by first | exact Nat.ne_of_lt (Nat.lt_of_lt_of_le (by have := World.block_lt_of_cell? _ _ hw209_1; first | rwa [add_block] at this | exact this) GW215.out) | (rw [add_block]; exact Nat.ne_of_lt (Nat.lt_of_lt_of_le (by have := World.block_lt_of_cell? _ _ hw209_1; first | rwa [add_block] at this | exact this) GW215.out)) | (show (Addr.add _ _).block ≠ _; rw [add_block]; exact Nat.ne_of_lt (Nat.lt_of_lt_of_le (by have := World.block_lt_of_cell? _ _ hw209_1; first | rwa [add_block] at this | exact this) GW215.out)) | (dsimp only; exact Nat.ne_of_lt (Nat.lt_of_lt_of_le (by have := World.block_lt_of_cell? _ _ hw209_1; first | rwa [add_block] at this | exact this) GW215.out))) _).trans (((cell_far (p := ⟨gb215, _, none⟩) (by first | exact Nat.ne_of_lt (Nat.lt_of_lt_of_le (by have := World.block_lt_of_cell? _ _ hw209_1; first | rwa [add_block] at this | exact this) GW215.out) | (rw [add_block]; exact Nat.ne_of_lt (Nat.lt_of_lt_of_le (by have := World.block_lt_of_cell? _ _ hw209_1; first | rwa [add_block] at this | exact this) GW215.out)) | (show (Addr.add _ _).block ≠ _; rw [add_block]; exact Nat.ne_of_lt (Nat.lt_of_lt_of_le (by have := World.block_lt_of_cell? _ _ hw209_1; first | rwa [add_block] at this | exact this) GW215.out)) | (dsimp only; exact Nat.ne_of_lt (Nat.lt_of_lt_of_le (by have := World.block_lt_of_cell? _ _ hw209_1; first | rwa [add_block] at this | exact this) GW215.out))) _).trans (((cell_far (p := ⟨gb215, _, none⟩) (by first | exact Nat.ne_of_lt (Nat.lt_of_lt_of_le (by have := World.block_lt_of_cell? _ _ hw209_1; first | rwa [add_block] at this | exact this) GW215.out) | (rw [add_block]; exact Nat.ne_of_lt (Nat.lt_of_lt_of_le (by have := World.block_lt_of_cell? _ _ hw209_1; first | rwa [add_block] at this | exact this) GW215.out)) | (show (Addr.add _ _).block ≠ _; rw [add_block]; exact Nat.ne_of_lt (Nat.lt_of_lt_of_le (by have := World.block_lt_of_cell? _ _ hw209_1; first | rwa [add_block] at this | exact this) GW215.out)) | (dsimp only; exact Nat.ne_of_lt (Nat.lt_of_lt_of_le (by have := World.block_lt_of_cell? _ _ hw209_1; first | rwa [add_block] at this | exact this) GW215.out))) _).trans (((cell_far (p := ⟨gb215, _, none⟩) (by first | exact Nat.ne_of_lt (Nat.lt_of_lt_of_le (by have := World.block_lt_of_cell? _ _ hw209_1; first | rwa [add_block] at this | exact this) GW215.out) | (rw [add_block]; exact Nat.ne_of_lt (Nat.lt_of_lt_of_le (by have := World.block_lt_of_cell? _ _ hw209_1; first | rwa [add_block] at this | exact this) GW215.out)) | (show (Addr.add _ _).block ≠ _; rw [add_block]; exact Nat.ne_of_lt (Nat.lt_of_lt_of_le (by have := World.block_lt_of_cell? _ _ hw209_1; first | rwa [add_block] at this | exact this) GW215.out)) | (dsimp only; exact Nat.ne_of_lt (Nat.lt_of_lt_of_le (by have := World.block_lt_of_cell? _ _ hw209_1; first | rwa [add_block] at this | exact this) GW215.out))) _).trans (((cell_far (p := ⟨gb215, _, none⟩) (by first | exact Nat.ne_of_lt (Nat.lt_of_lt_of_le (by have := World.block_lt_of_cell? _ _ hw209_1; first | rwa [add_block] at this | exact this) GW215.out) | (rw [add_block]; exact Nat.ne_of_lt (Nat.lt_of_lt_of_le (by have := World.block_lt_of_cell? _ _ hw209_1; first | rwa [add_block] at this | exact this) GW215.out)) | (show (Addr.add _ _).block ≠ _; rw [add_block]; exact Nat.ne_of_lt (Nat.lt_of_lt_of_le (by have := World.block_lt_of_cell? _ _ hw209_1; first | rwa [add_block] at this | exact this) GW215.out)) | (dsimp only; exact Nat.ne_of_lt (Nat.lt_of_lt_of_le (by have := World.block_lt_of_cell? _ _ hw209_1; first | rwa [add_block] at this | exact this) GW215.out))) _).trans (((cell_far (p := ⟨gb215, _, none⟩) (by first | exact Nat.ne_of_lt (Nat.lt_of_lt_of_le (by have := World.block_lt_of_cell? _ _ hw209_1; first | rwa [add_block] at this | exact this) GW215.out) | (rw [add_block]; exact Nat.ne_of_lt (Nat.lt_of_lt_of_le (by have := World.block_lt_of_cell? _ _ hw209_1; first | rwa [add_block] at this | exact this) GW215.out)) | (show (Addr.add _ _).block ≠ _; rw [add_block]; exact Nat.ne_of_lt (Nat.lt_of_lt_of_le (by have := World.block_lt_of_cell? _ _ hw209_1; first | rwa [add_block] at this | exact this) GW215.out)) | (dsimp only; exact Nat.ne_of_lt (Nat.lt_of_lt_of_le (by have := World.block_lt_of_cell? _ _ hw209_1; first | rwa [add_block] at this | exact this) GW215.out))) _).trans (hHeld.2.1)))))))))))), ((cell_far (p := ⟨gb215, _, none⟩) (by first | exact Nat.ne_of_lt (Nat.lt_of_lt_of_le (by have := World.block_lt_of_cell? _ _ hw209_2; first | rwa [add_block] at this | exact this) GW215.out) | (rw [add_block]; exact Nat.ne_of_lt (Nat.lt_of_lt_of_le (by have := World.block_lt_of_cell? _ _ hw209_2; first | rwa [add_block] at this | exact this) GW215.out)) | (show (Addr.add _ _).block ≠ _; rw [add_block]; exact Nat.ne_of_lt (Nat.lt_of_lt_of_le (by have := World.block_lt_of_cell? _ _ hw209_2; first | rwa [add_block] at this | exact this) GW215.out)) | (dsimp only; exact Nat.ne_of_lt (Nat.lt_of_lt_of_le (by have := World.block_lt_of_cell? _ _ hw209_2; first | rwa [add_block] at this | exact this) GW215.out))) _).trans (((cell_far (p := ⟨gb215, _, none⟩) (by first | exact Nat.ne_of_lt (Nat.lt_of_lt_of_le (by have := World.block_lt_of_cell? _ _ hw209_2; first | rwa [add_block] at this | exact this) GW215.out) | (rw [add_block]; exact Nat.ne_of_lt (Nat.lt_of_lt_of_le (by have := World.block_lt_of_cell? _ _ hw209_2; first | rwa [add_block] at this | exact this) GW215.out)) | (show (Addr.add _ _).block ≠ _; rw [add_block]; exact Nat.ne_of_lt (Nat.lt_of_lt_of_le (by have := World.block_lt_of_cell? _ _ hw209_2; first | rwa [add_block] at this | exact this) GW215.out)) | (dsimp only; exact Nat.ne_of_lt (Nat.lt_of_lt_of_le (by have := World.block_lt_of_cell? _ _ hw209_2; first | rwa [add_block] at this | exact this) GW215.out))) _).trans (((cell_far (p := ⟨gb215, _, none⟩) (by first | exact Nat.ne_of_lt (Nat.lt_of_lt_of_le (by have := World.block_lt_of_cell? _ _ hw209_2; first | rwa [add_block] at this | exact this) GW215.out) | (rw [add_block]; exact Nat.ne_of_lt (Nat.lt_of_lt_of_le (by have := World.block_lt_of_cell? _ _ hw209_2; first | rwa [add_block] at this | exact this) GW215.out)) | (show (Addr.add _ _).block ≠ _; rw [add_block]; exact Nat.ne_of_lt (Nat.lt_of_lt_of_le (by have := World.block_lt_of_cell? _ _ hw209_2; first | rwa [add_block] at this | exact this) GW215.out)) | (dsimp only; exact Nat.ne_of_lt (Nat.lt_of_lt_of_le (by have := World.block_lt_of_cell? _ _ hw209_2; first | rwa [add_block] at this | exact this) GW215.out))) _).trans (((cell_far (p := ⟨gb215, _, none⟩) (by first | exact Nat.ne_of_lt (Nat.lt_of_lt_of_le (by have := World.block_lt_of_cell? _ _ hw209_2; first | rwa [add_block] at this | exact this) GW215.out) | (rw [add_block]; exact Nat.ne_of_lt (Nat.lt_of_lt_of_le (by have := World.block_lt_of_cell? _ _ hw209_2; first | rwa [add_block] at this | exact this) GW215.out)) | (show (Addr.add _ _).block ≠ _; rw [add_block]; exact Nat.ne_of_lt (Nat.lt_of_lt_of_le (by have := World.block_lt_of_cell? _ _ hw209_2; first | rwa [add_block] at this | exact this) GW215.out)) | (dsimp only; exact Nat.ne_of_lt (Nat.lt_of_lt_of_le (by have := World.block_lt_of_cell? _ _ hw209_2; first | rwa [add_block] at this | exact this) GW215.out))) _).trans (((cell_far (p := ⟨gb215, _, none⟩) (by first | exact Nat.ne_of_lt (Nat.lt_of_lt_of_le (by have := World.block_lt_of_cell? _ _ hw209_2; first | rwa [add_block] at this | exact this) GW215.out) | (rw [add_block]; exact Nat.ne_of_lt (Nat.lt_of_lt_of_le (by have := World.block_lt_of_cell? _ _ hw209_2; first | rwa [add_block] at this | exact this) GW215.out)) | (show (Addr.add _ _).block ≠ _; rw [add_block]; exact Nat.ne_of_lt (Nat.lt_of_lt_of_le (by have := World.block_lt_of_cell? _ _ hw209_2; first | rwa [add_block] at this | exact this) GW215.out)) | (dsimp only; exact Nat.ne_of_lt (Nat.lt_of_lt_of_le (by have := World.block_lt_of_cell? _ _ hw209_2; first | rwa [add_block] at this | exact this) GW215.out))) _).trans (((cell_far (p := ⟨gb215, _, none⟩) (by first | exact Nat.ne_of_lt (Nat.lt_of_lt_of_le (by have := World.block_lt_of_cell? _ _ hw209_2; first | rwa [add_block] at this | exact this) GW215.out) | (rw [add_block]; exact Nat.ne_of_lt (Nat.lt_of_lt_of_le (by have := World.block_lt_of_cell? _ _ hw209_2; first | rwa [add_block] at this | exact this) GW215.out)) | (show (Addr.add _ _).block ≠ _; rw [add_block]; exact Nat.ne_of_lt (Nat.lt_of_lt_of_le (by have := World.block_lt_of_cell? _ _ hw209_2; first | rwa [add_block] at this | exact this) GW215.out)) | (dsimp only; exact Nat.ne_of_lt (Nat.lt_of_lt_of_le (by have := World.block_lt_of_cell? _ _ hw209_2; first | rwa [add_block] at this | exact this) GW215.out))) _).trans (hHeld.2.2.1)))))))))))), ((cell_far (p := ⟨gb215, _, none⟩) (by first | exact Nat.ne_of_lt (Nat.lt_of_lt_of_le (by have := World.block_lt_of_cell? _ _ hw209_3; first | rwa [add_block] at this | exact this) GW215.out) | (rw [add_block]; exact Nat.ne_of_lt (Nat.lt_of_lt_of_le (by have := World.block_lt_of_cell? _ _ hw209_3; first | rwa [add_block] at this | exact this) GW215.out)) | (show (Addr.add _ _).block ≠ _; rw [add_block]; exact Nat.ne_of_lt (Nat.lt_of_lt_of_le (by have := World.block_lt_of_cell? _ _ hw209_3; first | rwa [add_block] at this | exact this) GW215.out)) | (dsimp only; exact Nat.ne_of_lt (Nat.lt_of_lt_of_le (by have := World.block_lt_of_cell? _ _ hw209_3; first | rwa [add_block] at this | exact this) GW215.out))) _).trans (((cell_far (p := ⟨gb215, _, none⟩) (by first | exact Nat.ne_of_lt (Nat.lt_of_lt_of_le (by have := World.block_lt_of_cell? _ _ hw209_3; first | rwa [add_block] at this | exact this) GW215.out) | (rw [add_block]; exact Nat.ne_of_lt (Nat.lt_of_lt_of_le (by have := World.block_lt_of_cell? _ _ hw209_3; first | rwa [add_block] at this | exact this) GW215.out)) | (show (Addr.add _ _).block ≠ _; rw [add_block]; exact Nat.ne_of_lt (Nat.lt_of_lt_of_le (by have := World.block_lt_of_cell? _ _ hw209_3; first | rwa [add_block] at this | exact this) GW215.out)) | (dsimp only; exact Nat.ne_of_lt (Nat.lt_of_lt_of_le (by have := World.block_lt_of_cell? _ _ hw209_3; first | rwa [add_block] at this | exact this) GW215.out))) _).trans (((cell_far (p := ⟨gb215, _, none⟩) (by first | exact Nat.ne_of_lt (Nat.lt_of_lt_of_le (by have := World.block_lt_of_cell? _ _ hw209_3; first | rwa [add_block] at this | exact this) GW215.out) | (rw [add_block]; exact Nat.ne_of_lt (Nat.lt_of_lt_of_le (by have := World.block_lt_of_cell? _ _ hw209_3; first | rwa [add_block] at this | exact this) GW215.out)) | (show (Addr.add _ _).block ≠ _; rw [add_block]; exact Nat.ne_of_lt (Nat.lt_of_lt_of_le (by have := World.block_lt_of_cell? _ _ hw209_3; first | rwa [add_block] at this | exact this) GW215.out)) | (dsimp only; exact Nat.ne_of_lt (Nat.lt_of_lt_of_le (by have := World.block_lt_of_cell? _ _ hw209_3; first | rwa [add_block] at this | exact this) GW215.out))) _).trans (((cell_far (p := ⟨gb215, _, none⟩) (by first | exact Nat.ne_of_lt (Nat.lt_of_lt_of_le (by have := World.block_lt_of_cell? _ _ hw209_3; first | rwa [add_block] at this | exact this) GW215.out) | (rw [add_block]; exact Nat.ne_of_lt (Nat.lt_of_lt_of_le (by have := World.block_lt_of_cell? _ _ hw209_3; first | rwa [add_block] at this | exact this) GW215.out)) | (show (Addr.add _ _).block ≠ _; rw [add_block]; exact Nat.ne_of_lt (Nat.lt_of_lt_of_le (by have := World.block_lt_of_cell? _ _ hw209_3; first | rwa [add_block] at this | exact this) GW215.out)) | (dsimp only; exact Nat.ne_of_lt (Nat.lt_of_lt_of_le (by have := World.block_lt_of_cell? _ _ hw209_3; first | rwa [add_block] at this | exact this) GW215.out))) _).trans (((cell_far (p := ⟨gb215, _, none⟩) (by first | exact Nat.ne_of_lt (Nat.lt_of_lt_of_le (by have := World.block_lt_of_cell? _ _ hw209_3; first | rwa [add_block] at this | exact this) GW215.out) | (rw [add_block]; exact Nat.ne_of_lt (Nat.lt_of_lt_of_le (by have := World.block_lt_of_cell? _ _ hw209_3; first | rwa [add_block] at this | exact this) GW215.out)) | (show (Addr.add _ _).block ≠ _; rw [add_block]; exact Nat.ne_of_lt (Nat.lt_of_lt_of_le (by have := World.block_lt_of_cell? _ _ hw209_3; first | rwa [add_block] at this | exact this) GW215.out)) | (dsimp only; exact Nat.ne_of_lt (Nat.lt_of_lt_of_le (by have := World.block_lt_of_cell? _ _ hw209_3; first | rwa [add_block] at this | exact this) GW215.out))) _).trans (((cell_far (p := ⟨gb215, _, none⟩) (by first | exact Nat.ne_of_lt (Nat.lt_of_lt_of_le (by have := World.block_lt_of_cell? _ _ hw209_3; first | rwa [add_block] at this | exact this) GW215.out) | (rw [add_block]; exact Nat.ne_of_lt (Nat.lt_of_lt_of_le (by have := World.block_lt_of_cell? _ _ hw209_3; first | rwa [add_block] at this | exact this) GW215.out)) | (show (Addr.add _ _).block ≠ _; rw [add_block]; exact Nat.ne_of_lt (Nat.lt_of_lt_of_le (by have := World.block_lt_of_cell? _ _ hw209_3; first | rwa [add_block] at this | exact this) GW215.out)) | (dsimp only; exact Nat.ne_of_lt (Nat.lt_of_lt_of_le (by have := World.block_lt_of_cell? _ _ hw209_3; first | rwa [add_block] at this | exact this) GW215.out))) _).trans (hHeld.2.2.2.1)))))))))))), ((cell_far (p := ⟨gb215, _, none⟩) (by first | exact Nat.ne_of_lt (Nat.lt_of_lt_of_le (by have := World.block_lt_of_cell? _ _ hw210_0; first | rwa [add_block] at this | exact this) GW215.out) | (rw [add_block]; exact Nat.ne_of_lt (Nat.lt_of_lt_of_le (by have := World.block_lt_of_cell? _ _ hw210_0; first | rwa [add_block] at this | exact this) GW215.out)) | (show (Addr.add _ _).block ≠ _; rw [add_block]; exact Nat.ne_of_lt (Nat.lt_of_lt_of_le (by have := World.block_lt_of_cell? _ _ hw210_0; first | rwa [add_block] at this | exact this) GW215.out)) | (dsimp only; exact Nat.ne_of_lt (Nat.lt_of_lt_of_le (by have := World.block_lt_of_cell? _ _ hw210_0; first | rwa [add_block] at this | exact this) GW215.out))) _).trans (((cell_far (p := ⟨gb215, _, none⟩) (by first | exact Nat.ne_of_lt (Nat.lt_of_lt_of_le (by have := World.block_lt_of_cell? _ _ hw210_0; first | rwa [add_block] at this | exact this) GW215.out) | (rw [add_block]; exact Nat.ne_of_lt (Nat.lt_of_lt_of_le (by have := World.block_lt_of_cell? _ _ hw210_0; first | rwa [add_block] at this | exact this) GW215.out)) | (show (Addr.add _ _).block ≠ _; rw [add_block]; exact Nat.ne_of_lt (Nat.lt_of_lt_of_le (by have := World.block_lt_of_cell? _ _ hw210_0; first | rwa [add_block] at this | exact this) GW215.out)) | (dsimp only; exact Nat.ne_of_lt (Nat.lt_of_lt_of_le (by have := World.block_lt_of_cell? _ _ hw210_0; first | rwa [add_block] at this | exact this) GW215.out))) _).trans (((cell_far (p := ⟨gb215, _, none⟩) (by first | exact Nat.ne_of_lt (Nat.lt_of_lt_of_le (by have := World.block_lt_of_cell? _ _ hw210_0; first | rwa [add_block] at this | exact this) GW215.out) | (rw [add_block]; exact Nat.ne_of_lt (Nat.lt_of_lt_of_le (by have := World.block_lt_of_cell? _ _ hw210_0; first | rwa [add_block] at this | exact this) GW215.out)) | (show (Addr.add _ _).block ≠ _; rw [add_block]; exact Nat.ne_of_lt (Nat.lt_of_lt_of_le (by have := World.block_lt_of_cell? _ _ hw210_0; first | rwa [add_block] at this | exact this) GW215.out)) | (dsimp only; exact Nat.ne_of_lt (Nat.lt_of_lt_of_le (by have := World.block_lt_of_cell? _ _ hw210_0; first | rwa [add_block] at this | exact this) GW215.out))) _).trans (((cell_far (p := ⟨gb215, _, none⟩) (by first | exact Nat.ne_of_lt (Nat.lt_of_lt_of_le (by have := World.block_lt_of_cell? _ _ hw210_0; first | rwa [add_block] at this | exact this) GW215.out) | (rw [add_block]; exact Nat.ne_of_lt (Nat.lt_of_lt_of_le (by have := World.block_lt_of_cell? _ _ hw210_0; first | rwa [add_block] at this | exact this) GW215.out)) | (show (Addr.add _ _).block ≠ _; rw [add_block]; exact Nat.ne_of_lt (Nat.lt_of_lt_of_le (by have := World.block_lt_of_cell? _ _ hw210_0; first | rwa [add_block] at this | exact this) GW215.out)) | (dsimp only; exact Nat.ne_of_lt (Nat.lt_of_lt_of_le (by have := World.block_lt_of_cell? _ _ hw210_0; first | rwa [add_block] at this | exact this) GW215.out))) _).trans (((cell_far (p := ⟨gb215, _, none⟩) (by first | exact Nat.ne_of_lt (Nat.lt_of_lt_of_le (by have := World.block_lt_of_cell? _ _ hw210_0; first | rwa [add_block] at this | exact this) GW215.out) | (rw [add_block]; exact Nat.ne_of_lt (Nat.lt_of_lt_of_le (by have := World.block_lt_of_cell? _ _ hw210_0; first | rwa [add_block] at this | exact this) GW215.out)) | (show (Addr.add _ _).block ≠ _; rw [add_block]; exact Nat.ne_of_lt (Nat.lt_of_lt_of_le (by have := World.block_lt_of_cell? _ _ hw210_0; first | rwa [add_block] at this | exact this) GW215.out)) | (dsimp only; exact Nat.ne_of_lt (Nat.lt_of_lt_of_le (by have := World.block_lt_of_cell? _ _ hw210_0; first | rwa [add_block] at this | exact this) GW215.out))) _).trans (((cell_far (p := ⟨gb215, _, none⟩) (by first | exact Nat.ne_of_lt (Nat.lt_of_lt_of_le (by have := World.block_lt_of_cell? _ _ hw210_0; first | rwa [add_block] at this | exact this) GW215.out) | (rw [add_block]; exact Nat.ne_of_lt (Nat.lt_of_lt_of_le (by have := World.block_lt_of_cell? _ _ hw210_0; first | rwa [add_block] at this | exact this) GW215.out)) | (show (Addr.add _ _).block ≠ _; rw [add_block]; exact Nat.ne_of_lt (Nat.lt_of_lt_of_le (by have := World.block_lt_of_cell? _ _ hw210_0; first | rwa [add_block] at this | exact this) GW215.out)) | (dsimp only; exact Nat.ne_of_lt (Nat.lt_of_lt_of_le (by have := World.block_lt_of_cell? _ _ hw210_0; first | rwa [add_block] at this | exact this) GW215.out))) _).trans (hHeld.2.2.2.2.1)))))))))))), ((cell_far (p := ⟨gb215, _, none⟩) (by first | exact Nat.ne_of_lt (Nat.lt_of_lt_of_le (by have := World.block_lt_of_cell? _ _ hw210_1; first | rwa [add_block] at this | exact this) GW215.out) | (rw [add_block]; exact Nat.ne_of_lt (Nat.lt_of_lt_of_le (by have := World.block_lt_of_cell? _ _ hw210_1; first | rwa [add_block] at this | exact this) GW215.out)) | (show (Addr.add _ _).block ≠ _; rw [add_block]; exact Nat.ne_of_lt (Nat.lt_of_lt_of_le (by have := World.block_lt_of_cell? _ _ hw210_1; first | rwa [add_block] at this | exact this) GW215.out)) | (dsimp only; exact Nat.ne_of_lt (Nat.lt_of_lt_of_le (by have := World.block_lt_of_cell? _ _ hw210_1; first | rwa [add_block] at this | exact this) GW215.out))) _).trans (((cell_far (p := ⟨gb215, _, none⟩) (by first | exact Nat.ne_of_lt (Nat.lt_of_lt_of_le (by have := World.block_lt_of_cell? _ _ hw210_1; first | rwa [add_block] at this | exact this) GW215.out) | (rw [add_block]; exact Nat.ne_of_lt (Nat.lt_of_lt_of_le (by have := World.block_lt_of_cell? _ _ hw210_1; first | rwa [add_block] at this | exact this) GW215.out)) | (show (Addr.add _ _).block ≠ _; rw [add_block]; exact Nat.ne_of_lt (Nat.lt_of_lt_of_le (by have := World.block_lt_of_cell? _ _ hw210_1; first | rwa [add_block] at this | exact this) GW215.out)) | (dsimp only; exact Nat.ne_of_lt (Nat.lt_of_lt_of_le (by have := World.block_lt_of_cell? _ _ hw210_1; first | rwa [add_block] at this | exact this) GW215.out))) _).trans (((cell_far (p := ⟨gb215, _, none⟩) (by first | exact Nat.ne_of_lt (Nat.lt_of_lt_of_le (by have := World.block_lt_of_cell? _ _ hw210_1; first | rwa [add_block] at this | exact this) GW215.out) | (rw [add_block]; exact Nat.ne_of_lt (Nat.lt_of_lt_of_le (by have := World.block_lt_of_cell? _ _ hw210_1; first | rwa [add_block] at this | exact this) GW215.out)) | (show (Addr.add _ _).block ≠ _; rw [add_block]; exact Nat.ne_of_lt (Nat.lt_of_lt_of_le (by have := World.block_lt_of_cell? _ _ hw210_1; first | rwa [add_block] at this | exact this) GW215.out)) | (dsimp only; exact Nat.ne_of_lt (Nat.lt_of_lt_of_le (by have := World.block_lt_of_cell? _ _ hw210_1; first | rwa [add_block] at this | exact this) GW215.out))) _).trans (((cell_far (p := ⟨gb215, _, none⟩) (by first | exact Nat.ne_of_lt (Nat.lt_of_lt_of_le (by have := World.block_lt_of_cell? _ _ hw210_1; first | rwa [add_block] at this | exact this) GW215.out) | (rw [add_block]; exact Nat.ne_of_lt (Nat.lt_of_lt_of_le (by have := World.block_lt_of_cell? _ _ hw210_1; first | rwa [add_block] at this | exact this) GW215.out)) | (show (Addr.add _ _).block ≠ _; rw [add_block]; exact Nat.ne_of_lt (Nat.lt_of_lt_of_le (by have := World.block_lt_of_cell? _ _ hw210_1; first | rwa [add_block] at this | exact this) GW215.out)) | (dsimp only; exact Nat.ne_of_lt (Nat.lt_of_lt_of_le (by have := World.block_lt_of_cell? _ _ hw210_1; first | rwa [add_block] at this | exact this) GW215.out))) _).trans (((cell_far (p := ⟨gb215, _, none⟩) (by first | exact Nat.ne_of_lt (Nat.lt_of_lt_of_le (by have := World.block_lt_of_cell? _ _ hw210_1; first | rwa [add_block] at this | exact this) GW215.out) | (rw [add_block]; exact Nat.ne_of_lt (Nat.lt_of_lt_of_le (by have := World.block_lt_of_cell? _ _ hw210_1; first | rwa [add_block] at this | exact this) GW215.out)) | (show (Addr.add _ _).block ≠ _; rw [add_block]; exact Nat.ne_of_lt (Nat.lt_of_lt_of_le (by have := World.block_lt_of_cell? _ _ hw210_1; first | rwa [add_block] at this | exact this) GW215.out)) | (dsimp only; exact Nat.ne_of_lt (Nat.lt_of_lt_of_le (by have := World.block_lt_of_cell? _ _ hw210_1; first | rwa [add_block] at this | exact this) GW215.out))) _).trans (((cell_far (p := ⟨gb215, _, none⟩) (by first | exact Nat.ne_of_lt (Nat.lt_of_lt_of_le (by have := World.block_lt_of_cell? _ _ hw210_1; first | rwa [add_block] at this | exact this) GW215.out) | (rw [add_block]; exact Nat.ne_of_lt (Nat.lt_of_lt_of_le (by have := World.block_lt_of_cell? _ _ hw210_1; first | rwa [add_block] at this | exact this) GW215.out)) | (show (Addr.add _ _).block ≠ _; rw [add_block]; exact Nat.ne_of_lt (Nat.lt_of_lt_of_le (by have := World.block_lt_of_cell? _ _ hw210_1; first | rwa [add_block] at this | exact this) GW215.out)) | (dsimp only; exact Nat.ne_of_lt (Nat.lt_of_lt_of_le (by have := World.block_lt_of_cell? _ _ hw210_1; first | rwa [add_block] at this | exact this) GW215.out))) _).trans (hHeld.2.2.2.2.2.1)))))))))))), ((cell_far (p := ⟨gb215, _, none⟩) (by first | exact Nat.ne_of_lt (Nat.lt_of_lt_of_le (by have := World.block_lt_of_cell? _ _ hw210_2; first | rwa [add_block] at this | exact this) GW215.out) | (rw [add_block]; exact Nat.ne_of_lt (Nat.lt_of_lt_of_le (by have := World.block_lt_of_cell? _ _ hw210_2; first | rwa [add_block] at this | exact this) GW215.out)) | (show (Addr.add _ _).block ≠ _; rw [add_block]; exact Nat.ne_of_lt (Nat.lt_of_lt_of_le (by have := World.block_lt_of_cell? _ _ hw210_2; first | rwa [add_block] at this | exact this) GW215.out)) | (dsimp only; exact Nat.ne_of_lt (Nat.lt_of_lt_of_le (by have := World.block_lt_of_cell? _ _ hw210_2; first | rwa [add_block] at this | exact this) GW215.out))) _).trans (((cell_far (p := ⟨gb215, _, none⟩) (by first | exact Nat.ne_of_lt (Nat.lt_of_lt_of_le (by have := World.block_lt_of_cell? _ _ hw210_2; first | rwa [add_block] at this | exact this) GW215.out) | (rw [add_block]; exact Nat.ne_of_lt (Nat.lt_of_lt_of_le (by have := World.block_lt_of_cell? _ _ hw210_2; first | rwa [add_block] at this | exact this) GW215.out)) | (show (Addr.add _ _).block ≠ _; rw [add_block]; exact Nat.ne_of_lt (Nat.lt_of_lt_of_le (by have := World.block_lt_of_cell? _ _ hw210_2; first | rwa [add_block] at this | exact this) GW215.out)) | (dsimp only; exact Nat.ne_of_lt (Nat.lt_of_lt_of_le (by have := World.block_lt_of_cell? _ _ hw210_2; first | rwa [add_block] at this | exact this) GW215.out))) _).trans (((cell_far (p := ⟨gb215, _, none⟩) (by first | exact Nat.ne_of_lt (Nat.lt_of_lt_of_le (by have := World.block_lt_of_cell? _ _ hw210_2; first | rwa [add_block] at this | exact this) GW215.out) | (rw [add_block]; exact Nat.ne_of_lt (Nat.lt_of_lt_of_le (by have := World.block_lt_of_cell? _ _ hw210_2; first | rwa [add_block] at this | exact this) GW215.out)) | (show (Addr.add _ _).block ≠ _; rw [add_block]; exact Nat.ne_of_lt (Nat.lt_of_lt_of_le (by have := World.block_lt_of_cell? _ _ hw210_2; first | rwa [add_block] at this | exact this) GW215.out)) | (dsimp only; exact Nat.ne_of_lt (Nat.lt_of_lt_of_le (by have := World.block_lt_of_cell? _ _ hw210_2; first | rwa [add_block] at this | exact this) GW215.out))) _).trans (((cell_far (p := ⟨gb215, _, none⟩) (by first | exact Nat.ne_of_lt (Nat.lt_of_lt_of_le (by have := World.block_lt_of_cell? _ _ hw210_2; first | rwa [add_block] at this | exact this) GW215.out) | (rw [add_block]; exact Nat.ne_of_lt (Nat.lt_of_lt_of_le (by have := World.block_lt_of_cell? _ _ hw210_2; first | rwa [add_block] at this | exact this) GW215.out)) | (show (Addr.add _ _).block ≠ _; rw [add_block]; exact Nat.ne_of_lt (Nat.lt_of_lt_of_le (by have := World.block_lt_of_cell? _ _ hw210_2; first | rwa [add_block] at this | exact this) GW215.out)) | (dsimp only; exact Nat.ne_of_lt (Nat.lt_of_lt_of_le (by have := World.block_lt_of_cell? _ _ hw210_2; first | rwa [add_block] at this | exact this) GW215.out))) _).trans (((cell_far (p := ⟨gb215, _, none⟩) (by first | exact Nat.ne_of_lt (Nat.lt_of_lt_of_le (by have := World.block_lt_of_cell? _ _ hw210_2; first | rwa [add_block] at this | exact this) GW215.out) | (rw [add_block]; exact Nat.ne_of_lt (Nat.lt_of_lt_of_le (by have := World.block_lt_of_cell? _ _ hw210_2; first | rwa [add_block] at this | exact this) GW215.out)) | (show (Addr.add _ _).block ≠ _; rw [add_block]; exact Nat.ne_of_lt (Nat.lt_of_lt_of_le (by have := World.block_lt_of_cell? _ _ hw210_2; first | rwa [add_block] at this | exact this) GW215.out)) | (dsimp only; exact Nat.ne_of_lt (Nat.lt_of_lt_of_le (by have := World.block_lt_of_cell? _ _ hw210_2; first | rwa [add_block] at this | exact this) GW215.out))) _).trans (((cell_far (p := ⟨gb215, _, none⟩) (by first | exact Nat.ne_of_lt (Nat.lt_of_lt_of_le (by have := World.block_lt_of_cell? _ _ hw210_2; first | rwa [add_block] at this | exact this) GW215.out) | (rw [add_block]; exact Nat.ne_of_lt (Nat.lt_of_lt_of_le (by have := World.block_lt_of_cell? _ _ hw210_2; first | rwa [add_block] at this | exact this) GW215.out)) | (show (Addr.add _ _).block ≠ _; rw [add_block]; exact Nat.ne_of_lt (Nat.lt_of_lt_of_le (by have := World.block_lt_of_cell? _ _ hw210_2; first | rwa [add_block] at this | exact this) GW215.out)) | (dsimp only; exact Nat.ne_of_lt (Nat.lt_of_lt_of_le (by have := World.block_lt_of_cell? _ _ hw210_2; first | rwa [add_block] at this | exact this) GW215.out))) _).trans (hHeld.2.2.2.2.2.2.1)))))))))))), ((cell_far (p := ⟨gb215, _, none⟩) (by first | exact Nat.ne_of_lt (Nat.lt_of_lt_of_le (by have := World.block_lt_of_cell? _ _ hw210_3; first | rwa [add_block] at this | exact this) GW215.out) | (rw [add_block]; exact Nat.ne_of_lt (Nat.lt_of_lt_of_le (by have := World.block_lt_of_cell? _ _ hw210_3; first | rwa [add_block] at this | exact this) GW215.out)) | (show (Addr.add _ _).block ≠ _; rw [add_block]; exact Nat.ne_of_lt (Nat.lt_of_lt_of_le (by have := World.block_lt_of_cell? _ _ hw210_3; first | rwa [add_block] at this | exact this) GW215.out)) | (dsimp only; exact Nat.ne_of_lt (Nat.lt_of_lt_of_le (by have := World.block_lt_of_cell? _ _ hw210_3; first | rwa [add_block] at this | exact this) GW215.out))) _).trans (((cell_far (p := ⟨gb215, _, none⟩) (by first | exact Nat.ne_of_lt (Nat.lt_of_lt_of_le (by have := World.block_lt_of_cell? _ _ hw210_3; first | rwa [add_block] at this | exact this) GW215.out) | (rw [add_block]; exact Nat.ne_of_lt (Nat.lt_of_lt_of_le (by have := World.block_lt_of_cell? _ _ hw210_3; first | rwa [add_block] at this | exact this) GW215.out)) | (show (Addr.add _ _).block ≠ _; rw [add_block]; exact Nat.ne_of_lt (Nat.lt_of_lt_of_le (by have := World.block_lt_of_cell? _ _ hw210_3; first | rwa [add_block] at this | exact this) GW215.out)) | (dsimp only; exact Nat.ne_of_lt (Nat.lt_of_lt_of_le (by have := World.block_lt_of_cell? _ _ hw210_3; first | rwa [add_block] at this | exact this) GW215.out))) _).trans (((cell_far (p := ⟨gb215, _, none⟩) (by first | exact Nat.ne_of_lt (Nat.lt_of_lt_of_le (by have := World.block_lt_of_cell? _ _ hw210_3; first | rwa [add_block] at this | exact this) GW215.out) | (rw [add_block]; exact Nat.ne_of_lt (Nat.lt_of_lt_of_le (by have := World.block_lt_of_cell? _ _ hw210_3; first | rwa [add_block] at this | exact this) GW215.out)) | (show (Addr.add _ _).block ≠ _; rw [add_block]; exact Nat.ne_of_lt (Nat.lt_of_lt_of_le (by have := World.block_lt_of_cell? _ _ hw210_3; first | rwa [add_block] at this | exact this) GW215.out)) | (dsimp only; exact Nat.ne_of_lt (Nat.lt_of_lt_of_le (by have := World.block_lt_of_cell? _ _ hw210_3; first | rwa [add_block] at this | exact this) GW215.out))) _).trans (((cell_far (p := ⟨gb215, _, none⟩) (by first | exact Nat.ne_of_lt (Nat.lt_of_lt_of_le (by have := World.block_lt_of_cell? _ _ hw210_3; first | rwa [add_block] at this | exact this) GW215.out) | (rw [add_block]; exact Nat.ne_of_lt (Nat.lt_of_lt_of_le (by have := World.block_lt_of_cell? _ _ hw210_3; first | rwa [add_block] at this | exact this) GW215.out)) | (show (Addr.add _ _).block ≠ _; rw [add_block]; exact Nat.ne_of_lt (Nat.lt_of_lt_of_le (by have := World.block_lt_of_cell? _ _ hw210_3; first | rwa [add_block] at this | exact this) GW215.out)) | (dsimp only; exact Nat.ne_of_lt (Nat.lt_of_lt_of_le (by have := World.block_lt_of_cell? _ _ hw210_3; first | rwa [add_block] at this | exact this) GW215.out))) _).trans (((cell_far (p := ⟨gb215, _, none⟩) (by first | exact Nat.ne_of_lt (Nat.lt_of_lt_of_le (by have := World.block_lt_of_cell? _ _ hw210_3; first | rwa [add_block] at this | exact this) GW215.out) | (rw [add_block]; exact Nat.ne_of_lt (Nat.lt_of_lt_of_le (by have := World.block_lt_of_cell? _ _ hw210_3; first | rwa [add_block] at this | exact this) GW215.out)) | (show (Addr.add _ _).block ≠ _; rw [add_block]; exact Nat.ne_of_lt (Nat.lt_of_lt_of_le (by have := World.block_lt_of_cell? _ _ hw210_3; first | rwa [add_block] at this | exact this) GW215.out)) | (dsimp only; exact Nat.ne_of_lt (Nat.lt_of_lt_of_le (by have := World.block_lt_of_cell? _ _ hw210_3; first | rwa [add_block] at this | exact this) GW215.out))) _).trans (((cell_far (p := ⟨gb215, _, none⟩) (by first | exact Nat.ne_of_lt (Nat.lt_of_lt_of_le (by have := World.block_lt_of_cell? _ _ hw210_3; first | rwa [add_block] at this | exact this) GW215.out) | (rw [add_block]; exact Nat.ne_of_lt (Nat.lt_of_lt_of_le (by have := World.block_lt_of_cell? _ _ hw210_3; first | rwa [add_block] at this | exact this) GW215.out)) | (show (Addr.add _ _).block ≠ _; rw [add_block]; exact Nat.ne_of_lt (Nat.lt_of_lt_of_le (by have := World.block_lt_of_cell? _ _ hw210_3; first | rwa [add_block] at this | exact this) GW215.out)) | (dsimp only; exact Nat.ne_of_lt (Nat.lt_of_lt_of_le (by have := World.block_lt_of_cell? _ _ hw210_3; first | rwa [add_block] at this | exact this) GW215.out))) _).trans (hHeld.2.2.2.2.2.2.2.1)))))))))))), ((cell_far (p := ⟨gb215, _, none⟩) (by first | exact Nat.ne_of_lt (Nat.lt_of_lt_of_le (by have := World.block_lt_of_cell? _ _ hw211_0; first | rwa [add_block] at this | exact this) GW215.out) | (rw [add_block]; exact Nat.ne_of_lt (Nat.lt_of_lt_of_le (by have := World.block_lt_of_cell? _ _ hw211_0; first | rwa [add_block] at this | exact this) GW215.out)) | (show (Addr.add _ _).block ≠ _; rw [add_block]; exact Nat.ne_of_lt (Nat.lt_of_lt_of_le (by have := World.block_lt_of_cell? _ _ hw211_0; first | rwa [add_block] at this | exact this) GW215.out)) | (dsimp only; exact Nat.ne_of_lt (Nat.lt_of_lt_of_le (by have := World.block_lt_of_cell? _ _ hw211_0; first | rwa [add_block] at this | exact this) GW215.out))) _).trans (((cell_far (p := ⟨gb215, _, none⟩) (by first | exact Nat.ne_of_lt (Nat.lt_of_lt_of_le (by have := World.block_lt_of_cell? _ _ hw211_0; first | rwa [add_block] at this | exact this) GW215.out) | (rw [add_block]; exact Nat.ne_of_lt (Nat.lt_of_lt_of_le (by have := World.block_lt_of_cell? _ _ hw211_0; first | rwa [add_block] at this | exact this) GW215.out)) | (show (Addr.add _ _).block ≠ _; rw [add_block]; exact Nat.ne_of_lt (Nat.lt_of_lt_of_le (by have := World.block_lt_of_cell? _ _ hw211_0; first | rwa [add_block] at this | exact this) GW215.out)) | (dsimp only; exact Nat.ne_of_lt (Nat.lt_of_lt_of_le (by have := World.block_lt_of_cell? _ _ hw211_0; first | rwa [add_block] at this | exact this) GW215.out))) _).trans (((cell_far (p := ⟨gb215, _, none⟩) (by first | exact Nat.ne_of_lt (Nat.lt_of_lt_of_le (by have := World.block_lt_of_cell? _ _ hw211_0; first | rwa [add_block] at this | exact this) GW215.out) | (rw [add_block]; exact Nat.ne_of_lt (Nat.lt_of_lt_of_le (by have := World.block_lt_of_cell? _ _ hw211_0; first | rwa [add_block] at this | exact this) GW215.out)) | (show (Addr.add _ _).block ≠ _; rw [add_block]; exact Nat.ne_of_lt (Nat.lt_of_lt_of_le (by have := World.block_lt_of_cell? _ _ hw211_0; first | rwa [add_block] at this | exact this) GW215.out)) | (dsimp only; exact Nat.ne_of_lt (Nat.lt_of_lt_of_le (by have := World.block_lt_of_cell? _ _ hw211_0; first | rwa [add_block] at this | exact this) GW215.out))) _).trans (((cell_far (p := ⟨gb215, _, none⟩) (by first | exact Nat.ne_of_lt (Nat.lt_of_lt_of_le (by have := World.block_lt_of_cell? _ _ hw211_0; first | rwa [add_block] at this | exact this) GW215.out) | (rw [add_block]; exact Nat.ne_of_lt (Nat.lt_of_lt_of_le (by have := World.block_lt_of_cell? _ _ hw211_0; first | rwa [add_block] at this | exact this) GW215.out)) | (show (Addr.add _ _).block ≠ _; rw [add_block]; exact Nat.ne_of_lt (Nat.lt_of_lt_of_le (by have := World.block_lt_of_cell? _ _ hw211_0; first | rwa [add_block] at this | exact this) GW215.out)) | (dsimp only; exact Nat.ne_of_lt (Nat.lt_of_lt_of_le (by have := World.block_lt_of_cell? _ _ hw211_0; first | rwa [add_block] at this | exact this) GW215.out))) _).trans (((cell_far (p := ⟨gb215, _, none⟩) (by first | exact Nat.ne_of_lt (Nat.lt_of_lt_of_le (by have := World.block_lt_of_cell? _ _ hw211_0; first | rwa [add_block] at this | exact this) GW215.out) | (rw [add_block]; exact Nat.ne_of_lt (Nat.lt_of_lt_of_le (by have := World.block_lt_of_cell? _ _ hw211_0; first | rwa [add_block] at this | exact this) GW215.out)) | (show (Addr.add _ _).block ≠ _; rw [add_block]; exact Nat.ne_of_lt (Nat.lt_of_lt_of_le (by have := World.block_lt_of_cell? _ _ hw211_0; first | rwa [add_block] at this | exact this) GW215.out)) | (dsimp only; exact Nat.ne_of_lt (Nat.lt_of_lt_of_le (by have := World.block_lt_of_cell? _ _ hw211_0; first | rwa [add_block] at this | exact this) GW215.out))) _).trans (((cell_far (p := ⟨gb215, _, none⟩) (by first | exact Nat.ne_of_lt (Nat.lt_of_lt_of_le (by have := World.block_lt_of_cell? _ _ hw211_0; first | rwa [add_block] at this | exact this) GW215.out) | (rw [add_block]; exact Nat.ne_of_lt (Nat.lt_of_lt_of_le (by have := World.block_lt_of_cell? _ _ hw211_0; first | rwa [add_block] at this | exact this) GW215.out)) | (show (Addr.add _ _).block ≠ _; rw [add_block]; exact Nat.ne_of_lt (Nat.lt_of_lt_of_le (by have := World.block_lt_of_cell? _ _ hw211_0; first | rwa [add_block] at this | exact this) GW215.out)) | (dsimp only; exact Nat.ne_of_lt (Nat.lt_of_lt_of_le (by have := World.block_lt_of_cell? _ _ hw211_0; first | rwa [add_block] at this | exact this) GW215.out))) _).trans (hHeld.2.2.2.2.2.2.2.2.1)))))))))))), ((cell_far (p := ⟨gb215, _, none⟩) (by first | exact Nat.ne_of_lt (Nat.lt_of_lt_of_le (by have := World.block_lt_of_cell? _ _ hw211_1; first | rwa [add_block] at this | exact this) GW215.out) | (rw [add_block]; exact Nat.ne_of_lt (Nat.lt_of_lt_of_le (by have := World.block_lt_of_cell? _ _ hw211_1; first | rwa [add_block] at this | exact this) GW215.out)) | (show (Addr.add _ _).block ≠ _; rw [add_block]; exact Nat.ne_of_lt (Nat.lt_of_lt_of_le (by have := World.block_lt_of_cell? _ _ hw211_1; first | rwa [add_block] at this | exact this) GW215.out)) | (dsimp only; exact Nat.ne_of_lt (Nat.lt_of_lt_of_le (by have := World.block_lt_of_cell? _ _ hw211_1; first | rwa [add_block] at this | exact this) GW215.out))) _).trans (((cell_far (p := ⟨gb215, _, none⟩) (by first | exact Nat.ne_of_lt (Nat.lt_of_lt_of_le (by have := World.block_lt_of_cell? _ _ hw211_1; first | rwa [add_block] at this | exact this) GW215.out) | (rw [add_block]; exact Nat.ne_of_lt (Nat.lt_of_lt_of_le (by have := World.block_lt_of_cell? _ _ hw211_1; first | rwa [add_block] at this | exact this) GW215.out)) | (show (Addr.add _ _).block ≠ _; rw [add_block]; exact Nat.ne_of_lt (Nat.lt_of_lt_of_le (by have := World.block_lt_of_cell? _ _ hw211_1; first | rwa [add_block] at this | exact this) GW215.out)) | (dsimp only; exact Nat.ne_of_lt (Nat.lt_of_lt_of_le (by have := World.block_lt_of_cell? _ _ hw211_1; first | rwa [add_block] at this | exact this) GW215.out))) _).trans (((cell_far (p := ⟨gb215, _, none⟩) (by first | exact Nat.ne_of_lt (Nat.lt_of_lt_of_le (by have := World.block_lt_of_cell? _ _ hw211_1; first | rwa [add_block] at this | exact this) GW215.out) | (rw [add_block]; exact Nat.ne_of_lt (Nat.lt_of_lt_of_le (by have := World.block_lt_of_cell? _ _ hw211_1; first | rwa [add_block] at this | exact this) GW215.out)) | (show (Addr.add _ _).block ≠ _; rw [add_block]; exact Nat.ne_of_lt (Nat.lt_of_lt_of_le (by have := World.block_lt_of_cell? _ _ hw211_1; first | rwa [add_block] at this | exact this) GW215.out)) | (dsimp only; exact Nat.ne_of_lt (Nat.lt_of_lt_of_le (by have := World.block_lt_of_cell? _ _ hw211_1; first | rwa [add_block] at this | exact this) GW215.out))) _).trans (((cell_far (p := ⟨gb215, _, none⟩) (by first | exact Nat.ne_of_lt (Nat.lt_of_lt_of_le (by have := World.block_lt_of_cell? _ _ hw211_1; first | rwa [add_block] at this | exact this) GW215.out) | (rw [add_block]; exact Nat.ne_of_lt (Nat.lt_of_lt_of_le (by have := World.block_lt_of_cell? _ _ hw211_1; first | rwa [add_block] at this | exact this) GW215.out)) | (show (Addr.add _ _).block ≠ _; rw [add_block]; exact Nat.ne_of_lt (Nat.lt_of_lt_of_le (by have := World.block_lt_of_cell? _ _ hw211_1; first | rwa [add_block] at this | exact this) GW215.out)) | (dsimp only; exact Nat.ne_of_lt (Nat.lt_of_lt_of_le (by have := World.block_lt_of_cell? _ _ hw211_1; first | rwa [add_block] at this | exact this) GW215.out))) _).trans (((cell_far (p := ⟨gb215, _, none⟩) (by first | exact Nat.ne_of_lt (Nat.lt_of_lt_of_le (by have := World.block_lt_of_cell? _ _ hw211_1; first | rwa [add_block] at this | exact this) GW215.out) | (rw [add_block]; exact Nat.ne_of_lt (Nat.lt_of_lt_of_le (by have := World.block_lt_of_cell? _ _ hw211_1; first | rwa [add_block] at this | exact this) GW215.out)) | (show (Addr.add _ _).block ≠ _; rw [add_block]; exact Nat.ne_of_lt (Nat.lt_of_lt_of_le (by have := World.block_lt_of_cell? _ _ hw211_1; first | rwa [add_block] at this | exact this) GW215.out)) | (dsimp only; exact Nat.ne_of_lt (Nat.lt_of_lt_of_le (by have := World.block_lt_of_cell? _ _ hw211_1; first | rwa [add_block] at this | exact this) GW215.out))) _).trans (((cell_far (p := ⟨gb215, _, none⟩) (by first | exact Nat.ne_of_lt (Nat.lt_of_lt_of_le (by have := World.block_lt_of_cell? _ _ hw211_1; first | rwa [add_block] at this | exact this) GW215.out) | (rw [add_block]; exact Nat.ne_of_lt (Nat.lt_of_lt_of_le (by have := World.block_lt_of_cell? _ _ hw211_1; first | rwa [add_block] at this | exact this) GW215.out)) | (show (Addr.add _ _).block ≠ _; rw [add_block]; exact Nat.ne_of_lt (Nat.lt_of_lt_of_le (by have := World.block_lt_of_cell? _ _ hw211_1; first | rwa [add_block] at this | exact this) GW215.out)) | (dsimp only; exact Nat.ne_of_lt (Nat.lt_of_lt_of_le (by have := World.block_lt_of_cell? _ _ hw211_1; first | rwa [add_block] at this | exact this) GW215.out))) _).trans (hHeld.2.2.2.2.2.2.2.2.2.1)))))))))))), ((cell_far (p := ⟨gb215, _, none⟩) (by first | exact Nat.ne_of_lt (Nat.lt_of_lt_of_le (by have := World.block_lt_of_cell? _ _ hw211_2; first | rwa [add_block] at this | exact this) GW215.out) | (rw [add_block]; exact Nat.ne_of_lt (Nat.lt_of_lt_of_le (by have := World.block_lt_of_cell? _ _ hw211_2; first | rwa [add_block] at this | exact this) GW215.out)) | (show (Addr.add _ _).block ≠ _; rw [add_block]; exact Nat.ne_of_lt (Nat.lt_of_lt_of_le (by have := World.block_lt_of_cell? _ _ hw211_2; first | rwa [add_block] at this | exact this) GW215.out)) | (dsimp only; exact Nat.ne_of_lt (Nat.lt_of_lt_of_le (by have := World.block_lt_of_cell? _ _ hw211_2; first | rwa [add_block] at this | exact this) GW215.out))) _).trans (((cell_far (p := ⟨gb215, _, none⟩) (by first | exact Nat.ne_of_lt (Nat.lt_of_lt_of_le (by have := World.block_lt_of_cell? _ _ hw211_2; first | rwa [add_block] at this | exact this) GW215.out) | (rw [add_block]; exact Nat.ne_of_lt (Nat.lt_of_lt_of_le (by have := World.block_lt_of_cell? _ _ hw211_2; first | rwa [add_block] at this | exact this) GW215.out)) | (show (Addr.add _ _).block ≠ _; rw [add_block]; exact Nat.ne_of_lt (Nat.lt_of_lt_of_le (by have := World.block_lt_of_cell? _ _ hw211_2; first | rwa [add_block] at this | exact this) GW215.out)) | (dsimp only; exact Nat.ne_of_lt (Nat.lt_of_lt_of_le (by have := World.block_lt_of_cell? _ _ hw211_2; first | rwa [add_block] at this | exact this) GW215.out))) _).trans (((cell_far (p := ⟨gb215, _, none⟩) (by first | exact Nat.ne_of_lt (Nat.lt_of_lt_of_le (by have := World.block_lt_of_cell? _ _ hw211_2; first | rwa [add_block] at this | exact this) GW215.out) | (rw [add_block]; exact Nat.ne_of_lt (Nat.lt_of_lt_of_le (by have := World.block_lt_of_cell? _ _ hw211_2; first | rwa [add_block] at this | exact this) GW215.out)) | (show (Addr.add _ _).block ≠ _; rw [add_block]; exact Nat.ne_of_lt (Nat.lt_of_lt_of_le (by have := World.block_lt_of_cell? _ _ hw211_2; first | rwa [add_block] at this | exact this) GW215.out)) | (dsimp only; exact Nat.ne_of_lt (Nat.lt_of_lt_of_le (by have := World.block_lt_of_cell? _ _ hw211_2; first | rwa [add_block] at this | exact this) GW215.out))) _).trans (((cell_far (p := ⟨gb215, _, none⟩) (by first | exact Nat.ne_of_lt (Nat.lt_of_lt_of_le (by have := World.block_lt_of_cell? _ _ hw211_2; first | rwa [add_block] at this | exact this) GW215.out) | (rw [add_block]; exact Nat.ne_of_lt (Nat.lt_of_lt_of_le (by have := World.block_lt_of_cell? _ _ hw211_2; first | rwa [add_block] at this | exact this) GW215.out)) | (show (Addr.add _ _).block ≠ _; rw [add_block]; exact Nat.ne_of_lt (Nat.lt_of_lt_of_le (by have := World.block_lt_of_cell? _ _ hw211_2; first | rwa [add_block] at this | exact this) GW215.out)) | (dsimp only; exact Nat.ne_of_lt (Nat.lt_of_lt_of_le (by have := World.block_lt_of_cell? _ _ hw211_2; first | rwa [add_block] at this | exact this) GW215.out))) _).trans (((cell_far (p := ⟨gb215, _, none⟩) (by first | exact Nat.ne_of_lt (Nat.lt_of_lt_of_le (by have := World.block_lt_of_cell? _ _ hw211_2; first | rwa [add_block] at this | exact this) GW215.out) | (rw [add_block]; exact Nat.ne_of_lt (Nat.lt_of_lt_of_le (by have := World.block_lt_of_cell? _ _ hw211_2; first | rwa [add_block] at this | exact this) GW215.out)) | (show (Addr.add _ _).block ≠ _; rw [add_block]; exact Nat.ne_of_lt (Nat.lt_of_lt_of_le (by have := World.block_lt_of_cell? _ _ hw211_2; first | rwa [add_block] at this | exact this) GW215.out)) | (dsimp only; exact Nat.ne_of_lt (Nat.lt_of_lt_of_le (by have := World.block_lt_of_cell? _ _ hw211_2; first | rwa [add_block] at this | exact this) GW215.out))) _).trans (((cell_far (p := ⟨gb215, _, none⟩) (by first | exact Nat.ne_of_lt (Nat.lt_of_lt_of_le (by have := World.block_lt_of_cell? _ _ hw211_2; first | rwa [add_block] at this | exact this) GW215.out) | (rw [add_block]; exact Nat.ne_of_lt (Nat.lt_of_lt_of_le (by have := World.block_lt_of_cell? _ _ hw211_2; first | rwa [add_block] at this | exact this) GW215.out)) | (show (Addr.add _ _).block ≠ _; rw [add_block]; exact Nat.ne_of_lt (Nat.lt_of_lt_of_le (by have := World.block_lt_of_cell? _ _ hw211_2; first | rwa [add_block] at this | exact this) GW215.out)) | (dsimp only; exact Nat.ne_of_lt (Nat.lt_of_lt_of_le (by have := World.block_lt_of_cell? _ _ hw211_2; first | rwa [add_block] at this | exact this) GW215.out))) _).trans (hHeld.2.2.2.2.2.2.2.2.2.2.1)))))))))))), ((cell_far (p := ⟨gb215, _, none⟩) (by first | exact Nat.ne_of_lt (Nat.lt_of_lt_of_le (by have := World.block_lt_of_cell? _ _ hw211_3; first | rwa [add_block] at this | exact this) GW215.out) | (rw [add_block]; exact Nat.ne_of_lt (Nat.lt_of_lt_of_le (by have := World.block_lt_of_cell? _ _ hw211_3; first | rwa [add_block] at this | exact this) GW215.out)) | (show (Addr.add _ _).block ≠ _; rw [add_block]; exact Nat.ne_of_lt (Nat.lt_of_lt_of_le (by have := World.block_lt_of_cell? _ _ hw211_3; first | rwa [add_block] at this | exact this) GW215.out)) | (dsimp only; exact Nat.ne_of_lt (Nat.lt_of_lt_of_le (by have := World.block_lt_of_cell? _ _ hw211_3; first | rwa [add_block] at this | exact this) GW215.out))) _).trans (((cell_far (p := ⟨gb215, _, none⟩) (by first | exact Nat.ne_of_lt (Nat.lt_of_lt_of_le (by have := World.block_lt_of_cell? _ _ hw211_3; first | rwa [add_block] at this | exact this) GW215.out) | (rw [add_block]; exact Nat.ne_of_lt (Nat.lt_of_lt_of_le (by have := World.block_lt_of_cell? _ _ hw211_3; first | rwa [add_block] at this | exact this) GW215.out)) | (show (Addr.add _ _).block ≠ _; rw [add_block]; exact Nat.ne_of_lt (Nat.lt_of_lt_of_le (by have := World.block_lt_of_cell? _ _ hw211_3; first | rwa [add_block] at this | exact this) GW215.out)) | (dsimp only; exact Nat.ne_of_lt (Nat.lt_of_lt_of_le (by have := World.block_lt_of_cell? _ _ hw211_3; first | rwa [add_block] at this | exact this) GW215.out))) _).trans (((cell_far (p := ⟨gb215, _, none⟩) (by first | exact Nat.ne_of_lt (Nat.lt_of_lt_of_le (by have := World.block_lt_of_cell? _ _ hw211_3; first | rwa [add_block] at this | exact this) GW215.out) | (rw [add_block]; exact Nat.ne_of_lt (Nat.lt_of_lt_of_le (by have := World.block_lt_of_cell? _ _ hw211_3; first | rwa [add_block] at this | exact this) GW215.out)) | (show (Addr.add _ _).block ≠ _; rw [add_block]; exact Nat.ne_of_lt (Nat.lt_of_lt_of_le (by have := World.block_lt_of_cell? _ _ hw211_3; first | rwa [add_block] at this | exact this) GW215.out)) | (dsimp only; exact Nat.ne_of_lt (Nat.lt_of_lt_of_le (by have := World.block_lt_of_cell? _ _ hw211_3; first | rwa [add_block] at this | exact this) GW215.out))) _).trans (((cell_far (p := ⟨gb215, _, none⟩) (by first | exact Nat.ne_of_lt (Nat.lt_of_lt_of_le (by have := World.block_lt_of_cell? _ _ hw211_3; first | rwa [add_block] at this | exact this) GW215.out) | (rw [add_block]; exact Nat.ne_of_lt (Nat.lt_of_lt_of_le (by have := World.block_lt_of_cell? _ _ hw211_3; first | rwa [add_block] at this | exact this) GW215.out)) | (show (Addr.add _ _).block ≠ _; rw [add_block]; exact Nat.ne_of_lt (Nat.lt_of_lt_of_le (by have := World.block_lt_of_cell? _ _ hw211_3; first | rwa [add_block] at this | exact this) GW215.out)) | (dsimp only; exact Nat.ne_of_lt (Nat.lt_of_lt_of_le (by have := World.block_lt_of_cell? _ _ hw211_3; first | rwa [add_block] at this | exact this) GW215.out))) _).trans (((cell_far (p := ⟨gb215, _, none⟩) (by first | exact Nat.ne_of_lt (Nat.lt_of_lt_of_le (by have := World.block_lt_of_cell? _ _ hw211_3; first | rwa [add_block] at this | exact this) GW215.out) | (rw [add_block]; exact Nat.ne_of_lt (Nat.lt_of_lt_of_le (by have := World.block_lt_of_cell? _ _ hw211_3; first | rwa [add_block] at this | exact this) GW215.out)) | (show (Addr.add _ _).block ≠ _; rw [add_block]; exact Nat.ne_of_lt (Nat.lt_of_lt_of_le (by have := World.block_lt_of_cell? _ _ hw211_3; first | rwa [add_block] at this | exact this) GW215.out)) | (dsimp only; exact Nat.ne_of_lt (Nat.lt_of_lt_of_le (by have := World.block_lt_of_cell? _ _ hw211_3; first | rwa [add_block] at this | exact this) GW215.out))) _).trans (((cell_far (p := ⟨gb215, _, none⟩) (by first | exact Nat.ne_of_lt (Nat.lt_of_lt_of_le (by have := World.block_lt_of_cell? _ _ hw211_3; first | rwa [add_block] at this | exact this) GW215.out) | (rw [add_block]; exact Nat.ne_of_lt (Nat.lt_of_lt_of_le (by have := World.block_lt_of_cell? _ _ hw211_3; first | rwa [add_block] at this | exact this) GW215.out)) | (show (Addr.add _ _).block ≠ _; rw [add_block]; exact Nat.ne_of_lt (Nat.lt_of_lt_of_le (by have := World.block_lt_of_cell? _ _ hw211_3; first | rwa [add_block] at this | exact this) GW215.out)) | (dsimp only; exact Nat.ne_of_lt (Nat.lt_of_lt_of_le (by have := World.block_lt_of_cell? _ _ hw211_3; first | rwa [add_block] at this | exact this) GW215.out))) _).trans (hHeld.2.2.2.2.2.2.2.2.2.2.2.1)))))))))))), ((cell_far (p := ⟨gb215, _, none⟩) (by first | exact Nat.ne_of_lt (Nat.lt_of_lt_of_le (by have := World.block_lt_of_cell? _ _ hw213_0; first | rwa [add_block] at this | exact this) GW215.out) | (rw [add_block]; exact Nat.ne_of_lt (Nat.lt_of_lt_of_le (by have := World.block_lt_of_cell? _ _ hw213_0; first | rwa [add_block] at this | exact this) GW215.out)) | (show (Addr.add _ _).block ≠ _; rw [add_block]; exact Nat.ne_of_lt (Nat.lt_of_lt_of_le (by have := World.block_lt_of_cell? _ _ hw213_0; first | rwa [add_block] at this | exact this) GW215.out)) | (dsimp only; exact Nat.ne_of_lt (Nat.lt_of_lt_of_le (by have := World.block_lt_of_cell? _ _ hw213_0; first | rwa [add_block] at this | exact this) GW215.out))) _).trans (((cell_far (p := ⟨gb215, _, none⟩) (by first | exact Nat.ne_of_lt (Nat.lt_of_lt_of_le (by have := World.block_lt_of_cell? _ _ hw213_0; first | rwa [add_block] at this | exact this) GW215.out) | (rw [add_block]; exact Nat.ne_of_lt (Nat.lt_of_lt_of_le (by have := World.block_lt_of_cell? _ _ hw213_0; first | rwa [add_block] at this | exact this) GW215.out)) | (show (Addr.add _ _).block ≠ _; rw [add_block]; exact Nat.ne_of_lt (Nat.lt_of_lt_of_le (by have := World.block_lt_of_cell? _ _ hw213_0; first | rwa [add_block] at this | exact this) GW215.out)) | (dsimp only; exact Nat.ne_of_lt (Nat.lt_of_lt_of_le (by have := World.block_lt_of_cell? _ _ hw213_0; first | rwa [add_block] at this | exact this) GW215.out))) _).trans (((cell_far (p := ⟨gb215, _, none⟩) (by first | exact Nat.ne_of_lt (Nat.lt_of_lt_of_le (by have := World.block_lt_of_cell? _ _ hw213_0; first | rwa [add_block] at this | exact this) GW215.out) | (rw [add_block]; exact Nat.ne_of_lt (Nat.lt_of_lt_of_le (by have := World.block_lt_of_cell? _ _ hw213_0; first | rwa [add_block] at this | exact this) GW215.out)) | (show (Addr.add _ _).block ≠ _; rw [add_block]; exact Nat.ne_of_lt (Nat.lt_of_lt_of_le (by have := World.block_lt_of_cell? _ _ hw213_0; first | rwa [add_block] at this | exact this) GW215.out)) | (dsimp only; exact Nat.ne_of_lt (Nat.lt_of_lt_of_le (by have := World.block_lt_of_cell? _ _ hw213_0; first | rwa [add_block] at this | exact this) GW215.out))) _).trans (((cell_far (p := ⟨gb215, _, none⟩) (by first | exact Nat.ne_of_lt (Nat.lt_of_lt_of_le (by have := World.block_lt_of_cell? _ _ hw213_0; first | rwa [add_block] at this | exact this) GW215.out) | (rw [add_block]; exact Nat.ne_of_lt (Nat.lt_of_lt_of_le (by have := World.block_lt_of_cell? _ _ hw213_0; first | rwa [add_block] at this | exact this) GW215.out)) | (show (Addr.add _ _).block ≠ _; rw [add_block]; exact Nat.ne_of_lt (Nat.lt_of_lt_of_le (by have := World.block_lt_of_cell? _ _ hw213_0; first | rwa [add_block] at this | exact this) GW215.out)) | (dsimp only; exact Nat.ne_of_lt (Nat.lt_of_lt_of_le (by have := World.block_lt_of_cell? _ _ hw213_0; first | rwa [add_block] at this | exact this) GW215.out))) _).trans (((cell_far (p := ⟨gb215, _, none⟩) (by first | exact Nat.ne_of_lt (Nat.lt_of_lt_of_le (by have := World.block_lt_of_cell? _ _ hw213_0; first | rwa [add_block] at this | exact this) GW215.out) | (rw [add_block]; exact Nat.ne_of_lt (Nat.lt_of_lt_of_le (by have := World.block_lt_of_cell? _ _ hw213_0; first | rwa [add_block] at this | exact this) GW215.out)) | (show (Addr.add _ _).block ≠ _; rw [add_block]; exact Nat.ne_of_lt (Nat.lt_of_lt_of_le (by have := World.block_lt_of_cell? _ _ hw213_0; first | rwa [add_block] at this | exact this) GW215.out)) | (dsimp only; exact Nat.ne_of_lt (Nat.lt_of_lt_of_le (by have := World.block_lt_of_cell? _ _ hw213_0; first | rwa [add_block] at this | exact this) GW215.out))) _).trans (((cell_far (p := ⟨gb215, _, none⟩) (by first | exact Nat.ne_of_lt (Nat.lt_of_lt_of_le (by have := World.block_lt_of_cell? _ _ hw213_0; first | rwa [add_block] at this | exact this) GW215.out) | (rw [add_block]; exact Nat.ne_of_lt (Nat.lt_of_lt_of_le (by have := World.block_lt_of_cell? _ _ hw213_0; first | rwa [add_block] at this | exact this) GW215.out)) | (show (Addr.add _ _).block ≠ _; rw [add_block]; exact Nat.ne_of_lt (Nat.lt_of_lt_of_le (by have := World.block_lt_of_cell? _ _ hw213_0; first | rwa [add_block] at this | exact this) GW215.out)) | (dsimp only; exact Nat.ne_of_lt (Nat.lt_of_lt_of_le (by have := World.block_lt_of_cell? _ _ hw213_0; first | rwa [add_block] at this | exact this) GW215.out))) _).trans (hHeld.2.2.2.2.2.2.2.2.2.2.2.2.1)))))))))))), ((cell_far (p := ⟨gb215, _, none⟩) (by first | exact Nat.ne_of_lt (Nat.lt_of_lt_of_le (by have := World.block_lt_of_cell? _ _ hw213_1; first | rwa [add_block] at this | exact this) GW215.out) | (rw [add_block]; exact Nat.ne_of_lt (Nat.lt_of_lt_of_le (by have := World.block_lt_of_cell? _ _ hw213_1; first | rwa [add_block] at this | exact this) GW215.out)) | (show (Addr.add _ _).block ≠ _; rw [add_block]; exact Nat.ne_of_lt (Nat.lt_of_lt_of_le (by have := World.block_lt_of_cell? _ _ hw213_1; first | rwa [add_block] at this | exact this) GW215.out)) | (dsimp only; exact Nat.ne_of_lt (Nat.lt_of_lt_of_le (by have := World.block_lt_of_cell? _ _ hw213_1; first | rwa [add_block] at this | exact this) GW215.out))) _).trans (((cell_far (p := ⟨gb215, _, none⟩) (by first | exact Nat.ne_of_lt (Nat.lt_of_lt_of_le (by have := World.block_lt_of_cell? _ _ hw213_1; first | rwa [add_block] at this | exact this) GW215.out) | (rw [add_block]; exact Nat.ne_of_lt (Nat.lt_of_lt_of_le (by have := World.block_lt_of_cell? _ _ hw213_1; first | rwa [add_block] at this | exact this) GW215.out)) | (show (Addr.add _ _).block ≠ _; rw [add_block]; exact Nat.ne_of_lt (Nat.lt_of_lt_of_le (by have := World.block_lt_of_cell? _ _ hw213_1; first | rwa [add_block] at this | exact this) GW215.out)) | (dsimp only; exact Nat.ne_of_lt (Nat.lt_of_lt_of_le (by have := World.block_lt_of_cell? _ _ hw213_1; first | rwa [add_block] at this | exact this) GW215.out))) _).trans (((cell_far (p := ⟨gb215, _, none⟩) (by first | exact Nat.ne_of_lt (Nat.lt_of_lt_of_le (by have := World.block_lt_of_cell? _ _ hw213_1; first | rwa [add_block] at this | exact this) GW215.out) | (rw [add_block]; exact Nat.ne_of_lt (Nat.lt_of_lt_of_le (by have := World.block_lt_of_cell? _ _ hw213_1; first | rwa [add_block] at this | exact this) GW215.out)) | (show (Addr.add _ _).block ≠ _; rw [add_block]; exact Nat.ne_of_lt (Nat.lt_of_lt_of_le (by have := World.block_lt_of_cell? _ _ hw213_1; first | rwa [add_block] at this | exact this) GW215.out)) | (dsimp only; exact Nat.ne_of_lt (Nat.lt_of_lt_of_le (by have := World.block_lt_of_cell? _ _ hw213_1; first | rwa [add_block] at this | exact this) GW215.out))) _).trans (((cell_far (p := ⟨gb215, _, none⟩) (by first | exact Nat.ne_of_lt (Nat.lt_of_lt_of_le (by have := World.block_lt_of_cell? _ _ hw213_1; first | rwa [add_block] at this | exact this) GW215.out) | (rw [add_block]; exact Nat.ne_of_lt (Nat.lt_of_lt_of_le (by have := World.block_lt_of_cell? _ _ hw213_1; first | rwa [add_block] at this | exact this) GW215.out)) | (show (Addr.add _ _).block ≠ _; rw [add_block]; exact Nat.ne_of_lt (Nat.lt_of_lt_of_le (by have := World.block_lt_of_cell? _ _ hw213_1; first | rwa [add_block] at this | exact this) GW215.out)) | (dsimp only; exact Nat.ne_of_lt (Nat.lt_of_lt_of_le (by have := World.block_lt_of_cell? _ _ hw213_1; first | rwa [add_block] at this | exact this) GW215.out))) _).trans (((cell_far (p := ⟨gb215, _, none⟩) (by first | exact Nat.ne_of_lt (Nat.lt_of_lt_of_le (by have := World.block_lt_of_cell? _ _ hw213_1; first | rwa [add_block] at this | exact this) GW215.out) | (rw [add_block]; exact Nat.ne_of_lt (Nat.lt_of_lt_of_le (by have := World.block_lt_of_cell? _ _ hw213_1; first | rwa [add_block] at this | exact this) GW215.out)) | (show (Addr.add _ _).block ≠ _; rw [add_block]; exact Nat.ne_of_lt (Nat.lt_of_lt_of_le (by have := World.block_lt_of_cell? _ _ hw213_1; first | rwa [add_block] at this | exact this) GW215.out)) | (dsimp only; exact Nat.ne_of_lt (Nat.lt_of_lt_of_le (by have := World.block_lt_of_cell? _ _ hw213_1; first | rwa [add_block] at this | exact this) GW215.out))) _).trans (((cell_far (p := ⟨gb215, _, none⟩) (by first | exact Nat.ne_of_lt (Nat.lt_of_lt_of_le (by have := World.block_lt_of_cell? _ _ hw213_1; first | rwa [add_block] at this | exact this) GW215.out) | (rw [add_block]; exact Nat.ne_of_lt (Nat.lt_of_lt_of_le (by have := World.block_lt_of_cell? _ _ hw213_1; first | rwa [add_block] at this | exact this) GW215.out)) | (show (Addr.add _ _).block ≠ _; rw [add_block]; exact Nat.ne_of_lt (Nat.lt_of_lt_of_le (by have := World.block_lt_of_cell? _ _ hw213_1; first | rwa [add_block] at this | exact this) GW215.out)) | (dsimp only; exact Nat.ne_of_lt (Nat.lt_of_lt_of_le (by have := World.block_lt_of_cell? _ _ hw213_1; first | rwa [add_block] at this | exact this) GW215.out))) _).trans (hHeld.2.2.2.2.2.2.2.2.2.2.2.2.2.1)))))))))))), ((cell_far (p := ⟨gb215, _, none⟩) (by first | exact Nat.ne_of_lt (Nat.lt_of_lt_of_le (by have := World.block_lt_of_cell? _ _ hw213_2; first | rwa [add_block] at this | exact this) GW215.out) | (rw [add_block]; exact Nat.ne_of_lt (Nat.lt_of_lt_of_le (by have := World.block_lt_of_cell? _ _ hw213_2; first | rwa [add_block] at this | exact this) GW215.out)) | (show (Addr.add _ _).block ≠ _; rw [add_block]; exact Nat.ne_of_lt (Nat.lt_of_lt_of_le (by have := World.block_lt_of_cell? _ _ hw213_2; first | rwa [add_block] at this | exact this) GW215.out)) | (dsimp only; exact Nat.ne_of_lt (Nat.lt_of_lt_of_le (by have := World.block_lt_of_cell? _ _ hw213_2; first | rwa [add_block] at this | exact this) GW215.out))) _).trans (((cell_far (p := ⟨gb215, _, none⟩) (by first | exact Nat.ne_of_lt (Nat.lt_of_lt_of_le (by have := World.block_lt_of_cell? _ _ hw213_2; first | rwa [add_block] at this | exact this) GW215.out) | (rw [add_block]; exact Nat.ne_of_lt (Nat.lt_of_lt_of_le (by have := World.block_lt_of_cell? _ _ hw213_2; first | rwa [add_block] at this | exact this) GW215.out)) | (show (Addr.add _ _).block ≠ _; rw [add_block]; exact Nat.ne_of_lt (Nat.lt_of_lt_of_le (by have := World.block_lt_of_cell? _ _ hw213_2; first | rwa [add_block] at this | exact this) GW215.out)) | (dsimp only; exact Nat.ne_of_lt (Nat.lt_of_lt_of_le (by have := World.block_lt_of_cell? _ _ hw213_2; first | rwa [add_block] at this | exact this) GW215.out))) _).trans (((cell_far (p := ⟨gb215, _, none⟩) (by first | exact Nat.ne_of_lt (Nat.lt_of_lt_of_le (by have := World.block_lt_of_cell? _ _ hw213_2; first | rwa [add_block] at this | exact this) GW215.out) | (rw [add_block]; exact Nat.ne_of_lt (Nat.lt_of_lt_of_le (by have := World.block_lt_of_cell? _ _ hw213_2; first | rwa [add_block] at this | exact this) GW215.out)) | (show (Addr.add _ _).block ≠ _; rw [add_block]; exact Nat.ne_of_lt (Nat.lt_of_lt_of_le (by have := World.block_lt_of_cell? _ _ hw213_2; first | rwa [add_block] at this | exact this) GW215.out)) | (dsimp only; exact Nat.ne_of_lt (Nat.lt_of_lt_of_le (by have := World.block_lt_of_cell? _ _ hw213_2; first | rwa [add_block] at this | exact this) GW215.out))) _).trans (((cell_far (p := ⟨gb215, _, none⟩) (by first | exact Nat.ne_of_lt (Nat.lt_of_lt_of_le (by have := World.block_lt_of_cell? _ _ hw213_2; first | rwa [add_block] at this | exact this) GW215.out) | (rw [add_block]; exact Nat.ne_of_lt (Nat.lt_of_lt_of_le (by have := World.block_lt_of_cell? _ _ hw213_2; first | rwa [add_block] at this | exact this) GW215.out)) | (show (Addr.add _ _).block ≠ _; rw [add_block]; exact Nat.ne_of_lt (Nat.lt_of_lt_of_le (by have := World.block_lt_of_cell? _ _ hw213_2; first | rwa [add_block] at this | exact this) GW215.out)) | (dsimp only; exact Nat.ne_of_lt (Nat.lt_of_lt_of_le (by have := World.block_lt_of_cell? _ _ hw213_2; first | rwa [add_block] at this | exact this) GW215.out))) _).trans (((cell_far (p := ⟨gb215, _, none⟩) (by first | exact Nat.ne_of_lt (Nat.lt_of_lt_of_le (by have := World.block_lt_of_cell? _ _ hw213_2; first | rwa [add_block] at this | exact this) GW215.out) | (rw [add_block]; exact Nat.ne_of_lt (Nat.lt_of_lt_of_le (by have := World.block_lt_of_cell? _ _ hw213_2; first | rwa [add_block] at this | exact this) GW215.out)) | (show (Addr.add _ _).block ≠ _; rw [add_block]; exact Nat.ne_of_lt (Nat.lt_of_lt_of_le (by have := World.block_lt_of_cell? _ _ hw213_2; first | rwa [add_block] at this | exact this) GW215.out)) | (dsimp only; exact Nat.ne_of_lt (Nat.lt_of_lt_of_le (by have := World.block_lt_of_cell? _ _ hw213_2; first | rwa [add_block] at this | exact this) GW215.out))) _).trans (((cell_far (p := ⟨gb215, _, none⟩) (by first | exact Nat.ne_of_lt (Nat.lt_of_lt_of_le (by have := World.block_lt_of_cell? _ _ hw213_2; first | rwa [add_block] at this | exact this) GW215.out) | (rw [add_block]; exact Nat.ne_of_lt (Nat.lt_of_lt_of_le (by have := World.block_lt_of_cell? _ _ hw213_2; first | rwa [add_block] at this | exact this) GW215.out)) | (show (Addr.add _ _).block ≠ _; rw [add_block]; exact Nat.ne_of_lt (Nat.lt_of_lt_of_le (by have := World.block_lt_of_cell? _ _ hw213_2; first | rwa [add_block] at this | exact this) GW215.out)) | (dsimp only; exact Nat.ne_of_lt (Nat.lt_of_lt_of_le (by have := World.block_lt_of_cell? _ _ hw213_2; first | rwa [add_block] at this | exact this) GW215.out))) _).trans (hHeld.2.2.2.2.2.2.2.2.2.2.2.2.2.2.1)))))))))))), ((cell_far (p := ⟨gb215, _, none⟩) (by first | exact Nat.ne_of_lt (Nat.lt_of_lt_of_le (by have := World.block_lt_of_cell? _ _ hw213_3; first | rwa [add_block] at this | exact this) GW215.out) | (rw [add_block]; exact Nat.ne_of_lt (Nat.lt_of_lt_of_le (by have := World.block_lt_of_cell? _ _ hw213_3; first | rwa [add_block] at this | exact this) GW215.out)) | (show (Addr.add _ _).block ≠ _; rw [add_block]; exact Nat.ne_of_lt (Nat.lt_of_lt_of_le (by have := World.block_lt_of_cell? _ _ hw213_3; first | rwa [add_block] at this | exact this) GW215.out)) | (dsimp only; exact Nat.ne_of_lt (Nat.lt_of_lt_of_le (by have := World.block_lt_of_cell? _ _ hw213_3; first | rwa [add_block] at this | exact this) GW215.out))) _).trans (((cell_far (p := ⟨gb215, _, none⟩) (by first | exact Nat.ne_of_lt (Nat.lt_of_lt_of_le (by have := World.block_lt_of_cell? _ _ hw213_3; first | rwa [add_block] at this | exact this) GW215.out) | (rw [add_block]; exact Nat.ne_of_lt (Nat.lt_of_lt_of_le (by have := World.block_lt_of_cell? _ _ hw213_3; first | rwa [add_block] at this | exact this) GW215.out)) | (show (Addr.add _ _).block ≠ _; rw [add_block]; exact Nat.ne_of_lt (Nat.lt_of_lt_of_le (by have := World.block_lt_of_cell? _ _ hw213_3; first | rwa [add_block] at this | exact this) GW215.out)) | (dsimp only; exact Nat.ne_of_lt (Nat.lt_of_lt_of_le (by have := World.block_lt_of_cell? _ _ hw213_3; first | rwa [add_block] at this | exact this) GW215.out))) _).trans (((cell_far (p := ⟨gb215, _, none⟩) (by first | exact Nat.ne_of_lt (Nat.lt_of_lt_of_le (by have := World.block_lt_of_cell? _ _ hw213_3; first | rwa [add_block] at this | exact this) GW215.out) | (rw [add_block]; exact Nat.ne_of_lt (Nat.lt_of_lt_of_le (by have := World.block_lt_of_cell? _ _ hw213_3; first | rwa [add_block] at this | exact this) GW215.out)) | (show (Addr.add _ _).block ≠ _; rw [add_block]; exact Nat.ne_of_lt (Nat.lt_of_lt_of_le (by have := World.block_lt_of_cell? _ _ hw213_3; first | rwa [add_block] at this | exact this) GW215.out)) | (dsimp only; exact Nat.ne_of_lt (Nat.lt_of_lt_of_le (by have := World.block_lt_of_cell? _ _ hw213_3; first | rwa [add_block] at this | exact this) GW215.out))) _).trans (((cell_far (p := ⟨gb215, _, none⟩) (by first | exact Nat.ne_of_lt (Nat.lt_of_lt_of_le (by have := World.block_lt_of_cell? _ _ hw213_3; first | rwa [add_block] at this | exact this) GW215.out) | (rw [add_block]; exact Nat.ne_of_lt (Nat.lt_of_lt_of_le (by have := World.block_lt_of_cell? _ _ hw213_3; first | rwa [add_block] at this | exact this) GW215.out)) | (show (Addr.add _ _).block ≠ _; rw [add_block]; exact Nat.ne_of_lt (Nat.lt_of_lt_of_le (by have := World.block_lt_of_cell? _ _ hw213_3; first | rwa [add_block] at this | exact this) GW215.out)) | (dsimp only; exact Nat.ne_of_lt (Nat.lt_of_lt_of_le (by have := World.block_lt_of_cell? _ _ hw213_3; first | rwa [add_block] at this | exact this) GW215.out))) _).trans (((cell_far (p := ⟨gb215, _, none⟩) (by first | exact Nat.ne_of_lt (Nat.lt_of_lt_of_le (by have := World.block_lt_of_cell? _ _ hw213_3; first | rwa [add_block] at this | exact this) GW215.out) | (rw [add_block]; exact Nat.ne_of_lt (Nat.lt_of_lt_of_le (by have := World.block_lt_of_cell? _ _ hw213_3; first | rwa [add_block] at this | exact this) GW215.out)) | (show (Addr.add _ _).block ≠ _; rw [add_block]; exact Nat.ne_of_lt (Nat.lt_of_lt_of_le (by have := World.block_lt_of_cell? _ _ hw213_3; first | rwa [add_block] at this | exact this) GW215.out)) | (dsimp only; exact Nat.ne_of_lt (Nat.lt_of_lt_of_le (by have := World.block_lt_of_cell? _ _ hw213_3; first | rwa [add_block] at this | exact this) GW215.out))) _).trans (((cell_far (p := ⟨gb215, _, none⟩) (by first | exact Nat.ne_of_lt (Nat.lt_of_lt_of_le (by have := World.block_lt_of_cell? _ _ hw213_3; first | rwa [add_block] at this | exact this) GW215.out) | (rw [add_block]; exact Nat.ne_of_lt (Nat.lt_of_lt_of_le (by have := World.block_lt_of_cell? _ _ hw213_3; first | rwa [add_block] at this | exact this) GW215.out)) | (show (Addr.add _ _).block ≠ _; rw [add_block]; exact Nat.ne_of_lt (Nat.lt_of_lt_of_le (by have := World.block_lt_of_cell? _ _ hw213_3; first | rwa [add_block] at this | exact this) GW215.out)) | (dsimp only; exact Nat.ne_of_lt (Nat.lt_of_lt_of_le (by have := World.block_lt_of_cell? _ _ hw213_3; first | rwa [add_block] at this | exact this) GW215.out))) _).trans (hHeld.2.2.2.2.2.2.2.2.2.2.2.2.2.2.2))))))))))))⟩ (fun hHeld => ?_)
          clear hK K
          refine done_ (done_of HT_.out (by kernel_rfl)) ?_
          try go_wp2
          have n0_ : Aside0 (Kd.R k30 30 ((((((w11.setCell ⟨gb215, 0, none⟩ (.int .i64 x7_1)).setCell ⟨gb215, 1, none⟩ (.bool ((rd_T51 l0 x7_1).f0))).setCell ⟨gb215, 2, none⟩ (.int .u64 ((rd_T51 l0 x7_1).f2))).setCell ⟨gb215, 3, none⟩ (.int .i64 0)).setCell ⟨gb215, 4, none⟩ (.int .i64 (wrap64 ((wrap64 ((wrap64 (100 * x7_1)) - t212)) + 1000)))).setCell ⟨gb215, 5, none⟩ (.int .i64 (wrap64 ((wrap64 ((wrap64 (100 * x7_1)) + t214)) + 1001)))) w.heap.size (fun k_ => k_ ≠ gb215) u5 x5_1) := ⟨by (with_reducible repeat (first | apply Kd.R_alloc | apply Kd.R_drewN | apply Kd.R_drew)); exact Kd.R_mono (Kd.R_far (p := ⟨gb215, 5, none⟩) (Kd.R_far (p := ⟨gb215, 4, none⟩) (Kd.R_far (p := ⟨gb215, 3, none⟩) (Kd.R_far (p := ⟨gb215, 2, none⟩) (Kd.R_far (p := ⟨gb215, 1, none⟩) (Kd.R_far (p := ⟨gb215, 0, none⟩) (Kd.R_mono HO_5.out (fun k_ hk => (⟨hk, hk⟩ : _ ∧ k_ ≠ gb215))) (fun _ hk => hk.2) (.int .i64 x7_1)) (fun _ hk => hk.2) (.bool ((rd_T51 l0 x7_1).f0))) (fun _ hk => hk.2) (.int .u64 ((rd_T51 l0 x7_1).f2))) (fun _ hk => hk.2) (.int .i64 0)) (fun _ hk => hk.2) (.int .i64 (wrap64 ((wrap64 ((wrap64 (100 * x7_1)) - t212)) + 1000)))) (fun _ hk => hk.2) (.int .i64 (wrap64 ((wrap64 ((wrap64 (100 * x7_1)) + t214)) + 1001)))) (fun _ hk => hk.1)⟩
          have n1_ : Aside0 (Kd.R (Kd.int .u64) 27 ((((((w11.setCell ⟨gb215, 0, none⟩ (.int .i64 x7_1)).setCell ⟨gb215, 1, none⟩ (.bool ((rd_T51 l0 x7_1).f0))).setCell ⟨gb215, 2, none⟩ (.int .u64 ((rd_T51 l0 x7_1).f2))).setCell ⟨gb215, 3, none⟩ (.int .i64 0)).setCell ⟨gb215, 4, none⟩ (.int .i64 (wrap64 ((wrap64 ((wrap64 (100 * x7_1)) - t212)) + 1000)))).setCell ⟨gb215, 5, none⟩ (.int .i64 (wrap64 ((wrap64 ((wrap64 (100 * x7_1)) + t214)) + 1001)))) w.heap.size (fun _ => True) u6 x6_1) := ⟨by (with_reducible repeat (first | apply Kd.R_alloc | apply Kd.R_drewN | apply Kd.R_drew)); exact Kd.R_mono (Kd.R_far (p := ⟨gb215, 5, none⟩) (Kd.R_far (p := ⟨gb215, 4, none⟩) (Kd.R_far (p := ⟨gb215, 3, none⟩) (Kd.R_far (p := ⟨gb215, 2, none⟩) (Kd.R_far (p := ⟨gb215, 1, none⟩) (Kd.R_far (p := ⟨gb215, 0, none⟩) (Kd.R_types HO_6.out BK215.out (by decide)) (fun _ hk => hk.2) (.int .i64 x7_1)) (fun _ hk => hk.2) (.bool ((rd_T51 l0 x7_1).f0))) (fun _ hk => hk.2) (.int .u64 ((rd_T51 l0 x7_1).f2))) (fun _ hk => hk.2) (.int .i64 0)) (fun _ hk => hk.2) (.int .i64 (wrap64 ((wrap64 ((wrap64 (100 * x7_1)) - t212)) + 1000)))) (fun _ hk => hk.2) (.int .i64 (wrap64 ((wrap64 ((wrap64 (100 * x7_1)) + t214)) + 1001)))) (fun _ hk => trivial)⟩
          have n2_ : Aside0 (((((((w11.setCell ⟨gb215, 0, none⟩ (.int .i64 x7_1)).setCell ⟨gb215, 1, none⟩ (.bool ((rd_T51 l0 x7_1).f0))).setCell ⟨gb215, 2, none⟩ (.int .u64 ((rd_T51 l0 x7_1).f2))).setCell ⟨gb215, 3, none⟩ (.int .i64 0)).setCell ⟨gb215, 4, none⟩ (.int .i64 (wrap64 ((wrap64 ((wrap64 (100 * x7_1)) - t212)) + 1000)))).setCell ⟨gb215, 5, none⟩ (.int .i64 (wrap64 ((wrap64 ((wrap64 (100 * x7_1)) + t214)) + 1001)))).heap[gb215]? = some (.cells #[.int .i64 x7_1, .bool ((rd_T51 l0 x7_1).f0), .int .u64 ((rd_T51 l0 x7_1).f2), .int .i64 0, .int .i64 (wrap64 ((wrap64 ((wrap64 (100 * x7_1)) - t212)) + 1000)), .int .i64 (wrap64 ((wrap64 ((wrap64 (100 * x7_1)) + t214)) + 1001))] 30 (0, 0))) := ⟨by (with_reducible repeat (first | refine blk_drewN ?_ _ | refine blk_drew ?_ | refine blk_alloc ?_ _)); refine blk_put (cs := #[.int .i64 x7_1, .bool ((rd_T51 l0 x7_1).f0), .int .u64 ((rd_T51 l0 x7_1).f2), .int .i64 0, .int .i64 (wrap64 ((wrap64 ((wrap64 (100 * x7_1)) - t212)) + 1000)), .int .i64 0]) ?_ 5 _ rfl; (with_reducible repeat (first | refine blk_drewN ?_ _ | refine blk_drew ?_ | refine blk_alloc ?_ _)); refine blk_put (cs := #[.int .i64 x7_1, .bool ((rd_T51 l0 x7_1).f0), .int .u64 ((rd_T51 l0 x7_1).f2), .int .i64 0, .int .i64 0, .int .i64 0]) ?_ 4 _ rfl; (with_reducible repeat (first | refine blk_drewN ?_ _ | refine blk_drew ?_ | refine blk_alloc ?_ _)); refine blk_put (cs := #[.int .i64 x7_1, .bool ((rd_T51 l0 x7_1).f0), .int .u64 ((rd_T51 l0 x7_1).f2), .int .i64 0, .int .i64 0, .int .i64 0]) ?_ 3 _ rfl; (with_reducible repeat (first | refine blk_drewN ?_ _ | refine blk_drew ?_ | refine blk_alloc ?_ _)); refine blk_put (cs := #[.int .i64 x7_1, .bool ((rd_T51 l0 x7_1).f0), .int .u64 0, .int .i64 0, .int .i64 0, .int .i64 0]) ?_ 2 _ rfl; (with_reducible repeat (first | refine blk_drewN ?_ _ | refine blk_drew ?_ | refine blk_alloc ?_ _)); refine blk_put (cs := #[.int .i64 x7_1, .bool false, .int .u64 0, .int .i64 0, .int .i64 0, .int .i64 0]) ?_ 1 _ rfl; (with_reducible repeat (first | refine blk_drewN ?_ _ | refine blk_drew ?_ | refine blk_alloc ?_ _)); refine blk_put (cs := #[.int .i64 0, .bool false, .int .u64 0, .int .i64 0, .int .i64 0, .int .i64 0]) ?_ 0 _ rfl; (with_reducible repeat (first | refine blk_drewN ?_ _ | refine blk_drew ?_ | refine blk_alloc ?_ _)); exact BK215.out⟩
          have n3_ : Aside0 (Below w.heap.size w ((((((w11.setCell ⟨gb215, 0, none⟩ (.int .i64 x7_1)).setCell ⟨gb215, 1, none⟩ (.bool ((rd_T51 l0 x7_1).f0))).setCell ⟨gb215, 2, none⟩ (.int .u64 ((rd_T51 l0 x7_1).f2))).setCell ⟨gb215, 3, none⟩ (.int .i64 0)).setCell ⟨gb215, 4, none⟩ (.int .i64 (wrap64 ((wrap64 ((wrap64 (100 * x7_1)) - t212)) + 1000)))).setCell ⟨gb215, 5, none⟩ (.int .i64 (wrap64 ((wrap64 ((wrap64 (100 * x7_1)) + t214)) + 1001))))) := ⟨by repeat (first | (with_reducible first | exact HB.out | apply below_alloc | apply pw_below_drewN | apply below_drew1 | refine below_set ?_ GE215.out) | exact HB.out)⟩
          (try clear HO_5)
          (try clear HO_6)
          (try clear BK215)
          (try clear HB)
          generalize ((((((w11.setCell ⟨gb215, 0, none⟩ (.int .i64 x7_1)).setCell ⟨gb215, 1, none⟩ (.bool ((rd_T51 l0 x7_1).f0))).setCell ⟨gb215, 2, none⟩ (.int .u64 ((rd_T51 l0 x7_1).f2))).setCell ⟨gb215, 3, none⟩ (.int .i64 0)).setCell ⟨gb215, 4, none⟩ (.int .i64 (wrap64 ((wrap64 ((wrap64 (100 * x7_1)) - t212)) + 1000)))).setCell ⟨gb215, 5, none⟩ (.int .i64 (wrap64 ((wrap64 ((wrap64 (100 * x7_1)) + t214)) + 1001)))) = w18 at n0_ n1_ n2_ n3_ ⊢
          have HO_5 := n0_
          have HO_6 := n1_
          have BK215 := n2_
          have HB := n3_
          clear n0_ n1_ n2_ n3_
          have n0_ := Aside0.mk (Kd.R_drew HO_5.out)
          have n1_ := Aside0.mk (Kd.R_drew HO_6.out)
          have n2_ := Aside0.mk (blk_drew BK215.out)
          have n3_ := Aside0.mk (below_drew1 HB.out)
          clear HO_5
          clear HO_6
          clear BK215
          clear HB
          have HO_5 := n0_
          have HO_6 := n1_
          have BK215 := n2_
          have HB := n3_
          clear n0_ n1_ n2_ n3_
          have p216 : 0 ≤ (x7_1 : Int) := of_decide_eq_true (by first | (with_reducible assumption) | assumption)
          have q216 : x7_1 < (l0.length : Int) := of_decide_eq_true (by first | (with_reducible assumption) | assumption)
          obtain ⟨ad216, e216, hx216_0, hx216_1, hx216_2, hx216_3⟩ := at_T51 HR0.out x7_1 p216 q216
          have hw216_3 := hx216_3
          have hw216_2 := hx216_2
          have hw216_1 := hx216_1
          have hw216_0 := hx216_0
          obtain rfl : ad209 = ad216 := (by injection e216)
          replace hx216_0 := (HB.out.cell (World.block_lt_of_cell? w _ hx216_0)).trans hx216_0
          replace hx216_1 := (HB.out.cell (World.block_lt_of_cell? w _ hx216_1)).trans hx216_1
          replace hx216_2 := (HB.out.cell (World.block_lt_of_cell? w _ hx216_2)).trans hx216_2
          replace hx216_3 := (HB.out.cell (World.block_lt_of_cell? w _ hx216_3)).trans hx216_3
          replace p216 := eq_true p216
          replace q216 := eq_true q216
          have p217 : 0 ≤ (x7_1 : Int) := of_decide_eq_true (by first | (with_reducible assumption) | assumption)
          have q217 : x7_1 < (l0.length : Int) := of_decide_eq_true (by first | (with_reducible assumption) | assumption)
          obtain ⟨ad217, e217, hx217_0, hx217_1, hx217_2, hx217_3⟩ := at_T51 HR0.out x7_1 p217 q217
          have hw217_3 := hx217_3
          have hw217_2 := hx217_2
          have hw217_1 := hx217_1
          have hw217_0 := hx217_0
          obtain rfl : ad209 = ad217 := (by injection e217)
          replace hx217_0 := (HB.out.cell (World.block_lt_of_cell? w _ hx217_0)).trans hx217_0
          replace hx217_1 := (HB.out.cell (World.block_lt_of_cell? w _ hx217_1)).trans hx217_1
          replace hx217_2 := (HB.out.cell (World.block_lt_of_cell? w _ hx217_2)).trans hx217_2
          replace hx217_3 := (HB.out.cell (World.block_lt_of_cell? w _ hx217_3)).trans hx217_3
          replace p217 := eq_true p217
          replace q217 := eq_true q217
          obtain ⟨Ao20, co20, eo20⟩ := Kd.R_slice HO_6.out
          (first | subst eo20 | (injection eo20 with f1_ f2_ f3_; have f4_ := f1_.symm; have f5_ := f3_.symm; clear f1_ f2_ f3_; subst f4_; subst f5_))
          refine start_ (n := 20) (S := fun w' => w'.cell? (ad209.add ((x7_1).toNat * 4)) = some (.bool ((rd_T51 l0 x7_1).f0)) ∧ w'.cell? ⟨(ad209.add ((x7_1).toNat * 4)).block, (ad209.add ((x7_1).toNat * 4)).off + 1, none⟩ = some (.bool ((rd_T51 l0 x7_1).f1)) ∧ w'.cell? ⟨(ad209.add ((x7_1).toNat * 4)).block, (ad209.add ((x7_1).toNat * 4)).off + 2, none⟩ = some (.int .u64 ((rd_T51 l0 x7_1).f2)) ∧ w'.cell? ⟨(ad209.add ((x7_1).toNat * 4)).block, (ad209.add ((x7_1).toNat * 4)).off + 3, none⟩ = some (.int .i64 ((rd_T51 l0 x7_1).f3)) ∧ w'.cell? (ad209.add ((x7_1).toNat * 4)) = some (.bool ((rd_T51 l0 x7_1).f0)) ∧ w'.cell? ⟨(ad209.add ((x7_1).toNat * 4)).block, (ad209.add ((x7_1).toNat * 4)).off + 1, none⟩ = some (.bool ((rd_T51 l0 x7_1).f1)) ∧ w'.cell? ⟨(ad209.add ((x7_1).toNat * 4)).block, (ad209.add ((x7_1).toNat * 4)).off + 2, none⟩ = some (.int .u64 ((rd_T51 l0 x7_1).f2)) ∧ w'.cell? ⟨(ad209.add ((x7_1).toNat * 4)).block, (ad209.add ((x7_1).toNat * 4)).off + 3, none⟩ = some (.int .i64 ((rd_T51 l0 x7_1).f3))) (ds := []) #[false, false, false, false, false, false, false, false, false, false, false, false, false, false, false, false, false, false, false, false] (by kernel_rfl) rfl rfl ⟨((HB.out.cell (World.block_lt_of_cell? w _ hw216_0)).trans hw216_0), ((HB.out.cell (World.block_lt_of_cell? w _ hw216_1)).trans hw216_1), ((HB.out.cell (World.block_lt_of_cell? w _ hw216_2)).trans hw216_2), ((HB.out.cell (World.block_lt_of_cell? w _ hw216_3)).trans hw216_3), ((HB.out.cell (World.block_lt_of_cell? w _ hw217_0)).trans hw217_0), ((HB.out.cell (World.block_lt_of_cell? w _ hw217_1)).trans hw217_1), ((HB.out.cell (World.block_lt_of_cell? w _ hw217_2)).trans hw217_2), ((HB.out.cell (World.block_lt_of_cell? w _ hw217_3)).trans hw217_3)⟩ (fun hHeld => ?_); refine with_tabW hatstandlaw15_made.tab7 hatstandlaw15_made.bits7 (fun HT_ HW_ => ?_)
          generalize w18.drew = w19 at HO_5 HO_6 BK215 HB hx216_0 hx216_1 hx216_2 hx216_3 hx217_0 hx217_1 hx217_2 hx217_3 hHeld ⊢
          refine pure_ (i := 0) (N := some 52) (v := ?_) (a' := ?_) #[true, false, false, false, false, false, false, false, false, false, false, false, false, false, false, false, false, false, false, false] rfl rfl (any_of HT_.out (by kernel_rfl)) (fun _ _ _ h => h) (Or.inl ⟨by rfl, ?_⟩) ?_ ?_
          rotate_left
          · intro w'
            go_simp
            with_reducible rfl
          rotate_left
          · simp only [Act.put, List.setIfInBounds_toArray, List.set_cons_zero, List.set_cons_succ, i64_w, i32_w, Go.IntKind.wrap_u32]
            rfl
          refine pure_ (i := 1) (N := some 53) (v := ?_) (a' := ?_) #[true, true, false, false, false, false, false, false, false, false, false, false, false, false, false, false, false, false, false, false] rfl rfl (any_of HT_.out (by kernel_rfl)) (fun _ _ _ h => h) (Or.inl ⟨by rfl, ?_⟩) ?_ ?_
          rotate_left
          · intro w'
            go_simp
            with_reducible rfl
          rotate_left
          · simp only [Act.put, List.setIfInBounds_toArray, List.set_cons_zero, List.set_cons_succ, i64_w, i32_w, Go.IntKind.wrap_u32]
            rfl
          refine pure_ (i := 2) (N := some 54) (v := ?_) (a' := ?_) #[true, true, true, false, false, false, false, false, false, false, false, false, false, false, false, false, false, false, false, false] rfl rfl (any_of HT_.out (by kernel_rfl)) (fun _ _ _ h => h) (Or.inl ⟨by rfl, ?_⟩) ?_ ?_
          rotate_left
          · intro w'
            go_simp
            with_reducible rfl
          rotate_left
          · simp only [Act.put, List.setIfInBounds_toArray, List.set_cons_zero, List.set_cons_succ, i64_w, i32_w, Go.IntKind.wrap_u32]
            rfl
          refine pure_ (i := 3) (N := some 55) (v := ?_) (a' := ?_) #[true, true, true, true, false, false, false, false, false, false, false, false, false, false, false, false, false, false, false, false] rfl rfl (any_of HT_.out (by kernel_rfl)) (fun _ _ _ h => h) (Or.inl ⟨by rfl, ?_⟩) ?_ ?_
          rotate_left
          · intro w'
            go_simp
            with_reducible rfl
          rotate_left
          · simp only [Act.put, List.setIfInBounds_toArray, List.set_cons_zero, List.set_cons_succ, i64_w, i32_w, Go.IntKind.wrap_u32]
            rfl
          refine pure_ (i := 4) (N := some 56) (v := ?_) (a' := ?_) #[true, true, true, true, true, false, false, false, false, false, false, false, false, false, false, false, false, false, false, false] rfl rfl (any_of HT_.out (by kernel_rfl)) (fun _ _ _ h => h) (Or.inl ⟨by rfl, ?_⟩) ?_ ?_
          rotate_left
          · intro w'
            go_simp
            with_reducible rfl
          rotate_left
          · simp only [Act.put, List.setIfInBounds_toArray, List.set_cons_zero, List.set_cons_succ, i64_w, i32_w, Go.IntKind.wrap_u32]
            rfl
          refine pure_ (i := 5) (N := some 57) (v := ?_) (a' := ?_) #[true, true, true, true, true, true, false, false, false, false, false, false, false, false, false, false, false, false, false, false] rfl rfl (any_of HT_.out (by kernel_rfl)) (fun _ _ _ h => h) (Or.inl ⟨by rfl, ?_⟩) ?_ ?_
          rotate_left
          · intro w'
            go_simp
            with_reducible rfl
          rotate_left
          · simp only [Act.put, List.setIfInBounds_toArray, List.set_cons_zero, List.set_cons_succ, i64_w, i32_w, Go.IntKind.wrap_u32]
            rfl
          refine pure_ (i := 7) (N := some 59) (v := ?_) (a' := ?_) #[true, true, true, true, true, true, false, true, false, false, false, false, false, false, false, false, false, false, false, false] rfl rfl (any_of HT_.out (by kernel_rfl)) (fun _ _ _ h => h) (Or.inl ⟨by rfl, ?_⟩) ?_ ?_
          rotate_left
          · intro w'
            go_simp
            with_reducible rfl
          rotate_left
          · simp only [Act.put, List.setIfInBounds_toArray, List.set_cons_zero, List.set_cons_succ, i64_w, i32_w, Go.IntKind.wrap_u32]
            rfl
          refine pure_ (i := 8) (N := some 60) (v := ?_) (a' := ?_) #[true, true, true, true, true, true, false, true, true, false, false, false, false, false, false, false, false, false, false, false] rfl rfl (any_of HT_.out (by kernel_rfl)) (fun _ _ _ h => h) (Or.inl ⟨by rfl, ?_⟩) ?_ ?_
          rotate_left
          · intro w'
            go_simp
            with_reducible rfl
          rotate_left
          · simp only [Act.put, List.setIfInBounds_toArray, List.set_cons_zero, List.set_cons_succ, i64_w, i32_w, Go.IntKind.wrap_u32]
            rfl
          refine pure_ (i := 9) (N := some 61) (v := ?_) (a' := ?_) #[true, true, true, true, true, true, false, true, true, true, false, false, false, false, false, false, false, false, false, false] rfl rfl (any_of HT_.out (by kernel_rfl)) (fun _ _ _ h => h) (Or.inl ⟨by rfl, ?_⟩) ?_ ?_
          rotate_left
          · intro w'
            go_simp
            with_reducible rfl
          rotate_left
          · simp only [Act.put, List.setIfInBounds_toArray, List.set_cons_zero, List.set_cons_succ, i64_w, i32_w, Go.IntKind.wrap_u32]
            rfl
          refine pure_ (i := 10) (N := some 62) (v := ?_) (a' := ?_) #[true, true, true, true, true, true, false, true, true, true, true, false, false, false, false, false, false, false, false, false] rfl rfl (any_of HT_.out (by kernel_rfl)) (fun _ _ _ h => h) (Or.inl ⟨by rfl, ?_⟩) ?_ ?_
          rotate_left
          · intro w'
            go_simp
            with_reducible rfl
          rotate_left
          · simp only [Act.put, List.setIfInBounds_toArray, List.set_cons_zero, List.set_cons_succ, i64_w, i32_w, Go.IntKind.wrap_u32]
            rfl
          refine take_ (i := 6) (N := some 58) (v := ?_) (a' := ?_) #[true, true, true, true, true, true, true, true, true, true, true, false, false, false, false, false, false, false, false, false] rfl rfl (take_ofW HT_.out HW_.out (by kernel_rfl)) (fun _ _ _ h => h) (Or.inl ⟨by rfl, ?_⟩) hHeld ?_ ?_
          rotate_left
          · rintro w' ⟨s0, s1, s2, s3, s4, s5, s6, s7⟩
            go_simp
            with_reducible rfl
          rotate_left
          · simp only [Act.put, List.setIfInBounds_toArray, List.set_cons_zero, List.set_cons_succ, i64_w, i32_w, Go.IntKind.wrap_u32]
            rfl
          refine take_ (i := 11) (N := some 63) (v := ?_) (a' := ?_) #[true, true, true, true, true, true, true, true, true, true, true, true, false, false, false, false, false, false, false, false] rfl rfl (take_ofW HT_.out HW_.out (by kernel_rfl)) (fun _ _ _ h => h) (Or.inl ⟨by rfl, ?_⟩) hHeld ?_ ?_
          rotate_left
          · rintro w' ⟨s0, s1, s2, s3, s4, s5, s6, s7⟩
            go_simp
            with_reducible rfl
          rotate_left
          · simp only [Act.put, List.setIfInBounds_toArray, List.set_cons_zero, List.set_cons_succ, i64_w, i32_w, Go.IntKind.wrap_u32]
            rfl
          refine one_ (i := 12) (N := some 64) #[true, true, true, true, true, true, true, true, true, true, true, true, true, false, false, false, false, false, false, false] rfl rfl (one_of HT_.out (by kernel_rfl)) (by decide) (fun K hK => ?_)
          refine goes_ Try.func20 (by kernel_rfl) rfl #[.slice Ao20 x6_1.length co20, .int .i64 a1, .bool ((rd_T51 l0 x7_1).f0), .int .u64 ((rd_T51 l0 x7_1).f2)] (by rfl) rfl rfl (by (try simp only [List.map_toArray, List.map_cons, List.map_nil]); first | done | rfl | (simp only [List.length_drop, List.length_take]; rfl)) ?_
          with_reducible refine (hatstandref15_Status.calls _ _ x6_1 a1 ((rd_T51 l0 x7_1).f0) ((rd_T51 l0 x7_1).f2) t218 t219 t220 _ ?side1 ?side2 A7.out).mono ?_
          (case side1 => repeat (first | exact (Kd.R_reads' HO_6.out).2.2 | (with_reducible refine Kd.C_alloc ?_ _) | (with_reducible refine Kd.C_drewN ?_ _) | (with_reducible refine Kd.C_drew ?_)))
          (case side2 => exact (Kd.R_reads' HO_6.out).2.1)
          rintro e w21 ⟨v221, rfl, ho0, hb⟩
          refine ⟨_, rfl, ?_⟩
          have n0_ := Aside0.mk (Kd.R_below (by (with_reducible repeat (first | apply Kd.R_alloc | apply Kd.R_drewN | apply Kd.R_drew)); exact HO_5.out) hb)
          have n1_ := Aside0.mk (Kd.R_elder' (by (with_reducible repeat (first | apply Kd.R_alloc | apply Kd.R_drewN | apply Kd.R_drew)); exact HO_6.out) (Kd.R_base ho0) hb)
          have n2_ := Aside0.mk (Kd.R_lower (Kd.R_new' ho0 (Kd.R_lt (by (with_reducible repeat (first | apply Kd.R_alloc | apply Kd.R_drewN | apply Kd.R_drew)); exact HO_6.out))) (below_size (by repeat (first | (with_reducible first | exact HB.out | apply below_alloc | apply pw_below_drewN | apply below_drew1 | refine below_set ?_ GE215.out) | exact HB.out))))
          have n3_ := Aside0.mk (blk_below (g := gb215) (o := .cells #[.int .i64 x7_1, .bool ((rd_T51 l0 x7_1).f0), .int .u64 ((rd_T51 l0 x7_1).f2), .int .i64 0, .int .i64 (wrap64 ((wrap64 ((wrap64 (100 * x7_1)) - t212)) + 1000)), .int .i64 (wrap64 ((wrap64 ((wrap64 (100 * x7_1)) + t214)) + 1001))] 30 (0, 0)) (by (with_reducible repeat (first | refine blk_drewN ?_ _ | refine blk_drew ?_ | refine blk_alloc ?_ _)); exact BK215.out) hb)
          have n4_ := Aside0.mk (below_step (by repeat (first | (with_reducible first | exact HB.out | apply below_alloc | apply pw_below_drewN | apply below_drew1 | refine below_set ?_ GE215.out) | exact HB.out)) hb)
          clear HO_5
          clear HO_6
          clear BK215
          clear HB
          have HO_5 := n0_
          have HO_6 := n1_
          have HO222 := n2_
          have BK215 := n3_
          have HB := n4_
          clear n0_ n1_ n2_ n3_ n4_
          (try clear hb)
          (try clear hb2)
          (try clear hk)
          (try clear hi)
          (try clear ho0)
          refine hK.out _ _ ⟨((HB.out.cell (World.block_lt_of_cell? w _ hw216_0)).trans hw216_0), ((HB.out.cell (World.block_lt_of_cell? w _ hw216_1)).trans hw216_1), ((HB.out.cell (World.block_lt_of_cell? w _ hw216_2)).trans hw216_2), ((HB.out.cell (World.block_lt_of_cell? w _ hw216_3)).trans hw216_3), ((HB.out.cell (World.block_lt_of_cell? w _ hw217_0)).trans hw217_0), ((HB.out.cell (World.block_lt_of_cell? w _ hw217_1)).trans hw217_1), ((HB.out.cell (World.block_lt_of_cell? w _ hw217_2)).trans hw217_2), ((HB.out.cell (World.block_lt_of_cell? w _ hw217_3)).trans hw217_3)⟩ (fun hHeld => ?_)
          clear hK K
          refine norm_ (a' := ?_) ?_ ?_
          rotate_left
          · show Act.put _ (some 64) _ = _
            simp only [Act.put, List.setIfInBounds_toArray, List.set_cons_zero, List.set_cons_succ, i64_w, i32_w, Go.IntKind.wrap_u32]
            rfl
          refine pure_ (i := 13) (N := some 51) (v := ?_) (a' := ?_) #[true, true, true, true, true, true, true, true, true, true, true, true, true, true, false, false, false, false, false, false] rfl rfl (any_of HT_.out (by kernel_rfl)) (fun _ _ _ h => h) (Or.inl ⟨by rfl, ?_⟩) ?_ ?_
          rotate_left
          · intro w'
            go_simp
            with_reducible rfl
          rotate_left
          · simp only [Act.put, List.setIfInBounds_toArray, List.set_cons_zero, List.set_cons_succ, i64_w, i32_w, Go.IntKind.wrap_u32]
            rfl
          refine pure_ (i := 14) (N := some 65) (v := ?_) (a' := ?_) #[true, true, true, true, true, true, true, true, true, true, true, true, true, true, true, false, false, false, false, false] rfl rfl (any_of HT_.out (by kernel_rfl)) (fun _ _ _ h => h) (Or.inl ⟨by rfl, ?_⟩) ?_ ?_
          rotate_left
          · intro w'
            go_simp
            with_reducible rfl
          rotate_left
          · simp only [Act.put, List.setIfInBounds_toArray, List.set_cons_zero, List.set_cons_succ, i64_w, i32_w, Go.IntKind.wrap_u32]
            rfl
          refine pure_ (i := 15) (N := some 66) (v := ?_) (a' := ?_) #[true, true, true, true, true, true, true, true, true, true, true, true, true, true, true, true, false, false, false, false] rfl rfl (any_of HT_.out (by kernel_rfl)) (fun _ _ _ h => h) (Or.inl ⟨by rfl, ?_⟩) ?_ ?_
          rotate_left
          · intro w'
            go_simp
            with_reducible rfl
          rotate_left
          · simp only [Act.put, List.setIfInBounds_toArray, List.set_cons_zero, List.set_cons_succ, i64_w, i32_w, Go.IntKind.wrap_u32]
            rfl
          refine pure_ (i := 16) (N := some 67) (v := ?_) (a' := ?_) #[true, true, true, true, true, true, true, true, true, true, true, true, true, true, true, true, true, false, false, false] rfl rfl (any_of HT_.out (by kernel_rfl)) (fun _ _ _ h => h) (Or.inl ⟨by rfl, ?_⟩) ?_ ?_
          rotate_left
          · intro w'
            go_simp
            with_reducible rfl
          rotate_left
          · simp only [Act.put, List.setIfInBounds_toArray, List.set_cons_zero, List.set_cons_succ, i64_w, i32_w, Go.IntKind.wrap_u32]
            rfl
          refine pure_ (i := 17) (N := some 9) (v := ?_) (a' := ?_) #[true, true, true, true, true, true, true, true, true, true, true, true, true, true, true, true, true, true, false, false] rfl rfl (any_of HT_.out (by kernel_rfl)) (fun _ _ _ h => h) (Or.inl ⟨by rfl, ?_⟩) ?_ ?_
          rotate_left
          · intro w'
            go_simp
            with_reducible rfl
          rotate_left
          · simp only [Act.put, List.setIfInBounds_toArray, List.set_cons_zero, List.set_cons_succ, i64_w, i32_w, Go.IntKind.wrap_u32]
            rfl
          refine pure_ (i := 18) (N := some 10) (v := ?_) (a' := ?_) #[true, true, true, true, true, true, true, true, true, true, true, true, true, true, true, true, true, true, true, false] rfl rfl (any_of HT_.out (by kernel_rfl)) (fun _ _ _ h => h) (Or.inl ⟨by rfl, ?_⟩) ?_ ?_
          rotate_left
          · intro w'
            go_simp
            with_reducible rfl
          rotate_left
          · simp only [Act.put, List.setIfInBounds_toArray, List.set_cons_zero, List.set_cons_succ, i64_w, i32_w, Go.IntKind.wrap_u32]
            rfl
          refine pure_ (i := 19) (N := some 11) (v := ?_) (a' := ?_) #[true, true, true, true, true, true, true, true, true, true, true, true, true, true, true, true, true, true, true, true] rfl rfl (any_of HT_.out (by kernel_rfl)) (fun _ _ _ h => h) (Or.inl ⟨by rfl, ?_⟩) ?_ ?_
          rotate_left
          · intro w'
            go_simp
            with_reducible rfl
          rotate_left
          · simp only [Act.put, List.setIfInBounds_toArray, List.set_cons_zero, List.set_cons_succ, i64_w, i32_w, Go.IntKind.wrap_u32]
            rfl
          refine done_ (done_of HT_.out (by kernel_rfl)) ?_
          have hcz22_0 : w21.cell? ⟨gb215, 0, none⟩ = some (.int .i64 x7_1) := (blk_cell BK215.out 0).trans rfl
          have hcz22_1 : w21.cell? ⟨gb215, 1, none⟩ = some (.bool ((rd_T51 l0 x7_1).f0)) := (blk_cell BK215.out 1).trans rfl
          have hcz22_2 : w21.cell? ⟨gb215, 2, none⟩ = some (.int .u64 ((rd_T51 l0 x7_1).f2)) := (blk_cell BK215.out 2).trans rfl
          have hcz22_3 : w21.cell? ⟨gb215, 3, none⟩ = some (.int .i64 0) := (blk_cell BK215.out 3).trans rfl
          have hcz22_4 : w21.cell? ⟨gb215, 4, none⟩ = some (.int .i64 (wrap64 ((wrap64 ((wrap64 (100 * x7_1)) - t212)) + 1000))) := (blk_cell BK215.out 4).trans rfl
          have hcz22_5 : w21.cell? ⟨gb215, 5, none⟩ = some (.int .i64 (wrap64 ((wrap64 ((wrap64 (100 * x7_1)) + t214)) + 1001))) := (blk_cell BK215.out 5).trans rfl
          have hfz22_0 := blk_frozen BK215.out 0
          have hfz22_1 := blk_frozen BK215.out 1
          have hfz22_2 := blk_frozen BK215.out 2
          have hfz22_3 := blk_frozen BK215.out 3
          have hfz22_4 := blk_frozen BK215.out 4
          have hfz22_5 := blk_frozen BK215.out 5
          go_upto_if 72 with (fail)
          go_cut [] (fun wc => ∃ (kq : Nat) (x216002_7 : Int), Aside0 (hatstandlaw15_made.j1 kq l0 a1 x5_1 x6_1 x7_1 t218 x7_1 ((rd_T51 l0 x7_1).f0) x216002_7 t220 (wrap64 ((wrap64 ((wrap64 (100 * x7_1)) - t212)) + 1000)) (wrap64 ((wrap64 ((wrap64 (100 * x7_1)) + t214)) + 1001)) = some r) ∧ Aside0 (kq ≤ k1) ∧ Aside0 (Kd.R k30 30 wc w.heap.size (fun k_ => k_ ≠ gb215) u5 x5_1) ∧ Aside0 (Kd.R (Kd.int .u64) 27 wc w.heap.size (fun k_ => some k_ ≠ (v221 : Value).ownBlock) (.slice Ao20 x6_1.length co20) x6_1) ∧ Aside0 (Kd.R (Kd.int .u64) 27 wc w.heap.size (fun k_ => some k_ ≠ ((.slice Ao20 x6_1.length co20) : Value).ownBlock) v221 t218) ∧ Aside0 (wc.heap[gb215]? = some (.cells #[.int .i64 x7_1, .bool ((rd_T51 l0 x7_1).f0), .int .u64 x216002_7, .int .i64 t220, .int .i64 (wrap64 ((wrap64 ((wrap64 (100 * x7_1)) - t212)) + 1000)), .int .i64 (wrap64 ((wrap64 ((wrap64 (100 * x7_1)) + t214)) + 1001))] 30 (0, 0))) ∧ Aside0 (Below w.heap.size w wc))
          case first =>
            have H := HC8.out
            clear HC8
            obtain ⟨bq23, hbq23⟩ : ∃ b_ : Bool, b_ = ((rd_T51 l0 x7_1).f0) := ⟨_, rfl⟩
            replace H : (if (bq23 = true) then (hatstandlaw15_made.j1 k1 l0 a1 x5_1 x6_1 x7_1 t218 x7_1 bq23 ((rd_T51 l0 x7_1).f2) t220 (wrap64 ((wrap64 ((wrap64 (100 * x7_1)) - t212)) + 1000)) (wrap64 ((wrap64 ((wrap64 (100 * x7_1)) + t214)) + 1001))) else (hatstandlaw15_made.j1 k1 l0 a1 x5_1 x6_1 x7_1 t218 x7_1 bq23 t219 t220 (wrap64 ((wrap64 ((wrap64 (100 * x7_1)) - t212)) + 1000)) (wrap64 ((wrap64 ((wrap64 (100 * x7_1)) + t214)) + 1001)))) = some r := by rw [← hbq23] at H; exact H
            have Nbq23 := Aside0.mk hbq23
            clear hbq23
            (try rw [← Nbq23.out])
            by_cases c24 : (bq23 = true)
            · subst c24
              have H1 : (hatstandlaw15_made.j1 k1 l0 a1 x5_1 x6_1 x7_1 t218 x7_1 true ((rd_T51 l0 x7_1).f2) t220 (wrap64 ((wrap64 ((wrap64 (100 * x7_1)) - t212)) + 1000)) (wrap64 ((wrap64 ((wrap64 (100 * x7_1)) + t214)) + 1001))) = some r := by rw [if_pos rfl] at H; exact H
              clear H
              have H := H1
              clear H1
              have H2 : (hatstandlaw15_made.j1 k1 l0 a1 x5_1 x6_1 x7_1 t218 x7_1 ((rd_T51 l0 x7_1).f0) ((rd_T51 l0 x7_1).f2) t220 (wrap64 ((wrap64 ((wrap64 (100 * x7_1)) - t212)) + 1000)) (wrap64 ((wrap64 ((wrap64 (100 * x7_1)) + t214)) + 1001))) = some r := by rw [← Nbq23.out]; exact H
              clear H
              have H := H2
              clear H2
              have H' := Aside0.mk H
              clear H
              go_wp2
              go_meet
              case rel => exact ⟨_, ((rd_T51 l0 x7_1).f2), H', ⟨by have := HK1.out; first | omega | exact Nat.le_refl _⟩, ⟨by (with_reducible repeat (first | apply Kd.R_alloc | apply Kd.R_drewN | apply Kd.R_drew)); exact Kd.R_mono (Kd.R_far (p := ⟨gb215, 3, none⟩) (Kd.R_mono HO_5.out (fun k_ hk => (⟨hk, hk⟩ : _ ∧ k_ ≠ gb215))) (fun _ hk => hk.2) (.int .i64 t220)) (fun _ hk => hk.1)⟩, ⟨by (with_reducible repeat (first | apply Kd.R_alloc | apply Kd.R_drewN | apply Kd.R_drew)); exact Kd.R_mono (Kd.R_far (p := ⟨gb215, 3, none⟩) (Kd.R_types HO_6.out BK215.out (by decide)) (fun _ hk => hk.2) (.int .i64 t220)) (fun _ hk => hk.1.2)⟩, ⟨by (with_reducible repeat (first | apply Kd.R_alloc | apply Kd.R_drewN | apply Kd.R_drew)); exact Kd.R_mono (Kd.R_far (p := ⟨gb215, 3, none⟩) (Kd.R_types HO222.out BK215.out (by decide)) (fun _ hk => hk.2) (.int .i64 t220)) (fun _ hk => hk.1.2)⟩, ⟨by (with_reducible repeat (first | refine blk_drewN ?_ _ | refine blk_drew ?_ | refine blk_alloc ?_ _)); refine blk_put (cs := #[.int .i64 x7_1, .bool ((rd_T51 l0 x7_1).f0), .int .u64 ((rd_T51 l0 x7_1).f2), .int .i64 0, .int .i64 (wrap64 ((wrap64 ((wrap64 (100 * x7_1)) - t212)) + 1000)), .int .i64 (wrap64 ((wrap64 ((wrap64 (100 * x7_1)) + t214)) + 1001))]) ?_ 3 _ rfl; (with_reducible repeat (first | refine blk_drewN ?_ _ | refine blk_drew ?_ | refine blk_alloc ?_ _)); exact BK215.out⟩, ⟨by repeat (first | (with_reducible first | exact HB.out | apply below_alloc | apply pw_below_drewN | apply below_drew1 | refine below_set ?_ GE215.out) | exact HB.out)⟩⟩
            · replace c24 := Bool.eq_false_iff.mpr c24
              subst c24
              have H1 : (hatstandlaw15_made.j1 k1 l0 a1 x5_1 x6_1 x7_1 t218 x7_1 false t219 t220 (wrap64 ((wrap64 ((wrap64 (100 * x7_1)) - t212)) + 1000)) (wrap64 ((wrap64 ((wrap64 (100 * x7_1)) + t214)) + 1001))) = some r := by rw [if_neg (show ¬ (false = true) by decide)] at H; exact H
              clear H
              have H := H1
              clear H1
              have H2 : (hatstandlaw15_made.j1 k1 l0 a1 x5_1 x6_1 x7_1 t218 x7_1 ((rd_T51 l0 x7_1).f0) t219 t220 (wrap64 ((wrap64 ((wrap64 (100 * x7_1)) - t212)) + 1000)) (wrap64 ((wrap64 ((wrap64 (100 * x7_1)) + t214)) + 1001))) = some r := by rw [← Nbq23.out]; exact H
              clear H
              have H := H2
              clear H2
              have H' := Aside0.mk H
              clear H
              have hcz25_0 : w21.cell? ⟨gb215, 0, none⟩ = some (.int .i64 x7_1) := (blk_cell BK215.out 0).trans rfl
              have hcz25_1 : w21.cell? ⟨gb215, 1, none⟩ = some (.bool (false)) := (blk_cell BK215.out 1).trans (by rw [← Nbq23.out]; rfl)
              have hcz25_2 : w21.cell? ⟨gb215, 2, none⟩ = some (.int .u64 ((rd_T51 l0 x7_1).f2)) := (blk_cell BK215.out 2).trans rfl
              have hcz25_3 : w21.cell? ⟨gb215, 3, none⟩ = some (.int .i64 0) := (blk_cell BK215.out 3).trans rfl
              have hcz25_4 : w21.cell? ⟨gb215, 4, none⟩ = some (.int .i64 (wrap64 ((wrap64 ((wrap64 (100 * x7_1)) - t212)) + 1000))) := (blk_cell BK215.out 4).trans rfl
              have hcz25_5 : w21.cell? ⟨gb215, 5, none⟩ = some (.int .i64 (wrap64 ((wrap64 ((wrap64 (100 * x7_1)) + t214)) + 1001))) := (blk_cell BK215.out 5).trans rfl
              have hfz25_0 := blk_frozen BK215.out 0
              have hfz25_1 := blk_frozen BK215.out 1
              have hfz25_2 := blk_frozen BK215.out 2
              have hfz25_3 := blk_frozen BK215.out 3
              have hfz25_4 := blk_frozen BK215.out 4
              have hfz25_5 := blk_frozen BK215.out 5
              go_wp2
              go_meet
              case rel => exact ⟨_, (t219), H', ⟨by have := HK1.out; first | omega | exact Nat.le_refl _⟩, ⟨by (with_reducible repeat (first | apply Kd.R_alloc | apply Kd.R_drewN | apply Kd.R_drew)); exact Kd.R_mono (Kd.R_far (p := ⟨gb215, 2, none⟩) (Kd.R_far (p := ⟨gb215, 3, none⟩) (Kd.R_mono HO_5.out (fun k_ hk => (⟨hk, hk⟩ : _ ∧ k_ ≠ gb215))) (fun _ hk => hk.2) (.int .i64 t220)) (fun _ hk => hk.2) (.int .u64 t219)) (fun _ hk => hk.1)⟩, ⟨by (with_reducible repeat (first | apply Kd.R_alloc | apply Kd.R_drewN | apply Kd.R_drew)); exact Kd.R_mono (Kd.R_far (p := ⟨gb215, 2, none⟩) (Kd.R_far (p := ⟨gb215, 3, none⟩) (Kd.R_types HO_6.out BK215.out (by decide)) (fun _ hk => hk.2) (.int .i64 t220)) (fun _ hk => hk.2) (.int .u64 t219)) (fun _ hk => hk.1.2)⟩, ⟨by (with_reducible repeat (first | apply Kd.R_alloc | apply Kd.R_drewN | apply Kd.R_drew)); exact Kd.R_mono (Kd.R_far (p := ⟨gb215, 2, none⟩) (Kd.R_far (p := ⟨gb215, 3, none⟩) (Kd.R_types HO222.out BK215.out (by decide)) (fun _ hk => hk.2) (.int .i64 t220)) (fun _ hk => hk.2) (.int .u64 t219)) (fun _ hk => hk.1.2)⟩, ⟨by (with_reducible repeat (first | refine blk_drewN ?_ _ | refine blk_drew ?_ | refine blk_alloc ?_ _)); refine blk_put (cs := #[.int .i64 x7_1, .bool ((rd_T51 l0 x7_1).f0), .int .u64 ((rd_T51 l0 x7_1).f2), .int .i64 t220, .int .i64 (wrap64 ((wrap64 ((wrap64 (100 * x7_1)) - t212)) + 1000)), .int .i64 (wrap64 ((wrap64 ((wrap64 (100 * x7_1)) + t214)) + 1001))]) ?_ 2 _ rfl; (with_reducible repeat (first | refine blk_drewN ?_ _ | refine blk_drew ?_ | refine blk_alloc ?_ _)); refine blk_put (cs := #[.int .i64 x7_1, .bool ((rd_T51 l0 x7_1).f0), .int .u64 ((rd_T51 l0 x7_1).f2), .int .i64 0, .int .i64 (wrap64 ((wrap64 ((wrap64 (100 * x7_1)) - t212)) + 1000)), .int .i64 (wrap64 ((wrap64 ((wrap64 (100 * x7_1)) + t214)) + 1001))]) ?_ 3 _ rfl; (with_reducible repeat (first | refine blk_drewN ?_ _ | refine blk_drew ?_ | refine blk_alloc ?_ _)); exact BK215.out⟩, ⟨by repeat (first | (with_reducible first | exact HB.out | apply below_alloc | apply pw_below_drewN | apply below_drew1 | refine below_set ?_ GE215.out) | exact HB.out)⟩⟩
          case rest =>
            clear HC8
            try clear c1
            try clear c2
            try clear p2
            try clear q2
            try clear hx2
            try clear p6
            try clear c10
            try clear c20
            try clear p21
            try clear q21
            try clear hx21
            try clear q23
            try clear c24
            try clear hcz22_0
            try clear hcz22_1
            try clear hcz22_2
            try clear hcz22_3
            try clear hcz22_4
            try clear hcz22_5
            try clear hcz25_0
            try clear hcz25_1
            try clear hcz25_2
            try clear hcz25_3
            try clear hcz25_4
            try clear hcz25_5
            try clear hfz22_0
            try clear hfz22_1
            try clear hfz22_2
            try clear hfz22_3
            try clear hfz22_4
            try clear hfz22_5
            try clear hfz25_0
            try clear hfz25_1
            try clear hfz25_2
            try clear hfz25_3
            try clear hfz25_4
            try clear hfz25_5
            try clear hx216_0
            try clear hx216_1
            try clear hx216_2
            try clear hx216_3
            try clear hx217_0
            try clear hx217_1
            try clear hx217_2
            try clear hx217_3
            try clear p216
            try clear p217
            try clear q216
            try clear q217
            obtain ⟨kq, x216002_7, HA, HJ7, HO_5, HO_6, HO_9, BK215, HB⟩ := hcut
            cases kq with
            | zero => exact absurd HA.out (by simp [hatstandlaw15_made.j1])
            | succ kj7 =>
              have H := HA.out
              clear HA
              simp only [hatstandlaw15_made.j1] at H
              by_cases c26 : 0 ≤ x7_1
              · rw [if_pos c26] at H
                have c26b0 : decide (0 ≤ x7_1) = true := decide_eq_true c26
                clear c26
                by_cases c27 : x7_1 < (l0.length : Int)
                · rw [if_pos c27] at H
                  have c27b0 : decide (x7_1 < (l0.length : Int)) = true := decide_eq_true c27
                  clear c27
                  obtain ⟨bq28, hbq28⟩ : ∃ b_ : Bool, b_ = ((rd_T51 l0 x7_1).f1) := ⟨_, rfl⟩
                  replace H : (if bq28 = true then (if x5_1.length < 2932031007402 then (hatstandlaw15_made.l0 kj7 l0 a1 (x5_1 ++ [(⟨x7_1, ((rd_T51 l0 x7_1).f0), x216002_7, 6, (wrap64 ((wrap64 ((wrap64 (100 * x7_1)) - t212)) + 1000)), (wrap64 ((wrap64 ((wrap64 (100 * x7_1)) + t214)) + 1001))⟩ : S30)]) x6_1 (wrap64 (x7_1 + 1))) else (none)) else (if x5_1.length < 2932031007402 then (hatstandlaw15_made.l0 kj7 l0 a1 (x5_1 ++ [(⟨x7_1, ((rd_T51 l0 x7_1).f0), x216002_7, t220, (wrap64 ((wrap64 ((wrap64 (100 * x7_1)) - t212)) + 1000)), (wrap64 ((wrap64 ((wrap64 (100 * x7_1)) + t214)) + 1001))⟩ : S30)]) t218 (wrap64 (x7_1 + 1))) else (none))) = some r := by rw [← hbq28] at H; exact H
                  have Nbq28 := Aside0.mk hbq28
                  clear hbq28
                  by_cases c29 : bq28 = true
                  · subst c29
                    have H1 : (if x5_1.length < 2932031007402 then (hatstandlaw15_made.l0 kj7 l0 a1 (x5_1 ++ [(⟨x7_1, ((rd_T51 l0 x7_1).f0), x216002_7, 6, (wrap64 ((wrap64 ((wrap64 (100 * x7_1)) - t212)) + 1000)), (wrap64 ((wrap64 ((wrap64 (100 * x7_1)) + t214)) + 1001))⟩ : S30)]) x6_1 (wrap64 (x7_1 + 1))) else (none)) = some r := by rw [if_pos rfl] at H; exact H
                    clear H
                    have H := H1
                    clear H1
                    by_cases c30 : x5_1.length < 2932031007402
                    · rw [if_pos c30] at H
                      have LMc30 := Aside0.mk c30
                      clear c30
                      obtain ⟨y224, hy224⟩ : ∃ y_ : List (S30), y_ = (x5_1 ++ [(⟨x7_1, ((rd_T51 l0 x7_1).f0), x216002_7, 6, (wrap64 ((wrap64 ((wrap64 (100 * x7_1)) - t212)) + 1000)), (wrap64 ((wrap64 ((wrap64 (100 * x7_1)) + t214)) + 1001))⟩ : S30)]) := ⟨_, rfl⟩
                      replace H : (hatstandlaw15_made.l0 kj7 l0 a1 y224 x6_1 (wrap64 (x7_1 + 1))) = some r := by first | (rw [hy224]; with_reducible exact H) | (have H2_ := (Option.bind_some _ _).symm.trans H; rw [hy224]; with_reducible exact H2_) | (have H2_ := (Option.bind_some _ _).symm.trans H; with_reducible exact H2_) | with_reducible exact H | (rw [hy224]; exact H) | exact H
                      have Ny224 := Aside0.mk hy224
                      clear hy224
                      have H' := Aside0.mk H
                      clear H
                      have p223 : 0 ≤ (x7_1 : Int) := of_decide_eq_true (by first | (with_reducible assumption) | assumption)
                      have q223 : x7_1 < (l0.length : Int) := of_decide_eq_true (by first | (with_reducible assumption) | assumption)
                      obtain ⟨ad223, e223, hx223_0, hx223_1, hx223_2, hx223_3⟩ := at_T51 HR0.out x7_1 p223 q223
                      (try rw [← Nbq28.out] at hx223_0)
                      (try rw [← Nbq28.out] at hw223_0)
                      (try rw [← Nbq28.out] at hx223_1)
                      (try rw [← Nbq28.out] at hw223_1)
                      obtain rfl : ad209 = ad223 := (by injection e223)
                      replace hx223_0 := (HB.out.cell (World.block_lt_of_cell? w _ hx223_0)).trans hx223_0
                      replace hx223_1 := (HB.out.cell (World.block_lt_of_cell? w _ hx223_1)).trans hx223_1
                      replace hx223_2 := (HB.out.cell (World.block_lt_of_cell? w _ hx223_2)).trans hx223_2
                      replace hx223_3 := (HB.out.cell (World.block_lt_of_cell? w _ hx223_3)).trans hx223_3
                      replace p223 := eq_true p223
                      replace q223 := eq_true q223
                      have hcz31_0 : wc.cell? ⟨gb215, 0, none⟩ = some (.int .i64 x7_1) := (blk_cell BK215.out 0).trans rfl
                      have hcz31_1 : wc.cell? ⟨gb215, 1, none⟩ = some (.bool ((rd_T51 l0 x7_1).f0)) := (blk_cell BK215.out 1).trans rfl
                      have hcz31_2 : wc.cell? ⟨gb215, 2, none⟩ = some (.int .u64 x216002_7) := (blk_cell BK215.out 2).trans rfl
                      have hcz31_3 : wc.cell? ⟨gb215, 3, none⟩ = some (.int .i64 t220) := (blk_cell BK215.out 3).trans rfl
                      have hcz31_4 : wc.cell? ⟨gb215, 4, none⟩ = some (.int .i64 (wrap64 ((wrap64 ((wrap64 (100 * x7_1)) - t212)) + 1000))) := (blk_cell BK215.out 4).trans rfl
                      have hcz31_5 : wc.cell? ⟨gb215, 5, none⟩ = some (.int .i64 (wrap64 ((wrap64 ((wrap64 (100 * x7_1)) + t214)) + 1001))) := (blk_cell BK215.out 5).trans rfl
                      have hfz31_0 := blk_frozen BK215.out 0
                      have hfz31_1 := blk_frozen BK215.out 1
                      have hfz31_2 := blk_frozen BK215.out 2
                      have hfz31_3 := blk_frozen BK215.out 3
                      have hfz31_4 := blk_frozen BK215.out 4
                      have hfz31_5 := blk_frozen BK215.out 5
                      go_wp2_with (first | ((with_reducible refine gate_builtin (b := .append) (xs := #[.tmp 83, .tmp 85]) rfl ?_); at_builtin; refine Kd.R_append k30 (w0 := w) w.heap.size rfl (.tmp 83) (.tmp 85) 25 30 (.agg #[(.int .i64 0), (.bool false), (.int .u64 0), (.int .i64 0), (.int .i64 0), (.int .i64 0)]) 48 rfl Try.underlying25 info30 rfl (by decide) (by omega) u5 x5_1 (⟨x7_1, ((rd_T51 l0 x7_1).f0), x216002_7, 6, (wrap64 ((wrap64 ((wrap64 (100 * x7_1)) - t212)) + 1000)), (wrap64 ((wrap64 ((wrap64 (100 * x7_1)) + t214)) + 1001))⟩ : S30) [.int .i64 x7_1, .bool ((rd_T51 l0 x7_1).f0), .int .u64 x216002_7, .int .i64 6, .int .i64 (wrap64 ((wrap64 ((wrap64 (100 * x7_1)) - t212)) + 1000)), .int .i64 (wrap64 ((wrap64 ((wrap64 (100 * x7_1)) + t214)) + 1001))] (fun k_ => k_ ≠ gb215) (fun _ => False) rfl (by first | (go_simp; done) | (go_simp; rfl)) ?aP (fun _ hk => hk.elim) ?aF ?aO ?aB ?aS ?aL ?_; (case aP => exact k30_mkM _ _ _ (⟨x7_1, ((rd_T51 l0 x7_1).f0), x216002_7, 6, (wrap64 ((wrap64 ((wrap64 (100 * x7_1)) - t212)) + 1000)), (wrap64 ((wrap64 ((wrap64 (100 * x7_1)) + t214)) + 1001))⟩ : S30)); (case aB => exact (by repeat (first | (with_reducible first | exact HB.out | apply below_alloc | apply pw_below_drewN | apply below_drew1 | refine below_set ?_ GE215.out) | exact HB.out))); (case aF => exact (fun k_ hk => Kd.freshB (g := gb215) (o := .cells #[.int .i64 x7_1, .bool ((rd_T51 l0 x7_1).f0), .int .u64 x216002_7, .int .i64 6, .int .i64 (wrap64 ((wrap64 ((wrap64 (100 * x7_1)) - t212)) + 1000)), .int .i64 (wrap64 ((wrap64 ((wrap64 (100 * x7_1)) + t214)) + 1001))] 30 (0, 0)) (by (with_reducible repeat (first | refine blk_drewN ?_ _ | refine blk_drew ?_ | refine blk_alloc ?_ _)); refine blk_put (cs := #[.int .i64 x7_1, .bool ((rd_T51 l0 x7_1).f0), .int .u64 x216002_7, .int .i64 t220, .int .i64 (wrap64 ((wrap64 ((wrap64 (100 * x7_1)) - t212)) + 1000)), .int .i64 (wrap64 ((wrap64 ((wrap64 (100 * x7_1)) + t214)) + 1001))]) ?_ 3 _ rfl; (with_reducible repeat (first | refine blk_drewN ?_ _ | refine blk_drew ?_ | refine blk_alloc ?_ _)); exact BK215.out) k_ hk)); (case aO => exact (by (with_reducible repeat (first | apply Kd.R_alloc | apply Kd.R_drewN | apply Kd.R_drew)); exact Kd.R_mono (Kd.R_far (p := ⟨gb215, 3, none⟩) (Kd.R_mono HO_5.out (fun k_ hk => (⟨hk, hk⟩ : _ ∧ k_ ≠ gb215))) (fun _ hk => hk.2) (.int .i64 6)) (fun _ hk => hk.1))); (case aS => exact (below_size (by repeat (first | (with_reducible first | exact HB.out | apply below_alloc | apply pw_below_drewN | apply below_drew1 | refine below_set ?_ GE215.out) | exact HB.out)))); (case aL => have := LMc30.out; omega); intro v225 w32 ho hb hg hat; rw [← Ny224.out] at ho; have n0_ := Aside0.mk (Kd.R_over' (by (with_reducible repeat (first | apply Kd.R_alloc | apply Kd.R_drewN | apply Kd.R_drew)); exact (Kd.R_mono (Kd.R_far (p := ⟨gb215, 3, none⟩) (Kd.R_types HO_6.out BK215.out (by decide)) (fun _ hk => hk.2) (.int .i64 6)) (fun _ h_ => h_.1))) (Kd.R_typed (by (with_reducible repeat (first | apply Kd.R_alloc | apply Kd.R_drewN | apply Kd.R_drew)); exact (Kd.R_mono (Kd.R_far (p := ⟨gb215, 3, none⟩) (Kd.R_mono HO_5.out (fun k_ hk => (⟨hk, hk⟩ : _ ∧ k_ ≠ gb215))) (fun _ hk => hk.2) (.int .i64 6)) (fun _ h_ => h_.1)))) (by decide) hg); have n1_ := Aside0.mk (Kd.R_over' (by (with_reducible repeat (first | apply Kd.R_alloc | apply Kd.R_drewN | apply Kd.R_drew)); exact (Kd.R_mono (Kd.R_far (p := ⟨gb215, 3, none⟩) (Kd.R_types HO_9.out BK215.out (by decide)) (fun _ hk => hk.2) (.int .i64 6)) (fun _ h_ => h_.1))) (Kd.R_typed (by (with_reducible repeat (first | apply Kd.R_alloc | apply Kd.R_drewN | apply Kd.R_drew)); exact (Kd.R_mono (Kd.R_far (p := ⟨gb215, 3, none⟩) (Kd.R_mono HO_5.out (fun k_ hk => (⟨hk, hk⟩ : _ ∧ k_ ≠ gb215))) (fun _ hk => hk.2) (.int .i64 6)) (fun _ h_ => h_.1)))) (by decide) hg); have n2_ := Aside0.mk (blk_grown (g := gb215) (o := .cells #[.int .i64 x7_1, .bool ((rd_T51 l0 x7_1).f0), .int .u64 x216002_7, .int .i64 6, .int .i64 (wrap64 ((wrap64 ((wrap64 (100 * x7_1)) - t212)) + 1000)), .int .i64 (wrap64 ((wrap64 ((wrap64 (100 * x7_1)) + t214)) + 1001))] 30 (0, 0)) (by (with_reducible repeat (first | refine blk_drewN ?_ _ | refine blk_drew ?_ | refine blk_alloc ?_ _)); refine blk_put (cs := #[.int .i64 x7_1, .bool ((rd_T51 l0 x7_1).f0), .int .u64 x216002_7, .int .i64 t220, .int .i64 (wrap64 ((wrap64 ((wrap64 (100 * x7_1)) - t212)) + 1000)), .int .i64 (wrap64 ((wrap64 ((wrap64 (100 * x7_1)) + t214)) + 1001))]) ?_ 3 _ rfl; (with_reducible repeat (first | refine blk_drewN ?_ _ | refine blk_drew ?_ | refine blk_alloc ?_ _)); exact BK215.out) hg (Kd.R_away HO_5.out (fun _ hk => hk))); have n3_ := Aside0.mk (hb); have n4_ := Aside0.mk (ho); clear HO_6; clear HO_9; clear BK215; clear HB; clear HO_5; have HO_6 := n0_; have HO_9 := n1_; have BK215 := n2_; have HB := n3_; have HO226 := n4_; clear n0_ n1_ n2_ n3_ n4_; clear ho hb hg hat))
                      go_roundg kj7
                      case measure => have := HK1.out; have := HJ7.out; omega
                      case rel => exact ⟨(y224), (x6_1), (wrap64 (x7_1 + 1)), (by first | rfl | (simp; done) | (simp [*]; done)), H', ⟨by have := HK1.out; have := HJ7.out; omega⟩, ⟨by (with_reducible repeat (first | apply Kd.R_alloc | apply Kd.R_drewN | apply Kd.R_drew)); exact Kd.R_mono HO226.out (fun _ hk => trivial)⟩, ⟨by (with_reducible repeat (first | apply Kd.R_alloc | apply Kd.R_drewN | apply Kd.R_drew)); exact Kd.R_mono HO_6.out (fun _ hk => trivial)⟩, ⟨by repeat (first | (with_reducible first | exact HB.out | apply below_alloc | apply pw_below_drewN | apply below_drew1 | refine below_set ?_ GE215.out) | exact HB.out)⟩⟩
                    · rw [if_neg c30] at H
                      exact absurd H (by simp)
                  · replace c29 := Bool.eq_false_iff.mpr c29
                    subst c29
                    have H1 : (if x5_1.length < 2932031007402 then (hatstandlaw15_made.l0 kj7 l0 a1 (x5_1 ++ [(⟨x7_1, ((rd_T51 l0 x7_1).f0), x216002_7, t220, (wrap64 ((wrap64 ((wrap64 (100 * x7_1)) - t212)) + 1000)), (wrap64 ((wrap64 ((wrap64 (100 * x7_1)) + t214)) + 1001))⟩ : S30)]) t218 (wrap64 (x7_1 + 1))) else (none)) = some r := by rw [if_neg (show ¬ (false = true) by decide)] at H; exact H
                    clear H
                    have H := H1
                    clear H1
                    by_cases c33 : x5_1.length < 2932031007402
                    · rw [if_pos c33] at H
                      have LMc33 := Aside0.mk c33
                      clear c33
                      obtain ⟨y227, hy227⟩ : ∃ y_ : List (S30), y_ = (x5_1 ++ [(⟨x7_1, ((rd_T51 l0 x7_1).f0), x216002_7, t220, (wrap64 ((wrap64 ((wrap64 (100 * x7_1)) - t212)) + 1000)), (wrap64 ((wrap64 ((wrap64 (100 * x7_1)) + t214)) + 1001))⟩ : S30)]) := ⟨_, rfl⟩
                      replace H : (hatstandlaw15_made.l0 kj7 l0 a1 y227 t218 (wrap64 (x7_1 + 1))) = some r := by first | (rw [hy227]; with_reducible exact H) | (have H2_ := (Option.bind_some _ _).symm.trans H; rw [hy227]; with_reducible exact H2_) | (have H2_ := (Option.bind_some _ _).symm.trans H; with_reducible exact H2_) | with_reducible exact H | (rw [hy227]; exact H) | exact H
                      have Ny227 := Aside0.mk hy227
                      clear hy227
                      have H' := Aside0.mk H
                      clear H
                      have p223 : 0 ≤ (x7_1 : Int) := of_decide_eq_true (by first | (with_reducible assumption) | assumption)
                      have q223 : x7_1 < (l0.length : Int) := of_decide_eq_true (by first | (with_reducible assumption) | assumption)
                      obtain ⟨ad223, e223, hx223_0, hx223_1, hx223_2, hx223_3⟩ := at_T51 HR0.out x7_1 p223 q223
                      (try rw [← Nbq28.out] at hx223_0)
                      (try rw [← Nbq28.out] at hw223_0)
                      (try rw [← Nbq28.out] at hx223_1)
                      (try rw [← Nbq28.out] at hw223_1)
                      obtain rfl : ad209 = ad223 := (by injection e223)
                      replace hx223_0 := (HB.out.cell (World.block_lt_of_cell? w _ hx223_0)).trans hx223_0
                      replace hx223_1 := (HB.out.cell (World.block_lt_of_cell? w _ hx223_1)).trans hx223_1
                      replace hx223_2 := (HB.out.cell (World.block_lt_of_cell? w _ hx223_2)).trans hx223_2
                      replace hx223_3 := (HB.out.cell (World.block_lt_of_cell? w _ hx223_3)).trans hx223_3
                      replace p223 := eq_true p223
                      replace q223 := eq_true q223
                      have hcz34_0 : wc.cell? ⟨gb215, 0, none⟩ = some (.int .i64 x7_1) := (blk_cell BK215.out 0).trans rfl
                      have hcz34_1 : wc.cell? ⟨gb215, 1, none⟩ = some (.bool ((rd_T51 l0 x7_1).f0)) := (blk_cell BK215.out 1).trans rfl
                      have hcz34_2 : wc.cell? ⟨gb215, 2, none⟩ = some (.int .u64 x216002_7) := (blk_cell BK215.out 2).trans rfl
                      have hcz34_3 : wc.cell? ⟨gb215, 3, none⟩ = some (.int .i64 t220) := (blk_cell BK215.out 3).trans rfl
                      have hcz34_4 : wc.cell? ⟨gb215, 4, none⟩ = some (.int .i64 (wrap64 ((wrap64 ((wrap64 (100 * x7_1)) - t212)) + 1000))) := (blk_cell BK215.out 4).trans rfl
                      have hcz34_5 : wc.cell? ⟨gb215, 5, none⟩ = some (.int .i64 (wrap64 ((wrap64 ((wrap64 (100 * x7_1)) + t214)) + 1001))) := (blk_cell BK215.out 5).trans rfl
                      have hfz34_0 := blk_frozen BK215.out 0
                      have hfz34_1 := blk_frozen BK215.out 1
                      have hfz34_2 := blk_frozen BK215.out 2
                      have hfz34_3 := blk_frozen BK215.out 3
                      have hfz34_4 := blk_frozen BK215.out 4
                      have hfz34_5 := blk_frozen BK215.out 5
                      go_wp2_with (first | ((with_reducible refine gate_builtin (b := .append) (xs := #[.tmp 83, .tmp 85]) rfl ?_); at_builtin; refine Kd.R_append k30 (w0 := w) w.heap.size rfl (.tmp 83) (.tmp 85) 25 30 (.agg #[(.int .i64 0), (.bool false), (.int .u64 0), (.int .i64 0), (.int .i64 0), (.int .i64 0)]) 48 rfl Try.underlying25 info30 rfl (by decide) (by omega) u5 x5_1 (⟨x7_1, ((rd_T51 l0 x7_1).f0), x216002_7, t220, (wrap64 ((wrap64 ((wrap64 (100 * x7_1)) - t212)) + 1000)), (wrap64 ((wrap64 ((wrap64 (100 * x7_1)) + t214)) + 1001))⟩ : S30) [.int .i64 x7_1, .bool ((rd_T51 l0 x7_1).f0), .int .u64 x216002_7, .int .i64 t220, .int .i64 (wrap64 ((wrap64 ((wrap64 (100 * x7_1)) - t212)) + 1000)), .int .i64 (wrap64 ((wrap64 ((wrap64 (100 * x7_1)) + t214)) + 1001))] (fun k_ => k_ ≠ gb215) (fun _ => False) rfl rfl ?aP (fun _ hk => hk.elim) ?aF ?aO ?aB ?aS ?aL ?_; (case aP => exact k30_mkM _ _ _ (⟨x7_1, ((rd_T51 l0 x7_1).f0), x216002_7, t220, (wrap64 ((wrap64 ((wrap64 (100 * x7_1)) - t212)) + 1000)), (wrap64 ((wrap64 ((wrap64 (100 * x7_1)) + t214)) + 1001))⟩ : S30)); (case aB => exact (by repeat (first | (with_reducible first | exact HB.out | apply below_alloc | apply pw_below_drewN | apply below_drew1 | refine below_set ?_ GE215.out) | exact HB.out))); (case aF => exact (fun k_ hk => Kd.freshB (g := gb215) (o := .cells #[.int .i64 x7_1, .bool ((rd_T51 l0 x7_1).f0), .int .u64 x216002_7, .int .i64 t220, .int .i64 (wrap64 ((wrap64 ((wrap64 (100 * x7_1)) - t212)) + 1000)), .int .i64 (wrap64 ((wrap64 ((wrap64 (100 * x7_1)) + t214)) + 1001))] 30 (0, 0)) (by (with_reducible repeat (first | refine blk_drewN ?_ _ | refine blk_drew ?_ | refine blk_alloc ?_ _)); exact BK215.out) k_ hk)); (case aO => exact (by (with_reducible repeat (first | apply Kd.R_alloc | apply Kd.R_drewN | apply Kd.R_drew)); exact HO_5.out)); (case aS => exact (below_size (by repeat (first | (with_reducible first | exact HB.out | apply below_alloc | apply pw_below_drewN | apply below_drew1 | refine below_set ?_ GE215.out) | exact HB.out)))); (case aL => have := LMc33.out; omega); intro v228 w35 ho hb hg hat; rw [← Ny227.out] at ho; have n0_ := Aside0.mk (Kd.R_over' (by (with_reducible repeat (first | apply Kd.R_alloc | apply Kd.R_drewN | apply Kd.R_drew)); exact HO_6.out) (Kd.R_typed (by (with_reducible repeat (first | apply Kd.R_alloc | apply Kd.R_drewN | apply Kd.R_drew)); exact HO_5.out)) (by decide) hg); have n1_ := Aside0.mk (Kd.R_over' (by (with_reducible repeat (first | apply Kd.R_alloc | apply Kd.R_drewN | apply Kd.R_drew)); exact HO_9.out) (Kd.R_typed (by (with_reducible repeat (first | apply Kd.R_alloc | apply Kd.R_drewN | apply Kd.R_drew)); exact HO_5.out)) (by decide) hg); have n2_ := Aside0.mk (blk_grown (g := gb215) (o := .cells #[.int .i64 x7_1, .bool ((rd_T51 l0 x7_1).f0), .int .u64 x216002_7, .int .i64 t220, .int .i64 (wrap64 ((wrap64 ((wrap64 (100 * x7_1)) - t212)) + 1000)), .int .i64 (wrap64 ((wrap64 ((wrap64 (100 * x7_1)) + t214)) + 1001))] 30 (0, 0)) (by (with_reducible repeat (first | refine blk_drewN ?_ _ | refine blk_drew ?_ | refine blk_alloc ?_ _)); exact BK215.out) hg (Kd.R_away HO_5.out (fun _ hk => hk))); have n3_ := Aside0.mk (hb); have n4_ := Aside0.mk (ho); clear HO_6; clear HO_9; clear BK215; clear HB; clear HO_5; have HO_6 := n0_; have HO_9 := n1_; have BK215 := n2_; have HB := n3_; have HO229 := n4_; clear n0_ n1_ n2_ n3_ n4_; clear ho hb hg hat))
                      go_roundg kj7
                      case measure => have := HK1.out; have := HJ7.out; omega
                      case rel => exact ⟨(y227), (t218), (wrap64 (x7_1 + 1)), (by first | rfl | (simp; done) | (simp [*]; done)), H', ⟨by have := HK1.out; have := HJ7.out; omega⟩, ⟨by (with_reducible repeat (first | apply Kd.R_alloc | apply Kd.R_drewN | apply Kd.R_drew)); exact Kd.R_mono HO229.out (fun _ hk => trivial)⟩, ⟨by (with_reducible repeat (first | apply Kd.R_alloc | apply Kd.R_drewN | apply Kd.R_drew)); exact Kd.R_mono HO_9.out (fun _ hk => trivial)⟩, ⟨by repeat (first | (with_reducible first | exact HB.out | apply below_alloc | apply pw_below_drewN | apply below_drew1 | refine below_set ?_ GE215.out) | exact HB.out)⟩⟩
                    · rw [if_neg c33] at H
                      exact absurd H (by simp)
                · rw [if_neg c27] at H
                  exact absurd H (by simp)
              · rw [if_neg c26] at H
                exact absurd H (by simp)
        · rw [if_neg c4] at H
          exact absurd H (by simp)
      · rw [if_neg c3] at H
        have c3b0 : decide (x7_1 < (l0.length : Int)) = false := decide_eq_false c3
        clear c3
        obtain rfl := Option.some.inj H
        go_wp2
        go_ret
        exact ⟨_, by first | rfl | (simp [errW_none, errW_some] <;> rfl) | (simp [*, errW_none, errW_some] <;> rfl), by (with_reducible repeat (first | apply Kd.R_alloc | apply Kd.R_drewN | apply Kd.R_drew)); exact HO_5.out, by repeat (first | (with_reducible first | exact HB.out | apply below_alloc | apply pw_below_drewN | apply below_drew1) | exact HB.out)⟩

end Go.Proofs.Ytdcnnphgcapiaaa.P
