/- Walks, written by a program for this claim: each Go function that the laws reach comes to what its Lean function says. -/
import Derived.Test.YtdcnnphgcapiaaaPx0
namespace Go.Proofs.Ytdcnnphgcapiaaa.P
open Go.RowKit Go.Proofs.YtdcnnphgcapiaaaW.PrintWords Go.Proofs.YtdcnnphgcapiaaaW.PrintLast Go.Proofs.YtdcnnphgcapiaaaW.PrintMore
attribute [local go_sem] max2_int min2_int max_two min_two max_three min_three max_four min_four   -- for this text's walks alone
set_option linter.unusedVariables false
set_option linter.unusedSimpArgs false

/-! ### hatstandlaw15_as: function 18 -/
def hatstandlaw15_as.l0 : Nat → List (S30) → List (S65) → Int → Option ((List (S65)))
  | 0, _, _, _ => none
  | k + 1, x0, x3, x4 => if x4 < (x0.length : Int) then (if 0 ≤ x4 then (if x3.length < 2932031007402 then (hatstandlaw15_as.l0 k x0 (x3 ++ [(⟨(rd_T30 x0 x4).f0, (rd_T30 x0 x4).f1, (rd_T30 x0 x4).f2, (rd_T30 x0 x4).f3, (rd_T30 x0 x4).f4, (rd_T30 x0 x4).f5⟩ : S65)]) (wrap64 (x4 + 1))) else (none)) else (none)) else (some x3)
def hatstandlaw15_as.f (k : Nat) (l0 : List (S30)) : Option ((List (S65))) := hatstandlaw15_as.l0 k l0 ([] : List (S65)) 0
theorem hatstandlaw15_as.mono_l : ∀ k, (∀ y0 y1 y2, LeO (hatstandlaw15_as.l0 k y0 y1 y2) (hatstandlaw15_as.l0 (k + 1) y0 y1 y2))
  | 0 => fun _ _ _ r h => by simp [hatstandlaw15_as.l0] at h
  | k + 1 => by
    have ih0 := hatstandlaw15_as.mono_l k
    · intro y0 y1 y2
      unfold hatstandlaw15_as.l0
      repeat' first
      | (with_reducible exact ih0 _ _ _)
      | (with_reducible exact LeO.refl _)
      | (with_reducible exact LeO.none _)
      | (with_reducible refine LeO.ite ?_ ?_)
      | (with_reducible refine LeO.bind ?_ (fun _ => ?_))
      | exact ih0 _ _ _
      | exact LeO.none _
      | refine LeO.ite ?_ ?_
      | refine LeO.bind ?_ (fun _ => ?_)
theorem hatstandlaw15_as.mono : ∀ a0 k, LeO (hatstandlaw15_as.f k a0) (hatstandlaw15_as.f (k + 1) a0) := by
  intro a0 k
  have ih0 := hatstandlaw15_as.mono_l k
  unfold hatstandlaw15_as.f
  repeat' first
      | (with_reducible exact ih0 _ _ _)
      | (with_reducible exact LeO.refl _)
      | (with_reducible exact LeO.none _)
      | (with_reducible refine LeO.ite ?_ ?_)
      | (with_reducible refine LeO.bind ?_ (fun _ => ?_))
      | exact ih0 _ _ _
      | exact LeO.none _
      | refine LeO.ite ?_ ?_
      | refine LeO.bind ?_ (fun _ => ?_)
def hatstandlaw15_as.T5 : Bool × List (List Nat × List Nat) := (true, [([], []), ([], []), ([], []), ([1, 2], [1, 2]), ([3], [3]), ([4], [4]), ([], []), ([], []), ([6, 7], [6, 7]), ([8], [8]), ([9], [9]), ([], []), ([], []), ([11, 12], [11, 12]), ([13], [13]), ([14], [14]), ([], []), ([], []), ([16, 17], [16, 17]), ([18], [18]), ([19], [19]), ([], []), ([], []), ([21, 22], [21, 22]), ([23], [23]), ([24], [24]), ([], []), ([], []), ([26, 27], [26, 27]), ([28], [28]), ([29], [29]), ([5, 10, 15, 20, 25, 30], [5, 10, 15, 20, 25, 30]), ([31], [31]), ([0, 32], [0, 32]), ([33, 33, 0, 1, 2, 3, 4, 5, 6, 7, 8, 9, 10, 11, 12, 13, 14, 15, 16, 17, 18, 19, 20, 21, 22, 23, 24, 25, 26, 27, 28, 29, 30, 31, 32, 33], [0, 33])])
def hatstandlaw15_as.B5 : List Nat := [0, 0, 0, 6, 14, 30, 0, 0, 192, 448, 960, 0, 0, 6144, 14336, 30720, 0, 0, 196608, 458752, 983040, 0, 0, 6291456, 14680064, 31457280, 0, 0, 201326592, 469762048, 1006632960, 2147483646, 4294967294, 8589934591, 17179869183]
theorem hatstandlaw15_as.tab5 : rtab .any (opsOf Try.f18 5) = hatstandlaw15_as.T5 := by kernel_rfl
theorem hatstandlaw15_as.bits5 : waitsOk hatstandlaw15_as.T5.2 hatstandlaw15_as.B5 = true := by kernel_rfl
set_option maxHeartbeats 8000000 in
set_option maxRecDepth 100000 in
theorem hatstandlaw15_as.calls (k : Nat) (A0 : Option Addr) (c0 : Nat) (l0 : List (S30)) (r : List (S65)) (w : World) (hr0 : Kd.C k30 w A0 l0.length l0) (hc0 : l0.length ≤ c0) (h : hatstandlaw15_as.f k l0 = some r) :
    Calls Try.prog 18 #[.slice A0 l0.length c0] w fun e w' => ∃ v0_ : Value, e = .returned (v0_) ∧ Kd.R k65 65 w' w.heap.size (fun _ => True) v0_ r ∧ Below w.heap.size w w' := by
  have hu65 := Try.underlying65
  have HR0 := Aside0.mk hr0
  have HC0 := Aside0.mk hc0
  clear hr0 hc0
  have HB := Aside0.mk (Below.refl w.heap.size w)
  have H : (hatstandlaw15_as.l0 k l0 ([] : List (S65)) 0) = some r := h
  clear h
  have H' := Aside0.mk H
  clear H
  go_enter Try.func18, Try.ntmps18
  go_wp2
  go_loopg [3, 4] k (fun kq v3 v4 w' => ∃ (x3_1 : List (S65)) (x4_1 : Int), v4 = .int .i64 x4_1 ∧ Aside0 (hatstandlaw15_as.l0 kq l0 x3_1 x4_1 = some r) ∧ Aside0 (kq ≤ k) ∧ Aside0 (Kd.R k65 65 w' w.heap.size (fun _ => True) v3 x3_1) ∧ Aside0 (Below w.heap.size w w'))
  case atStart => exact ⟨(([] : List (S65))), (0), (by first | rfl | (simp; done) | (simp [*]; done)), H', ⟨Nat.le_refl _⟩, ⟨by first | exact Kd.R_nil _ _ _ _ _ | exact Kd.N_nil _ _ _ _ _ | exact Kd.V_nil _ _ _ _ _ | exact Kd.Q_nil _ _ _ _ _ | exact Kd.S_nil _ _ _ _ _⟩, ⟨by repeat (first | (with_reducible first | exact HB.out | apply below_alloc | apply pw_below_drewN | apply below_drew1) | exact HB.out)⟩⟩
  case round =>
    clear H'
    try clear c1
    obtain ⟨x3_1, x4_1, rfl, HA, HK1, HO_3, HB⟩ := hrel
    cases gk with
    | zero => exact absurd HA.out (by simp [hatstandlaw15_as.l0])
    | succ k1 =>
      have H := HA.out
      clear HA
      simp only [hatstandlaw15_as.l0] at H
      by_cases c2 : x4_1 < (l0.length : Int)
      · rw [if_pos c2] at H
        have c2b0 : decide (x4_1 < (l0.length : Int)) = true := decide_eq_true c2
        clear c2
        by_cases c3 : 0 ≤ x4_1
        · rw [if_pos c3] at H
          have c3b0 : decide (0 ≤ x4_1) = true := decide_eq_true c3
          clear c3
          by_cases c4 : x3_1.length < 2932031007402
          · rw [if_pos c4] at H
            have LMc4 := Aside0.mk c4
            clear c4
            obtain ⟨y456, hy456⟩ : ∃ y_ : List (S65), y_ = (x3_1 ++ [(⟨(rd_T30 l0 x4_1).f0, (rd_T30 l0 x4_1).f1, (rd_T30 l0 x4_1).f2, (rd_T30 l0 x4_1).f3, (rd_T30 l0 x4_1).f4, (rd_T30 l0 x4_1).f5⟩ : S65)]) := ⟨_, rfl⟩
            replace H : (hatstandlaw15_as.l0 k1 l0 y456 (wrap64 (x4_1 + 1))) = some r := by first | (rw [hy456]; with_reducible exact H) | (have H2_ := (Option.bind_some _ _).symm.trans H; rw [hy456]; with_reducible exact H2_) | (have H2_ := (Option.bind_some _ _).symm.trans H; with_reducible exact H2_) | with_reducible exact H | (rw [hy456]; exact H) | exact H
            have Ny456 := Aside0.mk hy456
            clear hy456
            have H' := Aside0.mk H
            clear H
            try go_wp2
            have n0_ := Aside0.mk (Kd.R_drew HO_3.out)
            have n1_ := Aside0.mk (below_drew1 HB.out)
            clear HO_3
            clear HB
            have HO_3 := n0_
            have HB := n1_
            clear n0_ n1_
            have p450 : 0 ≤ (x4_1 : Int) := of_decide_eq_true (by first | (with_reducible assumption) | assumption)
            have q450 : x4_1 < (l0.length : Int) := of_decide_eq_true (by first | (with_reducible assumption) | assumption)
            obtain ⟨ad450, e450, hx450_0, hx450_1, hx450_2, hx450_3, hx450_4, hx450_5⟩ := at_T30 HR0.out x4_1 p450 q450
            have hw450_5 := hx450_5
            have hw450_4 := hx450_4
            have hw450_3 := hx450_3
            have hw450_2 := hx450_2
            have hw450_1 := hx450_1
            have hw450_0 := hx450_0
            cases e450
            replace hx450_0 := (HB.out.cell (World.block_lt_of_cell? w _ hx450_0)).trans hx450_0
            replace hx450_1 := (HB.out.cell (World.block_lt_of_cell? w _ hx450_1)).trans hx450_1
            replace hx450_2 := (HB.out.cell (World.block_lt_of_cell? w _ hx450_2)).trans hx450_2
            replace hx450_3 := (HB.out.cell (World.block_lt_of_cell? w _ hx450_3)).trans hx450_3
            replace hx450_4 := (HB.out.cell (World.block_lt_of_cell? w _ hx450_4)).trans hx450_4
            replace hx450_5 := (HB.out.cell (World.block_lt_of_cell? w _ hx450_5)).trans hx450_5
            replace p450 := eq_true p450
            replace q450 := eq_true q450
            have p451 : 0 ≤ (x4_1 : Int) := of_decide_eq_true (by first | (with_reducible assumption) | assumption)
            have q451 : x4_1 < (l0.length : Int) := of_decide_eq_true (by first | (with_reducible assumption) | assumption)
            obtain ⟨ad451, e451, hx451_0, hx451_1, hx451_2, hx451_3, hx451_4, hx451_5⟩ := at_T30 HR0.out x4_1 p451 q451
            have hw451_5 := hx451_5
            have hw451_4 := hx451_4
            have hw451_3 := hx451_3
            have hw451_2 := hx451_2
            have hw451_1 := hx451_1
            have hw451_0 := hx451_0
            obtain rfl : ad450 = ad451 := (by injection e451)
            replace hx451_0 := (HB.out.cell (World.block_lt_of_cell? w _ hx451_0)).trans hx451_0
            replace hx451_1 := (HB.out.cell (World.block_lt_of_cell? w _ hx451_1)).trans hx451_1
            replace hx451_2 := (HB.out.cell (World.block_lt_of_cell? w _ hx451_2)).trans hx451_2
            replace hx451_3 := (HB.out.cell (World.block_lt_of_cell? w _ hx451_3)).trans hx451_3
            replace hx451_4 := (HB.out.cell (World.block_lt_of_cell? w _ hx451_4)).trans hx451_4
            replace hx451_5 := (HB.out.cell (World.block_lt_of_cell? w _ hx451_5)).trans hx451_5
            replace p451 := eq_true p451
            replace q451 := eq_true q451
            have p452 : 0 ≤ (x4_1 : Int) := of_decide_eq_true (by first | (with_reducible assumption) | assumption)
            have q452 : x4_1 < (l0.length : Int) := of_decide_eq_true (by first | (with_reducible assumption) | assumption)
            obtain ⟨ad452, e452, hx452_0, hx452_1, hx452_2, hx452_3, hx452_4, hx452_5⟩ := at_T30 HR0.out x4_1 p452 q452
            have hw452_5 := hx452_5
            have hw452_4 := hx452_4
            have hw452_3 := hx452_3
            have hw452_2 := hx452_2
            have hw452_1 := hx452_1
            have hw452_0 := hx452_0
            obtain rfl : ad450 = ad452 := (by injection e452)
            replace hx452_0 := (HB.out.cell (World.block_lt_of_cell? w _ hx452_0)).trans hx452_0
            replace hx452_1 := (HB.out.cell (World.block_lt_of_cell? w _ hx452_1)).trans hx452_1
            replace hx452_2 := (HB.out.cell (World.block_lt_of_cell? w _ hx452_2)).trans hx452_2
            replace hx452_3 := (HB.out.cell (World.block_lt_of_cell? w _ hx452_3)).trans hx452_3
            replace hx452_4 := (HB.out.cell (World.block_lt_of_cell? w _ hx452_4)).trans hx452_4
            replace hx452_5 := (HB.out.cell (World.block_lt_of_cell? w _ hx452_5)).trans hx452_5
            replace p452 := eq_true p452
            replace q452 := eq_true q452
            have p453 : 0 ≤ (x4_1 : Int) := of_decide_eq_true (by first | (with_reducible assumption) | assumption)
            have q453 : x4_1 < (l0.length : Int) := of_decide_eq_true (by first | (with_reducible assumption) | assumption)
            obtain ⟨ad453, e453, hx453_0, hx453_1, hx453_2, hx453_3, hx453_4, hx453_5⟩ := at_T30 HR0.out x4_1 p453 q453
            have hw453_5 := hx453_5
            have hw453_4 := hx453_4
            have hw453_3 := hx453_3
            have hw453_2 := hx453_2
            have hw453_1 := hx453_1
            have hw453_0 := hx453_0
            obtain rfl : ad450 = ad453 := (by injection e453)
            replace hx453_0 := (HB.out.cell (World.block_lt_of_cell? w _ hx453_0)).trans hx453_0
            replace hx453_1 := (HB.out.cell (World.block_lt_of_cell? w _ hx453_1)).trans hx453_1
            replace hx453_2 := (HB.out.cell (World.block_lt_of_cell? w _ hx453_2)).trans hx453_2
            replace hx453_3 := (HB.out.cell (World.block_lt_of_cell? w _ hx453_3)).trans hx453_3
            replace hx453_4 := (HB.out.cell (World.block_lt_of_cell? w _ hx453_4)).trans hx453_4
            replace hx453_5 := (HB.out.cell (World.block_lt_of_cell? w _ hx453_5)).trans hx453_5
            replace p453 := eq_true p453
            replace q453 := eq_true q453
            have p454 : 0 ≤ (x4_1 : Int) := of_decide_eq_true (by first | (with_reducible assumption) | assumption)
            have q454 : x4_1 < (l0.length : Int) := of_decide_eq_true (by first | (with_reducible assumption) | assumption)
            obtain ⟨ad454, e454, hx454_0, hx454_1, hx454_2, hx454_3, hx454_4, hx454_5⟩ := at_T30 HR0.out x4_1 p454 q454
            have hw454_5 := hx454_5
            have hw454_4 := hx454_4
            have hw454_3 := hx454_3
            have hw454_2 := hx454_2
            have hw454_1 := hx454_1
            have hw454_0 := hx454_0
            obtain rfl : ad450 = ad454 := (by injection e454)
            replace hx454_0 := (HB.out.cell (World.block_lt_of_cell? w _ hx454_0)).trans hx454_0
            replace hx454_1 := (HB.out.cell (World.block_lt_of_cell? w _ hx454_1)).trans hx454_1
            replace hx454_2 := (HB.out.cell (World.block_lt_of_cell? w _ hx454_2)).trans hx454_2
            replace hx454_3 := (HB.out.cell (World.block_lt_of_cell? w _ hx454_3)).trans hx454_3
            replace hx454_4 := (HB.out.cell (World.block_lt_of_cell? w _ hx454_4)).trans hx454_4
            replace hx454_5 := (HB.out.cell (World.block_lt_of_cell? w _ hx454_5)).trans hx454_5
            replace p454 := eq_true p454
            replace q454 := eq_true q454
            have p455 : 0 ≤ (x4_1 : Int) := of_decide_eq_true (by first | (with_reducible assumption) | assumption)
            have q455 : x4_1 < (l0.length : Int) := of_decide_eq_true (by first | (with_reducible assumption) | assumption)
            obtain ⟨ad455, e455, hx455_0, hx455_1, hx455_2, hx455_3, hx455_4, hx455_5⟩ := at_T30 HR0.out x4_1 p455 q455
            have hw455_5 := hx455_5
            have hw455_4 := hx455_4
            have hw455_3 := hx455_3
            have hw455_2 := hx455_2
            have hw455_1 := hx455_1
            have hw455_0 := hx455_0
            obtain rfl : ad450 = ad455 := (by injection e455)
            replace hx455_0 := (HB.out.cell (World.block_lt_of_cell? w _ hx455_0)).trans hx455_0
            replace hx455_1 := (HB.out.cell (World.block_lt_of_cell? w _ hx455_1)).trans hx455_1
            replace hx455_2 := (HB.out.cell (World.block_lt_of_cell? w _ hx455_2)).trans hx455_2
            replace hx455_3 := (HB.out.cell (World.block_lt_of_cell? w _ hx455_3)).trans hx455_3
            replace hx455_4 := (HB.out.cell (World.block_lt_of_cell? w _ hx455_4)).trans hx455_4
            replace hx455_5 := (HB.out.cell (World.block_lt_of_cell? w _ hx455_5)).trans hx455_5
            replace p455 := eq_true p455
            replace q455 := eq_true q455
            refine start_ (n := 35) (S := fun w' => w'.cell? (ad450.add ((x4_1).toNat * 6)) = some (.int .i64 ((rd_T30 l0 x4_1).f0)) ∧ w'.cell? ⟨(ad450.add ((x4_1).toNat * 6)).block, (ad450.add ((x4_1).toNat * 6)).off + 1, none⟩ = some (.bool ((rd_T30 l0 x4_1).f1)) ∧ w'.cell? ⟨(ad450.add ((x4_1).toNat * 6)).block, (ad450.add ((x4_1).toNat * 6)).off + 2, none⟩ = some (.int .u64 ((rd_T30 l0 x4_1).f2)) ∧ w'.cell? ⟨(ad450.add ((x4_1).toNat * 6)).block, (ad450.add ((x4_1).toNat * 6)).off + 3, none⟩ = some (.int .i64 ((rd_T30 l0 x4_1).f3)) ∧ w'.cell? ⟨(ad450.add ((x4_1).toNat * 6)).block, (ad450.add ((x4_1).toNat * 6)).off + 4, none⟩ = some (.int .i64 ((rd_T30 l0 x4_1).f4)) ∧ w'.cell? ⟨(ad450.add ((x4_1).toNat * 6)).block, (ad450.add ((x4_1).toNat * 6)).off + 5, none⟩ = some (.int .i64 ((rd_T30 l0 x4_1).f5)) ∧ w'.cell? (ad450.add ((x4_1).toNat * 6)) = some (.int .i64 ((rd_T30 l0 x4_1).f0)) ∧ w'.cell? ⟨(ad450.add ((x4_1).toNat * 6)).block, (ad450.add ((x4_1).toNat * 6)).off + 1, none⟩ = some (.bool ((rd_T30 l0 x4_1).f1)) ∧ w'.cell? ⟨(ad450.add ((x4_1).toNat * 6)).block, (ad450.add ((x4_1).toNat * 6)).off + 2, none⟩ = some (.int .u64 ((rd_T30 l0 x4_1).f2)) ∧ w'.cell? ⟨(ad450.add ((x4_1).toNat * 6)).block, (ad450.add ((x4_1).toNat * 6)).off + 3, none⟩ = some (.int .i64 ((rd_T30 l0 x4_1).f3)) ∧ w'.cell? ⟨(ad450.add ((x4_1).toNat * 6)).block, (ad450.add ((x4_1).toNat * 6)).off + 4, none⟩ = some (.int .i64 ((rd_T30 l0 x4_1).f4)) ∧ w'.cell? ⟨(ad450.add ((x4_1).toNat * 6)).block, (ad450.add ((x4_1).toNat * 6)).off + 5, none⟩ = some (.int .i64 ((rd_T30 l0 x4_1).f5)) ∧ w'.cell? (ad450.add ((x4_1).toNat * 6)) = some (.int .i64 ((rd_T30 l0 x4_1).f0)) ∧ w'.cell? ⟨(ad450.add ((x4_1).toNat * 6)).block, (ad450.add ((x4_1).toNat * 6)).off + 1, none⟩ = some (.bool ((rd_T30 l0 x4_1).f1)) ∧ w'.cell? ⟨(ad450.add ((x4_1).toNat * 6)).block, (ad450.add ((x4_1).toNat * 6)).off + 2, none⟩ = some (.int .u64 ((rd_T30 l0 x4_1).f2)) ∧ w'.cell? ⟨(ad450.add ((x4_1).toNat * 6)).block, (ad450.add ((x4_1).toNat * 6)).off + 3, none⟩ = some (.int .i64 ((rd_T30 l0 x4_1).f3)) ∧ w'.cell? ⟨(ad450.add ((x4_1).toNat * 6)).block, (ad450.add ((x4_1).toNat * 6)).off + 4, none⟩ = some (.int .i64 ((rd_T30 l0 x4_1).f4)) ∧ w'.cell? ⟨(ad450.add ((x4_1).toNat * 6)).block, (ad450.add ((x4_1).toNat * 6)).off + 5, none⟩ = some (.int .i64 ((rd_T30 l0 x4_1).f5)) ∧ w'.cell? (ad450.add ((x4_1).toNat * 6)) = some (.int .i64 ((rd_T30 l0 x4_1).f0)) ∧ w'.cell? ⟨(ad450.add ((x4_1).toNat * 6)).block, (ad450.add ((x4_1).toNat * 6)).off + 1, none⟩ = some (.bool ((rd_T30 l0 x4_1).f1)) ∧ w'.cell? ⟨(ad450.add ((x4_1).toNat * 6)).block, (ad450.add ((x4_1).toNat * 6)).off + 2, none⟩ = some (.int .u64 ((rd_T30 l0 x4_1).f2)) ∧ w'.cell? ⟨(ad450.add ((x4_1).toNat * 6)).block, (ad450.add ((x4_1).toNat * 6)).off + 3, none⟩ = some (.int .i64 ((rd_T30 l0 x4_1).f3)) ∧ w'.cell? ⟨(ad450.add ((x4_1).toNat * 6)).block, (ad450.add ((x4_1).toNat * 6)).off + 4, none⟩ = some (.int .i64 ((rd_T30 l0 x4_1).f4)) ∧ w'.cell? ⟨(ad450.add ((x4_1).toNat * 6)).block, (ad450.add ((x4_1).toNat * 6)).off + 5, none⟩ = some (.int .i64 ((rd_T30 l0 x4_1).f5)) ∧ w'.cell? (ad450.add ((x4_1).toNat * 6)) = some (.int .i64 ((rd_T30 l0 x4_1).f0)) ∧ w'.cell? ⟨(ad450.add ((x4_1).toNat * 6)).block, (ad450.add ((x4_1).toNat * 6)).off + 1, none⟩ = some (.bool ((rd_T30 l0 x4_1).f1)) ∧ w'.cell? ⟨(ad450.add ((x4_1).toNat * 6)).block, (ad450.add ((x4_1).toNat * 6)).off + 2, none⟩ = some (.int .u64 ((rd_T30 l0 x4_1).f2)) ∧ w'.cell? ⟨(ad450.add ((x4_1).toNat * 6)).block, (ad450.add ((x4_1).toNat * 6)).off + 3, none⟩ = some (.int .i64 ((rd_T30 l0 x4_1).f3)) ∧ w'.cell? ⟨(ad450.add ((x4_1).toNat * 6)).block, (ad450.add ((x4_1).toNat * 6)).off + 4, none⟩ = some (.int .i64 ((rd_T30 l0 x4_1).f4)) ∧ w'.cell? ⟨(ad450.add ((x4_1).toNat * 6)).block, (ad450.add ((x4_1).toNat * 6)).off + 5, none⟩ = some (.int .i64 ((rd_T30 l0 x4_1).f5)) ∧ w'.cell? (ad450.add ((x4_1).toNat * 6)) = some (.int .i64 ((rd_T30 l0 x4_1).f0)) ∧ w'.cell? ⟨(ad450.add ((x4_1).toNat * 6)).block, (ad450.add ((x4_1).toNat * 6)).off + 1, none⟩ = some (.bool ((rd_T30 l0 x4_1).f1)) ∧ w'.cell? ⟨(ad450.add ((x4_1).toNat * 6)).block, (ad450.add ((x4_1).toNat * 6)).off + 2, none⟩ = some (.int .u64 ((rd_T30 l0 x4_1).f2)) ∧ w'.cell? ⟨(ad450.add ((x4_1).toNat * 6)).block, (ad450.add ((x4_1).toNat * 6)).off + 3, none⟩ = some (.int .i64 ((rd_T30 l0 x4_1).f3)) ∧ w'.cell? ⟨(ad450.add ((x4_1).toNat * 6)).block, (ad450.add ((x4_1).toNat * 6)).off + 4, none⟩ = some (.int .i64 ((rd_T30 l0 x4_1).f4)) ∧ w'.cell? ⟨(ad450.add ((x4_1).toNat * 6)).block, (ad450.add ((x4_1).toNat * 6)).off + 5, none⟩ = some (.int .i64 ((rd_T30 l0 x4_1).f5))) (ds := []) #[false, false, false, false, false, false, false, false, false, false, false, false, false, false, false, false, false, false, false, false, false, false, false, false, false, false, false, false, false, false, false, false, false, false, false] (by kernel_rfl) rfl rfl ⟨((HB.out.cell (World.block_lt_of_cell? w _ hw450_0)).trans hw450_0), ((HB.out.cell (World.block_lt_of_cell? w _ hw450_1)).trans hw450_1), ((HB.out.cell (World.block_lt_of_cell? w _ hw450_2)).trans hw450_2), ((HB.out.cell (World.block_lt_of_cell? w _ hw450_3)).trans hw450_3), ((HB.out.cell (World.block_lt_of_cell? w _ hw450_4)).trans hw450_4), ((HB.out.cell (World.block_lt_of_cell? w _ hw450_5)).trans hw450_5), ((HB.out.cell (World.block_lt_of_cell? w _ hw451_0)).trans hw451_0), ((HB.out.cell (World.block_lt_of_cell? w _ hw451_1)).trans hw451_1), ((HB.out.cell (World.block_lt_of_cell? w _ hw451_2)).trans hw451_2), ((HB.out.cell (World.block_lt_of_cell? w _ hw451_3)).trans hw451_3), ((HB.out.cell (World.block_lt_of_cell? w _ hw451_4)).trans hw451_4), ((HB.out.cell (World.block_lt_of_cell? w _ hw451_5)).trans hw451_5), ((HB.out.cell (World.block_lt_of_cell? w _ hw452_0)).trans hw452_0), ((HB.out.cell (World.block_lt_of_cell? w _ hw452_1)).trans hw452_1), ((HB.out.cell (World.block_lt_of_cell? w _ hw452_2)).trans hw452_2), ((HB.out.cell (World.block_lt_of_cell? w _ hw452_3)).trans hw452_3), ((HB.out.cell (World.block_lt_of_cell? w _ hw452_4)).trans hw452_4), ((HB.out.cell (World.block_lt_of_cell? w _ hw452_5)).trans hw452_5), ((HB.out.cell (World.block_lt_of_cell? w _ hw453_0)).trans hw453_0), ((HB.out.cell (World.block_lt_of_cell? w _ hw453_1)).trans hw453_1), ((HB.out.cell (World.block_lt_of_cell? w _ hw453_2)).trans hw453_2), ((HB.out.cell (World.block_lt_of_cell? w _ hw453_3)).trans hw453_3), ((HB.out.cell (World.block_lt_of_cell? w _ hw453_4)).trans hw453_4), ((HB.out.cell (World.block_lt_of_cell? w _ hw453_5)).trans hw453_5), ((HB.out.cell (World.block_lt_of_cell? w _ hw454_0)).trans hw454_0), ((HB.out.cell (World.block_lt_of_cell? w _ hw454_1)).trans hw454_1), ((HB.out.cell (World.block_lt_of_cell? w _ hw454_2)).trans hw454_2), ((HB.out.cell (World.block_lt_of_cell? w _ hw454_3)).trans hw454_3), ((HB.out.cell (World.block_lt_of_cell? w _ hw454_4)).trans hw454_4), ((HB.out.cell (World.block_lt_of_cell? w _ hw454_5)).trans hw454_5), ((HB.out.cell (World.block_lt_of_cell? w _ hw455_0)).trans hw455_0), ((HB.out.cell (World.block_lt_of_cell? w _ hw455_1)).trans hw455_1), ((HB.out.cell (World.block_lt_of_cell? w _ hw455_2)).trans hw455_2), ((HB.out.cell (World.block_lt_of_cell? w _ hw455_3)).trans hw455_3), ((HB.out.cell (World.block_lt_of_cell? w _ hw455_4)).trans hw455_4), ((HB.out.cell (World.block_lt_of_cell? w _ hw455_5)).trans hw455_5)⟩ (fun hHeld => ?_); refine with_tabW hatstandlaw15_as.tab5 hatstandlaw15_as.bits5 (fun HT_ HW_ => ?_)
            generalize wr.drew = w5 at HO_3 HB hx450_0 hx450_1 hx450_2 hx450_3 hx450_4 hx450_5 hx451_0 hx451_1 hx451_2 hx451_3 hx451_4 hx451_5 hx452_0 hx452_1 hx452_2 hx452_3 hx452_4 hx452_5 hx453_0 hx453_1 hx453_2 hx453_3 hx453_4 hx453_5 hx454_0 hx454_1 hx454_2 hx454_3 hx454_4 hx454_5 hx455_0 hx455_1 hx455_2 hx455_3 hx455_4 hx455_5 hHeld ⊢
            refine pure_ (i := 0) (N := some 11) (v := ?_) (a' := ?_) #[true, false, false, false, false, false, false, false, false, false, false, false, false, false, false, false, false, false, false, false, false, false, false, false, false, false, false, false, false, false, false, false, false, false, false] rfl rfl (any_of HT_.out (by kernel_rfl)) (fun _ _ _ h => h) (Or.inl ⟨by rfl, ?_⟩) ?_ ?_
            rotate_left
            · intro w'
              go_simp
              with_reducible rfl
            rotate_left
            · simp only [Act.put, List.setIfInBounds_toArray, List.set_cons_zero, List.set_cons_succ, i64_w, i32_w, Go.IntKind.wrap_u32]
              rfl
            refine pure_ (i := 1) (N := some 12) (v := ?_) (a' := ?_) #[true, true, false, false, false, false, false, false, false, false, false, false, false, false, false, false, false, false, false, false, false, false, false, false, false, false, false, false, false, false, false, false, false, false, false] rfl rfl (any_of HT_.out (by kernel_rfl)) (fun _ _ _ h => h) (Or.inl ⟨by rfl, ?_⟩) ?_ ?_
            rotate_left
            · intro w'
              go_simp
              with_reducible rfl
            rotate_left
            · simp only [Act.put, List.setIfInBounds_toArray, List.set_cons_zero, List.set_cons_succ, i64_w, i32_w, Go.IntKind.wrap_u32]
              rfl
            refine pure_ (i := 2) (N := some 13) (v := ?_) (a' := ?_) #[true, true, true, false, false, false, false, false, false, false, false, false, false, false, false, false, false, false, false, false, false, false, false, false, false, false, false, false, false, false, false, false, false, false, false] rfl rfl (any_of HT_.out (by kernel_rfl)) (fun _ _ _ h => h) (Or.inl ⟨by rfl, ?_⟩) ?_ ?_
            rotate_left
            · intro w'
              go_simp
              with_reducible rfl
            rotate_left
            · simp only [Act.put, List.setIfInBounds_toArray, List.set_cons_zero, List.set_cons_succ, i64_w, i32_w, Go.IntKind.wrap_u32]
              rfl
            refine pure_ (i := 3) (N := some 14) (v := ?_) (a' := ?_) #[true, true, true, true, false, false, false, false, false, false, false, false, false, false, false, false, false, false, false, false, false, false, false, false, false, false, false, false, false, false, false, false, false, false, false] rfl rfl (any_of HT_.out (by kernel_rfl)) (fun _ _ _ h => h) (Or.inl ⟨by rfl, ?_⟩) ?_ ?_
            rotate_left
            · intro w'
              go_simp
              with_reducible rfl
            rotate_left
            · simp only [Act.put, List.setIfInBounds_toArray, List.set_cons_zero, List.set_cons_succ, i64_w, i32_w, Go.IntKind.wrap_u32]
              rfl
            refine pure_ (i := 4) (N := some 15) (v := ?_) (a' := ?_) #[true, true, true, true, true, false, false, false, false, false, false, false, false, false, false, false, false, false, false, false, false, false, false, false, false, false, false, false, false, false, false, false, false, false, false] rfl rfl (any_of HT_.out (by kernel_rfl)) (fun _ _ _ h => h) (Or.inl ⟨by rfl, ?_⟩) ?_ ?_
            rotate_left
            · intro w'
              go_simp
              with_reducible rfl
            rotate_left
            · simp only [Act.put, List.setIfInBounds_toArray, List.set_cons_zero, List.set_cons_succ, i64_w, i32_w, Go.IntKind.wrap_u32]
              rfl
            refine pure_ (i := 6) (N := some 17) (v := ?_) (a' := ?_) #[true, true, true, true, true, false, true, false, false, false, false, false, false, false, false, false, false, false, false, false, false, false, false, false, false, false, false, false, false, false, false, false, false, false, false] rfl rfl (any_of HT_.out (by kernel_rfl)) (fun _ _ _ h => h) (Or.inl ⟨by rfl, ?_⟩) ?_ ?_
            rotate_left
            · intro w'
              go_simp
              with_reducible rfl
            rotate_left
            · simp only [Act.put, List.setIfInBounds_toArray, List.set_cons_zero, List.set_cons_succ, i64_w, i32_w, Go.IntKind.wrap_u32]
              rfl
            refine pure_ (i := 7) (N := some 18) (v := ?_) (a' := ?_) #[true, true, true, true, true, false, true, true, false, false, false, false, false, false, false, false, false, false, false, false, false, false, false, false, false, false, false, false, false, false, false, false, false, false, false] rfl rfl (any_of HT_.out (by kernel_rfl)) (fun _ _ _ h => h) (Or.inl ⟨by rfl, ?_⟩) ?_ ?_
            rotate_left
            · intro w'
              go_simp
              with_reducible rfl
            rotate_left
            · simp only [Act.put, List.setIfInBounds_toArray, List.set_cons_zero, List.set_cons_succ, i64_w, i32_w, Go.IntKind.wrap_u32]
              rfl
            refine pure_ (i := 8) (N := some 19) (v := ?_) (a' := ?_) #[true, true, true, true, true, false, true, true, true, false, false, false, false, false, false, false, false, false, false, false, false, false, false, false, false, false, false, false, false, false, false, false, false, false, false] rfl rfl (any_of HT_.out (by kernel_rfl)) (fun _ _ _ h => h) (Or.inl ⟨by rfl, ?_⟩) ?_ ?_
            rotate_left
            · intro w'
              go_simp
              with_reducible rfl
            rotate_left
            · simp only [Act.put, List.setIfInBounds_toArray, List.set_cons_zero, List.set_cons_succ, i64_w, i32_w, Go.IntKind.wrap_u32]
              rfl
            refine pure_ (i := 9) (N := some 20) (v := ?_) (a' := ?_) #[true, true, true, true, true, false, true, true, true, true, false, false, false, false, false, false, false, false, false, false, false, false, false, false, false, false, false, false, false, false, false, false, false, false, false] rfl rfl (any_of HT_.out (by kernel_rfl)) (fun _ _ _ h => h) (Or.inl ⟨by rfl, ?_⟩) ?_ ?_
            rotate_left
            · intro w'
              go_simp
              with_reducible rfl
            rotate_left
            · simp only [Act.put, List.setIfInBounds_toArray, List.set_cons_zero, List.set_cons_succ, i64_w, i32_w, Go.IntKind.wrap_u32]
              rfl
            refine pure_ (i := 11) (N := some 22) (v := ?_) (a' := ?_) #[true, true, true, true, true, false, true, true, true, true, false, true, false, false, false, false, false, false, false, false, false, false, false, false, false, false, false, false, false, false, false, false, false, false, false] rfl rfl (any_of HT_.out (by kernel_rfl)) (fun _ _ _ h => h) (Or.inl ⟨by rfl, ?_⟩) ?_ ?_
            rotate_left
            · intro w'
              go_simp
              with_reducible rfl
            rotate_left
            · simp only [Act.put, List.setIfInBounds_toArray, List.set_cons_zero, List.set_cons_succ, i64_w, i32_w, Go.IntKind.wrap_u32]
              rfl
            refine pure_ (i := 12) (N := some 23) (v := ?_) (a' := ?_) #[true, true, true, true, true, false, true, true, true, true, false, true, true, false, false, false, false, false, false, false, false, false, false, false, false, false, false, false, false, false, false, false, false, false, false] rfl rfl (any_of HT_.out (by kernel_rfl)) (fun _ _ _ h => h) (Or.inl ⟨by rfl, ?_⟩) ?_ ?_
            rotate_left
            · intro w'
              go_simp
              with_reducible rfl
            rotate_left
            · simp only [Act.put, List.setIfInBounds_toArray, List.set_cons_zero, List.set_cons_succ, i64_w, i32_w, Go.IntKind.wrap_u32]
              rfl
            refine pure_ (i := 13) (N := some 24) (v := ?_) (a' := ?_) #[true, true, true, true, true, false, true, true, true, true, false, true, true, true, false, false, false, false, false, false, false, false, false, false, false, false, false, false, false, false, false, false, false, false, false] rfl rfl (any_of HT_.out (by kernel_rfl)) (fun _ _ _ h => h) (Or.inl ⟨by rfl, ?_⟩) ?_ ?_
            rotate_left
            · intro w'
              go_simp
              with_reducible rfl
            rotate_left
            · simp only [Act.put, List.setIfInBounds_toArray, List.set_cons_zero, List.set_cons_succ, i64_w, i32_w, Go.IntKind.wrap_u32]
              rfl
            refine pure_ (i := 14) (N := some 25) (v := ?_) (a' := ?_) #[true, true, true, true, true, false, true, true, true, true, false, true, true, true, true, false, false, false, false, false, false, false, false, false, false, false, false, false, false, false, false, false, false, false, false] rfl rfl (any_of HT_.out (by kernel_rfl)) (fun _ _ _ h => h) (Or.inl ⟨by rfl, ?_⟩) ?_ ?_
            rotate_left
            · intro w'
              go_simp
              with_reducible rfl
            rotate_left
            · simp only [Act.put, List.setIfInBounds_toArray, List.set_cons_zero, List.set_cons_succ, i64_w, i32_w, Go.IntKind.wrap_u32]
              rfl
            refine pure_ (i := 16) (N := some 27) (v := ?_) (a' := ?_) #[true, true, true, true, true, false, true, true, true, true, false, true, true, true, true, false, true, false, false, false, false, false, false, false, false, false, false, false, false, false, false, false, false, false, false] rfl rfl (any_of HT_.out (by kernel_rfl)) (fun _ _ _ h => h) (Or.inl ⟨by rfl, ?_⟩) ?_ ?_
            rotate_left
            · intro w'
              go_simp
              with_reducible rfl
            rotate_left
            · simp only [Act.put, List.setIfInBounds_toArray, List.set_cons_zero, List.set_cons_succ, i64_w, i32_w, Go.IntKind.wrap_u32]
              rfl
            refine pure_ (i := 17) (N := some 28) (v := ?_) (a' := ?_) #[true, true, true, true, true, false, true, true, true, true, false, true, true, true, true, false, true, true, false, false, false, false, false, false, false, false, false, false, false, false, false, false, false, false, false] rfl rfl (any_of HT_.out (by kernel_rfl)) (fun _ _ _ h => h) (Or.inl ⟨by rfl, ?_⟩) ?_ ?_
            rotate_left
            · intro w'
              go_simp
              with_reducible rfl
            rotate_left
            · simp only [Act.put, List.setIfInBounds_toArray, List.set_cons_zero, List.set_cons_succ, i64_w, i32_w, Go.IntKind.wrap_u32]
              rfl
            refine pure_ (i := 18) (N := some 29) (v := ?_) (a' := ?_) #[true, true, true, true, true, false, true, true, true, true, false, true, true, true, true, false, true, true, true, false, false, false, false, false, false, false, false, false, false, false, false, false, false, false, false] rfl rfl (any_of HT_.out (by kernel_rfl)) (fun _ _ _ h => h) (Or.inl ⟨by rfl, ?_⟩) ?_ ?_
            rotate_left
            · intro w'
              go_simp
              with_reducible rfl
            rotate_left
            · simp only [Act.put, List.setIfInBounds_toArray, List.set_cons_zero, List.set_cons_succ, i64_w, i32_w, Go.IntKind.wrap_u32]
              rfl
            refine pure_ (i := 19) (N := some 30) (v := ?_) (a' := ?_) #[true, true, true, true, true, false, true, true, true, true, false, true, true, true, true, false, true, true, true, true, false, false, false, false, false, false, false, false, false, false, false, false, false, false, false] rfl rfl (any_of HT_.out (by kernel_rfl)) (fun _ _ _ h => h) (Or.inl ⟨by rfl, ?_⟩) ?_ ?_
            rotate_left
            · intro w'
              go_simp
              with_reducible rfl
            rotate_left
            · simp only [Act.put, List.setIfInBounds_toArray, List.set_cons_zero, List.set_cons_succ, i64_w, i32_w, Go.IntKind.wrap_u32]
              rfl
            refine pure_ (i := 21) (N := some 32) (v := ?_) (a' := ?_) #[true, true, true, true, true, false, true, true, true, true, false, true, true, true, true, false, true, true, true, true, false, true, false, false, false, false, false, false, false, false, false, false, false, false, false] rfl rfl (any_of HT_.out (by kernel_rfl)) (fun _ _ _ h => h) (Or.inl ⟨by rfl, ?_⟩) ?_ ?_
            rotate_left
            · intro w'
              go_simp
              with_reducible rfl
            rotate_left
            · simp only [Act.put, List.setIfInBounds_toArray, List.set_cons_zero, List.set_cons_succ, i64_w, i32_w, Go.IntKind.wrap_u32]
              rfl
            refine pure_ (i := 22) (N := some 33) (v := ?_) (a' := ?_) #[true, true, true, true, true, false, true, true, true, true, false, true, true, true, true, false, true, true, true, true, false, true, true, false, false, false, false, false, false, false, false, false, false, false, false] rfl rfl (any_of HT_.out (by kernel_rfl)) (fun _ _ _ h => h) (Or.inl ⟨by rfl, ?_⟩) ?_ ?_
            rotate_left
            · intro w'
              go_simp
              with_reducible rfl
            rotate_left
            · simp only [Act.put, List.setIfInBounds_toArray, List.set_cons_zero, List.set_cons_succ, i64_w, i32_w, Go.IntKind.wrap_u32]
              rfl
            refine pure_ (i := 23) (N := some 34) (v := ?_) (a' := ?_) #[true, true, true, true, true, false, true, true, true, true, false, true, true, true, true, false, true, true, true, true, false, true, true, true, false, false, false, false, false, false, false, false, false, false, false] rfl rfl (any_of HT_.out (by kernel_rfl)) (fun _ _ _ h => h) (Or.inl ⟨by rfl, ?_⟩) ?_ ?_
            rotate_left
            · intro w'
              go_simp
              with_reducible rfl
            rotate_left
            · simp only [Act.put, List.setIfInBounds_toArray, List.set_cons_zero, List.set_cons_succ, i64_w, i32_w, Go.IntKind.wrap_u32]
              rfl
            refine pure_ (i := 24) (N := some 35) (v := ?_) (a' := ?_) #[true, true, true, true, true, false, true, true, true, true, false, true, true, true, true, false, true, true, true, true, false, true, true, true, true, false, false, false, false, false, false, false, false, false, false] rfl rfl (any_of HT_.out (by kernel_rfl)) (fun _ _ _ h => h) (Or.inl ⟨by rfl, ?_⟩) ?_ ?_
            rotate_left
            · intro w'
              go_simp
              with_reducible rfl
            rotate_left
            · simp only [Act.put, List.setIfInBounds_toArray, List.set_cons_zero, List.set_cons_succ, i64_w, i32_w, Go.IntKind.wrap_u32]
              rfl
            refine pure_ (i := 26) (N := some 37) (v := ?_) (a' := ?_) #[true, true, true, true, true, false, true, true, true, true, false, true, true, true, true, false, true, true, true, true, false, true, true, true, true, false, true, false, false, false, false, false, false, false, false] rfl rfl (any_of HT_.out (by kernel_rfl)) (fun _ _ _ h => h) (Or.inl ⟨by rfl, ?_⟩) ?_ ?_
            rotate_left
            · intro w'
              go_simp
              with_reducible rfl
            rotate_left
            · simp only [Act.put, List.setIfInBounds_toArray, List.set_cons_zero, List.set_cons_succ, i64_w, i32_w, Go.IntKind.wrap_u32]
              rfl
            refine pure_ (i := 27) (N := some 38) (v := ?_) (a' := ?_) #[true, true, true, true, true, false, true, true, true, true, false, true, true, true, true, false, true, true, true, true, false, true, true, true, true, false, true, true, false, false, false, false, false, false, false] rfl rfl (any_of HT_.out (by kernel_rfl)) (fun _ _ _ h => h) (Or.inl ⟨by rfl, ?_⟩) ?_ ?_
            rotate_left
            · intro w'
              go_simp
              with_reducible rfl
            rotate_left
            · simp only [Act.put, List.setIfInBounds_toArray, List.set_cons_zero, List.set_cons_succ, i64_w, i32_w, Go.IntKind.wrap_u32]
              rfl
            refine pure_ (i := 28) (N := some 39) (v := ?_) (a' := ?_) #[true, true, true, true, true, false, true, true, true, true, false, true, true, true, true, false, true, true, true, true, false, true, true, true, true, false, true, true, true, false, false, false, false, false, false] rfl rfl (any_of HT_.out (by kernel_rfl)) (fun _ _ _ h => h) (Or.inl ⟨by rfl, ?_⟩) ?_ ?_
            rotate_left
            · intro w'
              go_simp
              with_reducible rfl
            rotate_left
            · simp only [Act.put, List.setIfInBounds_toArray, List.set_cons_zero, List.set_cons_succ, i64_w, i32_w, Go.IntKind.wrap_u32]
              rfl
            refine pure_ (i := 29) (N := some 40) (v := ?_) (a' := ?_) #[true, true, true, true, true, false, true, true, true, true, false, true, true, true, true, false, true, true, true, true, false, true, true, true, true, false, true, true, true, true, false, false, false, false, false] rfl rfl (any_of HT_.out (by kernel_rfl)) (fun _ _ _ h => h) (Or.inl ⟨by rfl, ?_⟩) ?_ ?_
            rotate_left
            · intro w'
              go_simp
              with_reducible rfl
            rotate_left
            · simp only [Act.put, List.setIfInBounds_toArray, List.set_cons_zero, List.set_cons_succ, i64_w, i32_w, Go.IntKind.wrap_u32]
              rfl
            refine take_ (i := 5) (N := some 16) (v := ?_) (a' := ?_) #[true, true, true, true, true, true, true, true, true, true, false, true, true, true, true, false, true, true, true, true, false, true, true, true, true, false, true, true, true, true, false, false, false, false, false] rfl rfl (take_ofW HT_.out HW_.out (by kernel_rfl)) (fun _ _ _ h => h) (Or.inl ⟨by rfl, ?_⟩) hHeld ?_ ?_
            rotate_left
            · rintro w' ⟨s0, s1, s2, s3, s4, s5, s6, s7, s8, s9, s10, s11, s12, s13, s14, s15, s16, s17, s18, s19, s20, s21, s22, s23, s24, s25, s26, s27, s28, s29, s30, s31, s32, s33, s34, s35⟩
              go_simp
              with_reducible rfl
            rotate_left
            · simp only [Act.put, List.setIfInBounds_toArray, List.set_cons_zero, List.set_cons_succ, i64_w, i32_w, Go.IntKind.wrap_u32]
              rfl
            refine take_ (i := 10) (N := some 21) (v := ?_) (a' := ?_) #[true, true, true, true, true, true, true, true, true, true, true, true, true, true, true, false, true, true, true, true, false, true, true, true, true, false, true, true, true, true, false, false, false, false, false] rfl rfl (take_ofW HT_.out HW_.out (by kernel_rfl)) (fun _ _ _ h => h) (Or.inl ⟨by rfl, ?_⟩) hHeld ?_ ?_
            rotate_left
            · rintro w' ⟨s0, s1, s2, s3, s4, s5, s6, s7, s8, s9, s10, s11, s12, s13, s14, s15, s16, s17, s18, s19, s20, s21, s22, s23, s24, s25, s26, s27, s28, s29, s30, s31, s32, s33, s34, s35⟩
              go_simp
              with_reducible rfl
            rotate_left
            · simp only [Act.put, List.setIfInBounds_toArray, List.set_cons_zero, List.set_cons_succ, i64_w, i32_w, Go.IntKind.wrap_u32]
              rfl
            refine take_ (i := 15) (N := some 26) (v := ?_) (a' := ?_) #[true, true, true, true, true, true, true, true, true, true, true, true, true, true, true, true, true, true, true, true, false, true, true, true, true, false, true, true, true, true, false, false, false, false, false] rfl rfl (take_ofW HT_.out HW_.out (by kernel_rfl)) (fun _ _ _ h => h) (Or.inl ⟨by rfl, ?_⟩) hHeld ?_ ?_
            rotate_left
            · rintro w' ⟨s0, s1, s2, s3, s4, s5, s6, s7, s8, s9, s10, s11, s12, s13, s14, s15, s16, s17, s18, s19, s20, s21, s22, s23, s24, s25, s26, s27, s28, s29, s30, s31, s32, s33, s34, s35⟩
              go_simp
              with_reducible rfl
            rotate_left
            · simp only [Act.put, List.setIfInBounds_toArray, List.set_cons_zero, List.set_cons_succ, i64_w, i32_w, Go.IntKind.wrap_u32]
              rfl
            refine take_ (i := 20) (N := some 31) (v := ?_) (a' := ?_) #[true, true, true, true, true, true, true, true, true, true, true, true, true, true, true, true, true, true, true, true, true, true, true, true, true, false, true, true, true, true, false, false, false, false, false] rfl rfl (take_ofW HT_.out HW_.out (by kernel_rfl)) (fun _ _ _ h => h) (Or.inl ⟨by rfl, ?_⟩) hHeld ?_ ?_
            rotate_left
            · rintro w' ⟨s0, s1, s2, s3, s4, s5, s6, s7, s8, s9, s10, s11, s12, s13, s14, s15, s16, s17, s18, s19, s20, s21, s22, s23, s24, s25, s26, s27, s28, s29, s30, s31, s32, s33, s34, s35⟩
              go_simp
              with_reducible rfl
            rotate_left
            · simp only [Act.put, List.setIfInBounds_toArray, List.set_cons_zero, List.set_cons_succ, i64_w, i32_w, Go.IntKind.wrap_u32]
              rfl
            refine take_ (i := 25) (N := some 36) (v := ?_) (a' := ?_) #[true, true, true, true, true, true, true, true, true, true, true, true, true, true, true, true, true, true, true, true, true, true, true, true, true, true, true, true, true, true, false, false, false, false, false] rfl rfl (take_ofW HT_.out HW_.out (by kernel_rfl)) (fun _ _ _ h => h) (Or.inl ⟨by rfl, ?_⟩) hHeld ?_ ?_
            rotate_left
            · rintro w' ⟨s0, s1, s2, s3, s4, s5, s6, s7, s8, s9, s10, s11, s12, s13, s14, s15, s16, s17, s18, s19, s20, s21, s22, s23, s24, s25, s26, s27, s28, s29, s30, s31, s32, s33, s34, s35⟩
              go_simp
              with_reducible rfl
            rotate_left
            · simp only [Act.put, List.setIfInBounds_toArray, List.set_cons_zero, List.set_cons_succ, i64_w, i32_w, Go.IntKind.wrap_u32]
              rfl
            refine take_ (i := 30) (N := some 41) (v := ?_) (a' := ?_) #[true, true, true, true, true, true, true, true, true, true, true, true, true, true, true, true, true, true, true, true, true, true, true, true, true, true, true, true, true, true, true, false, false, false, false] rfl rfl (take_ofW HT_.out HW_.out (by kernel_rfl)) (fun _ _ _ h => h) (Or.inl ⟨by rfl, ?_⟩) hHeld ?_ ?_
            rotate_left
            · rintro w' ⟨s0, s1, s2, s3, s4, s5, s6, s7, s8, s9, s10, s11, s12, s13, s14, s15, s16, s17, s18, s19, s20, s21, s22, s23, s24, s25, s26, s27, s28, s29, s30, s31, s32, s33, s34, s35⟩
              go_simp
              with_reducible rfl
            rotate_left
            · simp only [Act.put, List.setIfInBounds_toArray, List.set_cons_zero, List.set_cons_succ, i64_w, i32_w, Go.IntKind.wrap_u32]
              rfl
            refine pure_ (i := 31) (N := some 42) (v := ?_) (a' := ?_) #[true, true, true, true, true, true, true, true, true, true, true, true, true, true, true, true, true, true, true, true, true, true, true, true, true, true, true, true, true, true, true, true, false, false, false] rfl rfl (any_of HT_.out (by kernel_rfl)) (fun _ _ _ h => h) (Or.inl ⟨by rfl, ?_⟩) ?_ ?_
            rotate_left
            · intro w'
              go_simp
              with_reducible rfl
            rotate_left
            · simp only [Act.put, List.setIfInBounds_toArray, List.set_cons_zero, List.set_cons_succ, i64_w, i32_w, Go.IntKind.wrap_u32]
              rfl
            refine one_ (i := 32) (N := some 43) #[true, true, true, true, true, true, true, true, true, true, true, true, true, true, true, true, true, true, true, true, true, true, true, true, true, true, true, true, true, true, true, true, true, false, false] rfl rfl (one_of HT_.out (by kernel_rfl)) (by decide) (fun K hK => ?_)
            refine value_ (w1 := ?_) (v := ?_) (by rfl) rfl ?_ ?_
            rotate_left 2
            · go_simp
              constructor
              · rfl
              · rfl
            refine hK.out _ _ ⟨(World.cell?_alloc_lt _ _ _ (World.block_lt_of_cell? _ _ (((HB.out.cell (World.block_lt_of_cell? w _ hw450_0)).trans hw450_0)))).trans (((HB.out.cell (World.block_lt_of_cell? w _ hw450_0)).trans hw450_0)), (World.cell?_alloc_lt _ _ _ (World.block_lt_of_cell? _ _ (((HB.out.cell (World.block_lt_of_cell? w _ hw450_1)).trans hw450_1)))).trans (((HB.out.cell (World.block_lt_of_cell? w _ hw450_1)).trans hw450_1)), (World.cell?_alloc_lt _ _ _ (World.block_lt_of_cell? _ _ (((HB.out.cell (World.block_lt_of_cell? w _ hw450_2)).trans hw450_2)))).trans (((HB.out.cell (World.block_lt_of_cell? w _ hw450_2)).trans hw450_2)), (World.cell?_alloc_lt _ _ _ (World.block_lt_of_cell? _ _ (((HB.out.cell (World.block_lt_of_cell? w _ hw450_3)).trans hw450_3)))).trans (((HB.out.cell (World.block_lt_of_cell? w _ hw450_3)).trans hw450_3)), (World.cell?_alloc_lt _ _ _ (World.block_lt_of_cell? _ _ (((HB.out.cell (World.block_lt_of_cell? w _ hw450_4)).trans hw450_4)))).trans (((HB.out.cell (World.block_lt_of_cell? w _ hw450_4)).trans hw450_4)), (World.cell?_alloc_lt _ _ _ (World.block_lt_of_cell? _ _ (((HB.out.cell (World.block_lt_of_cell? w _ hw450_5)).trans hw450_5)))).trans (((HB.out.cell (World.block_lt_of_cell? w _ hw450_5)).trans hw450_5)), (World.cell?_alloc_lt _ _ _ (World.block_lt_of_cell? _ _ (((HB.out.cell (World.block_lt_of_cell? w _ hw451_0)).trans hw451_0)))).trans (((HB.out.cell (World.block_lt_of_cell? w _ hw451_0)).trans hw451_0)), (World.cell?_alloc_lt _ _ _ (World.block_lt_of_cell? _ _ (((HB.out.cell (World.block_lt_of_cell? w _ hw451_1)).trans hw451_1)))).trans (((HB.out.cell (World.block_lt_of_cell? w _ hw451_1)).trans hw451_1)), (World.cell?_alloc_lt _ _ _ (World.block_lt_of_cell? _ _ (((HB.out.cell (World.block_lt_of_cell? w _ hw451_2)).trans hw451_2)))).trans (((HB.out.cell (World.block_lt_of_cell? w _ hw451_2)).trans hw451_2)), (World.cell?_alloc_lt _ _ _ (World.block_lt_of_cell? _ _ (((HB.out.cell (World.block_lt_of_cell? w _ hw451_3)).trans hw451_3)))).trans (((HB.out.cell (World.block_lt_of_cell? w _ hw451_3)).trans hw451_3)), (World.cell?_alloc_lt _ _ _ (World.block_lt_of_cell? _ _ (((HB.out.cell (World.block_lt_of_cell? w _ hw451_4)).trans hw451_4)))).trans (((HB.out.cell (World.block_lt_of_cell? w _ hw451_4)).trans hw451_4)), (World.cell?_alloc_lt _ _ _ (World.block_lt_of_cell? _ _ (((HB.out.cell (World.block_lt_of_cell? w _ hw451_5)).trans hw451_5)))).trans (((HB.out.cell (World.block_lt_of_cell? w _ hw451_5)).trans hw451_5)), (World.cell?_alloc_lt _ _ _ (World.block_lt_of_cell? _ _ (((HB.out.cell (World.block_lt_of_cell? w _ hw452_0)).trans hw452_0)))).trans (((HB.out.cell (World.block_lt_of_cell? w _ hw452_0)).trans hw452_0)), (World.cell?_alloc_lt _ _ _ (World.block_lt_of_cell? _ _ (((HB.out.cell (World.block_lt_of_cell? w _ hw452_1)).trans hw452_1)))).trans (((HB.out.cell (World.block_lt_of_cell? w _ hw452_1)).trans hw452_1)), (World.cell?_alloc_lt _ _ _ (World.block_lt_of_cell? _ _ (((HB.out.cell (World.block_lt_of_cell? w _ hw452_2)).trans hw452_2)))).trans (((HB.out.cell (World.block_lt_of_cell? w _ hw452_2)).trans hw452_2)), (World.cell?_alloc_lt _ _ _ (World.block_lt_of_cell? _ _ (((HB.out.cell (World.block_lt_of_cell? w _ hw452_3)).trans hw452_3)))).trans (((HB.out.cell (World.block_lt_of_cell? w _ hw452_3)).trans hw452_3)), (World.cell?_alloc_lt _ _ _ (World.block_lt_of_cell? _ _ (((HB.out.cell (World.block_lt_of_cell? w _ hw452_4)).trans hw452_4)))).trans (((HB.out.cell (World.block_lt_of_cell? w _ hw452_4)).trans hw452_4)), (World.cell?_alloc_lt _ _ _ (World.block_lt_of_cell? _ _ (((HB.out.cell (World.block_lt_of_cell? w _ hw452_5)).trans hw452_5)))).trans (((HB.out.cell (World.block_lt_of_cell? w _ hw452_5)).trans hw452_5)), (World.cell?_alloc_lt _ _ _ (World.block_lt_of_cell? _ _ (((HB.out.cell (World.block_lt_of_cell? w _ hw453_0)).trans hw453_0)))).trans (((HB.out.cell (World.block_lt_of_cell? w _ hw453_0)).trans hw453_0)), (World.cell?_alloc_lt _ _ _ (World.block_lt_of_cell? _ _ (((HB.out.cell (World.block_lt_of_cell? w _ hw453_1)).trans hw453_1)))).trans (((HB.out.cell (World.block_lt_of_cell? w _ hw453_1)).trans hw453_1)), (World.cell?_alloc_lt _ _ _ (World.block_lt_of_cell? _ _ (((HB.out.cell (World.block_lt_of_cell? w _ hw453_2)).trans hw453_2)))).trans (((HB.out.cell (World.block_lt_of_cell? w _ hw453_2)).trans hw453_2)), (World.cell?_alloc_lt _ _ _ (World.block_lt_of_cell? _ _ (((HB.out.cell (World.block_lt_of_cell? w _ hw453_3)).trans hw453_3)))).trans (((HB.out.cell (World.block_lt_of_cell? w _ hw453_3)).trans hw453_3)), (World.cell?_alloc_lt _ _ _ (World.block_lt_of_cell? _ _ (((HB.out.cell (World.block_lt_of_cell? w _ hw453_4)).trans hw453_4)))).trans (((HB.out.cell (World.block_lt_of_cell? w _ hw453_4)).trans hw453_4)), (World.cell?_alloc_lt _ _ _ (World.block_lt_of_cell? _ _ (((HB.out.cell (World.block_lt_of_cell? w _ hw453_5)).trans hw453_5)))).trans (((HB.out.cell (World.block_lt_of_cell? w _ hw453_5)).trans hw453_5)), (World.cell?_alloc_lt _ _ _ (World.block_lt_of_cell? _ _ (((HB.out.cell (World.block_lt_of_cell? w _ hw454_0)).trans hw454_0)))).trans (((HB.out.cell (World.block_lt_of_cell? w _ hw454_0)).trans hw454_0)), (World.cell?_alloc_lt _ _ _ (World.block_lt_of_cell? _ _ (((HB.out.cell (World.block_lt_of_cell? w _ hw454_1)).trans hw454_1)))).trans (((HB.out.cell (World.block_lt_of_cell? w _ hw454_1)).trans hw454_1)), (World.cell?_alloc_lt _ _ _ (World.block_lt_of_cell? _ _ (((HB.out.cell (World.block_lt_of_cell? w _ hw454_2)).trans hw454_2)))).trans (((HB.out.cell (World.block_lt_of_cell? w _ hw454_2)).trans hw454_2)), (World.cell?_alloc_lt _ _ _ (World.block_lt_of_cell? _ _ (((HB.out.cell (World.block_lt_of_cell? w _ hw454_3)).trans hw454_3)))).trans (((HB.out.cell (World.block_lt_of_cell? w _ hw454_3)).trans hw454_3)), (World.cell?_alloc_lt _ _ _ (World.block_lt_of_cell? _ _ (((HB.out.cell (World.block_lt_of_cell? w _ hw454_4)).trans hw454_4)))).trans (((HB.out.cell (World.block_lt_of_cell? w _ hw454_4)).trans hw454_4)), (World.cell?_alloc_lt _ _ _ (World.block_lt_of_cell? _ _ (((HB.out.cell (World.block_lt_of_cell? w _ hw454_5)).trans hw454_5)))).trans (((HB.out.cell (World.block_lt_of_cell? w _ hw454_5)).trans hw454_5)), (World.cell?_alloc_lt _ _ _ (World.block_lt_of_cell? _ _ (((HB.out.cell (World.block_lt_of_cell? w _ hw455_0)).trans hw455_0)))).trans (((HB.out.cell (World.block_lt_of_cell? w _ hw455_0)).trans hw455_0)), (World.cell?_alloc_lt _ _ _ (World.block_lt_of_cell? _ _ (((HB.out.cell (World.block_lt_of_cell? w _ hw455_1)).trans hw455_1)))).trans (((HB.out.cell (World.block_lt_of_cell? w _ hw455_1)).trans hw455_1)), (World.cell?_alloc_lt _ _ _ (World.block_lt_of_cell? _ _ (((HB.out.cell (World.block_lt_of_cell? w _ hw455_2)).trans hw455_2)))).trans (((HB.out.cell (World.block_lt_of_cell? w _ hw455_2)).trans hw455_2)), (World.cell?_alloc_lt _ _ _ (World.block_lt_of_cell? _ _ (((HB.out.cell (World.block_lt_of_cell? w _ hw455_3)).trans hw455_3)))).trans (((HB.out.cell (World.block_lt_of_cell? w _ hw455_3)).trans hw455_3)), (World.cell?_alloc_lt _ _ _ (World.block_lt_of_cell? _ _ (((HB.out.cell (World.block_lt_of_cell? w _ hw455_4)).trans hw455_4)))).trans (((HB.out.cell (World.block_lt_of_cell? w _ hw455_4)).trans hw455_4)), (World.cell?_alloc_lt _ _ _ (World.block_lt_of_cell? _ _ (((HB.out.cell (World.block_lt_of_cell? w _ hw455_5)).trans hw455_5)))).trans (((HB.out.cell (World.block_lt_of_cell? w _ hw455_5)).trans hw455_5))⟩ (fun hHeld => ?_)
            clear hK K
            refine norm_ (a' := ?_) ?_ ?_
            rotate_left
            · show Act.put _ (some 43) _ = _
              simp only [Act.put, List.setIfInBounds_toArray, List.set_cons_zero, List.set_cons_succ, i64_w, i32_w, Go.IntKind.wrap_u32]
              rfl
            refine one_ (i := 33) (N := some 44) #[true, true, true, true, true, true, true, true, true, true, true, true, true, true, true, true, true, true, true, true, true, true, true, true, true, true, true, true, true, true, true, true, true, true, false] rfl rfl (one_of HT_.out (by kernel_rfl)) (by decide) (fun K hK => ?_)
            refine Kd.R_append_step k65 (w0 := w) w.heap.size (by rfl) (.tmp 11) (.tmp 43) 45 65 (.agg #[(.int .i64 0), (.bool false), (.int .u64 0), (.int .i64 0), (.int .i64 0), (.int .i64 0)]) 48 rfl Try.underlying45 info65 rfl (by decide) (by omega) u3 x3_1 (⟨(rd_T30 l0 x4_1).f0, (rd_T30 l0 x4_1).f1, (rd_T30 l0 x4_1).f2, (rd_T30 l0 x4_1).f3, (rd_T30 l0 x4_1).f4, (rd_T30 l0 x4_1).f5⟩ : S65) [.int .i64 ((rd_T30 l0 x4_1).f0), .bool ((rd_T30 l0 x4_1).f1), .int .u64 ((rd_T30 l0 x4_1).f2), .int .i64 ((rd_T30 l0 x4_1).f3), .int .i64 ((rd_T30 l0 x4_1).f4), .int .i64 ((rd_T30 l0 x4_1).f5)] (fun _ => True) (fun _ => False) rfl rfl ?aP (fun _ hk => hk.elim) ?aF ?aO ?aB ?aS ?aL ?_
            (case aP => exact k65_mkM _ _ _ (⟨(rd_T30 l0 x4_1).f0, (rd_T30 l0 x4_1).f1, (rd_T30 l0 x4_1).f2, (rd_T30 l0 x4_1).f3, (rd_T30 l0 x4_1).f4, (rd_T30 l0 x4_1).f5⟩ : S65))
            (case aB => exact (by repeat (first | (with_reducible first | exact HB.out | apply below_alloc | apply pw_below_drewN | apply below_drew1) | exact HB.out)))
            (case aF => exact (fun _ _ => trivial))
            (case aO => exact (by (with_reducible repeat (first | apply Kd.R_alloc | apply Kd.R_drewN | apply Kd.R_drew)); exact HO_3.out))
            (case aS => exact (below_size (by repeat (first | (with_reducible first | exact HB.out | apply below_alloc | apply pw_below_drewN | apply below_drew1) | exact HB.out))))
            (case aL => have := LMc4.out; omega)
            intro v457 w6 ho hb hg hat
            rw [← Ny456.out] at ho
            have n0_ := Aside0.mk (hb)
            have n1_ := Aside0.mk (ho)
            clear HB
            clear HO_3
            have HB := n0_
            have HO458 := n1_
            clear n0_ n1_
            clear ho hb hg hat
            refine hK.out _ _ ⟨((HB.out.cell (World.block_lt_of_cell? w _ hw450_0)).trans hw450_0), ((HB.out.cell (World.block_lt_of_cell? w _ hw450_1)).trans hw450_1), ((HB.out.cell (World.block_lt_of_cell? w _ hw450_2)).trans hw450_2), ((HB.out.cell (World.block_lt_of_cell? w _ hw450_3)).trans hw450_3), ((HB.out.cell (World.block_lt_of_cell? w _ hw450_4)).trans hw450_4), ((HB.out.cell (World.block_lt_of_cell? w _ hw450_5)).trans hw450_5), ((HB.out.cell (World.block_lt_of_cell? w _ hw451_0)).trans hw451_0), ((HB.out.cell (World.block_lt_of_cell? w _ hw451_1)).trans hw451_1), ((HB.out.cell (World.block_lt_of_cell? w _ hw451_2)).trans hw451_2), ((HB.out.cell (World.block_lt_of_cell? w _ hw451_3)).trans hw451_3), ((HB.out.cell (World.block_lt_of_cell? w _ hw451_4)).trans hw451_4), ((HB.out.cell (World.block_lt_of_cell? w _ hw451_5)).trans hw451_5), ((HB.out.cell (World.block_lt_of_cell? w _ hw452_0)).trans hw452_0), ((HB.out.cell (World.block_lt_of_cell? w _ hw452_1)).trans hw452_1), ((HB.out.cell (World.block_lt_of_cell? w _ hw452_2)).trans hw452_2), ((HB.out.cell (World.block_lt_of_cell? w _ hw452_3)).trans hw452_3), ((HB.out.cell (World.block_lt_of_cell? w _ hw452_4)).trans hw452_4), ((HB.out.cell (World.block_lt_of_cell? w _ hw452_5)).trans hw452_5), ((HB.out.cell (World.block_lt_of_cell? w _ hw453_0)).trans hw453_0), ((HB.out.cell (World.block_lt_of_cell? w _ hw453_1)).trans hw453_1), ((HB.out.cell (World.block_lt_of_cell? w _ hw453_2)).trans hw453_2), ((HB.out.cell (World.block_lt_of_cell? w _ hw453_3)).trans hw453_3), ((HB.out.cell (World.block_lt_of_cell? w _ hw453_4)).trans hw453_4), ((HB.out.cell (World.block_lt_of_cell? w _ hw453_5)).trans hw453_5), ((HB.out.cell (World.block_lt_of_cell? w _ hw454_0)).trans hw454_0), ((HB.out.cell (World.block_lt_of_cell? w _ hw454_1)).trans hw454_1), ((HB.out.cell (World.block_lt_of_cell? w _ hw454_2)).trans hw454_2), ((HB.out.cell (World.block_lt_of_cell? w _ hw454_3)).trans hw454_3), ((HB.out.cell (World.block_lt_of_cell? w _ hw454_4)).trans hw454_4), ((HB.out.cell (World.block_lt_of_cell? w _ hw454_5)).trans hw454_5), ((HB.out.cell (World.block_lt_of_cell? w _ hw455_0)).trans hw455_0), ((HB.out.cell (World.block_lt_of_cell? w _ hw455_1)).trans hw455_1), ((HB.out.cell (World.block_lt_of_cell? w _ hw455_2)).trans hw455_2), ((HB.out.cell (World.block_lt_of_cell? w _ hw455_3)).trans hw455_3), ((HB.out.cell (World.block_lt_of_cell? w _ hw455_4)).trans hw455_4), ((HB.out.cell (World.block_lt_of_cell? w _ hw455_5)).trans hw455_5)⟩ (fun hHeld => ?_)
            clear hK K
            refine norm_ (a' := ?_) ?_ ?_
            rotate_left
            · show Act.put _ (some 44) _ = _
              simp only [Act.put, List.setIfInBounds_toArray, List.set_cons_zero, List.set_cons_succ, i64_w, i32_w, Go.IntKind.wrap_u32]
              rfl
            refine pure_ (i := 34) (N := some 3) (v := ?_) (a' := ?_) #[true, true, true, true, true, true, true, true, true, true, true, true, true, true, true, true, true, true, true, true, true, true, true, true, true, true, true, true, true, true, true, true, true, true, true] rfl rfl (any_of HT_.out (by kernel_rfl)) (fun _ _ _ h => h) (Or.inl ⟨by rfl, ?_⟩) ?_ ?_
            rotate_left
            · intro w'
              go_simp
              with_reducible rfl
            rotate_left
            · simp only [Act.put, List.setIfInBounds_toArray, List.set_cons_zero, List.set_cons_succ, i64_w, i32_w, Go.IntKind.wrap_u32]
              rfl
            refine done_ (done_of HT_.out (by kernel_rfl)) ?_
            try go_wp2
            go_roundg k1
            case measure => have := HK1.out; omega
            case rel => exact ⟨(y456), (wrap64 (x4_1 + 1)), (by first | rfl | (simp; done) | (simp [*]; done)), H', ⟨by have := HK1.out; omega⟩, ⟨by (with_reducible repeat (first | apply Kd.R_alloc | apply Kd.R_drewN | apply Kd.R_drew)); exact HO458.out⟩, ⟨by repeat (first | (with_reducible first | exact HB.out | apply below_alloc | apply pw_below_drewN | apply below_drew1) | exact HB.out)⟩⟩
          · rw [if_neg c4] at H
            exact absurd H (by simp)
        · rw [if_neg c3] at H
          exact absurd H (by simp)
      · rw [if_neg c2] at H
        have c2b0 : decide (x4_1 < (l0.length : Int)) = false := decide_eq_false c2
        clear c2
        obtain rfl := Option.some.inj H
        go_wp2
        go_ret
        exact ⟨_, by first | rfl | (simp [errW_none, errW_some] <;> rfl) | (simp [*, errW_none, errW_some] <;> rfl), by (with_reducible repeat (first | apply Kd.R_alloc | apply Kd.R_drewN | apply Kd.R_drew)); exact HO_3.out, by repeat (first | (with_reducible first | exact HB.out | apply below_alloc | apply pw_below_drewN | apply below_drew1) | exact HB.out)⟩

end Go.Proofs.Ytdcnnphgcapiaaa.P
