/- Walks, written by a program for this claim: each Go function that the laws reach comes to what its Lean function says. -/
import Derived.Test.YtoafkejmdlcnpaaPx0
import Derived.Test.YtoafkejmdlcnpaaPx2
import Derived.Test.YtoafkejmdlcnpaaPx5
namespace Go.Proofs.Ytoafkejmdlcnpaa.P
open Go.RowKit Go.Proofs.YtoafkejmdlcnpaaW.PrintWords Go.Proofs.YtoafkejmdlcnpaaW.PrintLast Go.Proofs.YtoafkejmdlcnpaaW.PrintMore
attribute [local go_sem] max2_int min2_int max_two min_two max_three min_three max_four min_four   -- for this text's walks alone
set_option linter.unusedVariables false
set_option linter.unusedSimpArgs false

/-! ### hatstandlaw5_LifoCounts: function 7 -/
mutual
def hatstandlaw5_LifoCounts.j0 : Nat → Int → List (S30) → Bool → Bool → Option (Bool)
  | 0, _, _, _, _ => none
  | k + 1, x0, x1, x5, x18 => if x18 = true then (some x5) else ((hatstandlaw5_pick.f x0 10).bind fun t334 => ((lifo_Run.f k ([] : List Int) t334 x1).bind fun bt335 => (if bt335.2 < 0 then (hatstandlaw5_LifoCounts.j1 k x1 t334 bt335.1 bt335.2 true) else (hatstandlaw5_LifoCounts.j1 k x1 t334 bt335.1 bt335.2 (decide (bt335.2 > (x1.length : Int)))))))
def hatstandlaw5_LifoCounts.j1 : Nat → List (S30) → Int → List Int → Int → Bool → Option (Bool)
  | 0, _, _, _, _, _ => none
  | k + 1, x1, x6, x7, x8, x35 => if x35 = true then (some false) else (hatstandlaw5_LifoCounts.l0 k x1 x6 x7 x8 0 0)
def hatstandlaw5_LifoCounts.l0 : Nat → List (S30) → Int → List Int → Int → Int → Int → Option (Bool)
  | 0, _, _, _, _, _, _ => none
  | k + 1, x1, x6, x7, x8, x9, x10 => if x10 < x8 then (if 0 ≤ x10 then (if x10 < (x1.length : Int) then (if ((rd_T30 x1 x10).f2) = 1 then (hatstandlaw5_LifoCounts.j3 k x1 x6 x7 x8 x9 x10 ((rd_T30 x1 x10).f0)) else (hatstandlaw5_LifoCounts.j3 k x1 x6 x7 x8 x9 x10 false)) else (none)) else (none)) else (some ((x7.length : Int) == x9))
def hatstandlaw5_LifoCounts.j3 : Nat → List (S30) → Int → List Int → Int → Int → Int → Bool → Option (Bool)
  | 0, _, _, _, _, _, _, _ => none
  | k + 1, x1, x6, x7, x8, x9, x10, x53 => if x53 = true then (hatstandlaw5_LifoCounts.j4 k x1 x6 x7 x8 (wrap64 (x9 + 1)) x10) else (hatstandlaw5_LifoCounts.j4 k x1 x6 x7 x8 x9 x10)
def hatstandlaw5_LifoCounts.j4 : Nat → List (S30) → Int → List Int → Int → Int → Int → Option (Bool)
  | 0, _, _, _, _, _, _ => none
  | k + 1, x1, x6, x7, x8, x9, x10 => if 0 ≤ x10 then (if x10 < (x1.length : Int) then (if ((rd_T30 x1 x10).f2) = 1 then (hatstandlaw5_LifoCounts.j5 k x1 x6 x7 x8 x9 x10 (!((rd_T30 x1 x10).f0))) else (hatstandlaw5_LifoCounts.j5 k x1 x6 x7 x8 x9 x10 false)) else (none)) else (none)
def hatstandlaw5_LifoCounts.j5 : Nat → List (S30) → Int → List Int → Int → Int → Int → Bool → Option (Bool)
  | 0, _, _, _, _, _, _, _ => none
  | k + 1, x1, x6, x7, x8, x9, x10, x69 => if x69 = true then (if (wrap64 (x9 - 1)) < 0 then (some false) else (if (wrap64 (x9 - 1)) > x6 then (some false) else (hatstandlaw5_LifoCounts.l0 k x1 x6 x7 x8 (wrap64 (x9 - 1)) (wrap64 (x10 + 1))))) else (if x9 < 0 then (some false) else (if x9 > x6 then (some false) else (hatstandlaw5_LifoCounts.l0 k x1 x6 x7 x8 x9 (wrap64 (x10 + 1)))))
end
def hatstandlaw5_LifoCounts.f (k : Nat) (a0 : Int) (l1 : List (S30)) : Option (Bool) := (hatstandlaw5_shown.f k).bind fun t333 => (if t333 = true then (hatstandlaw5_LifoCounts.j0 k a0 l1 t333 (decide ((l1.length : Int) > 200))) else (hatstandlaw5_LifoCounts.j0 k a0 l1 t333 true))
theorem hatstandlaw5_LifoCounts.mono_l : ∀ k, (∀ y0 y1 y2 y3, LeO (hatstandlaw5_LifoCounts.j0 k y0 y1 y2 y3) (hatstandlaw5_LifoCounts.j0 (k + 1) y0 y1 y2 y3)) ∧ (∀ y0 y1 y2 y3 y4, LeO (hatstandlaw5_LifoCounts.j1 k y0 y1 y2 y3 y4) (hatstandlaw5_LifoCounts.j1 (k + 1) y0 y1 y2 y3 y4)) ∧ (∀ y0 y1 y2 y3 y4 y5, LeO (hatstandlaw5_LifoCounts.l0 k y0 y1 y2 y3 y4 y5) (hatstandlaw5_LifoCounts.l0 (k + 1) y0 y1 y2 y3 y4 y5)) ∧ (∀ y0 y1 y2 y3 y4 y5 y6, LeO (hatstandlaw5_LifoCounts.j3 k y0 y1 y2 y3 y4 y5 y6) (hatstandlaw5_LifoCounts.j3 (k + 1) y0 y1 y2 y3 y4 y5 y6)) ∧ (∀ y0 y1 y2 y3 y4 y5, LeO (hatstandlaw5_LifoCounts.j4 k y0 y1 y2 y3 y4 y5) (hatstandlaw5_LifoCounts.j4 (k + 1) y0 y1 y2 y3 y4 y5)) ∧ (∀ y0 y1 y2 y3 y4 y5 y6, LeO (hatstandlaw5_LifoCounts.j5 k y0 y1 y2 y3 y4 y5 y6) (hatstandlaw5_LifoCounts.j5 (k + 1) y0 y1 y2 y3 y4 y5 y6))
  | 0 => ⟨fun _ _ _ _ r h => by simp [hatstandlaw5_LifoCounts.j0] at h, fun _ _ _ _ _ r h => by simp [hatstandlaw5_LifoCounts.j1] at h, fun _ _ _ _ _ _ r h => by simp [hatstandlaw5_LifoCounts.l0] at h, fun _ _ _ _ _ _ _ r h => by simp [hatstandlaw5_LifoCounts.j3] at h, fun _ _ _ _ _ _ r h => by simp [hatstandlaw5_LifoCounts.j4] at h, fun _ _ _ _ _ _ _ r h => by simp [hatstandlaw5_LifoCounts.j5] at h⟩
  | k + 1 => by
    obtain ⟨ih0, ih1, ih2, ih3, ih4, ih5⟩ := hatstandlaw5_LifoCounts.mono_l k
    refine ⟨?_, ?_, ?_, ?_, ?_, ?_⟩
    · intro y0 y1 y2 y3
      unfold hatstandlaw5_LifoCounts.j0
      repeat' first
      | (with_reducible exact ih0 _ _ _ _)
      | (with_reducible exact ih1 _ _ _ _ _)
      | (with_reducible exact ih2 _ _ _ _ _ _)
      | (with_reducible exact ih3 _ _ _ _ _ _ _)
      | (with_reducible exact ih4 _ _ _ _ _ _)
      | (with_reducible exact ih5 _ _ _ _ _ _ _)
      | (with_reducible exact hatstandlaw5_shown.mono _)
      | (with_reducible exact lifo_Run.mono _ _ _ _)
      | (with_reducible exact LeO.refl _)
      | (with_reducible exact LeO.none _)
      | (with_reducible refine LeO.ite ?_ ?_)
      | (with_reducible refine LeO.bind ?_ (fun _ => ?_))
      | exact ih0 _ _ _ _
      | exact ih1 _ _ _ _ _
      | exact ih2 _ _ _ _ _ _
      | exact ih3 _ _ _ _ _ _ _
      | exact ih4 _ _ _ _ _ _
      | exact ih5 _ _ _ _ _ _ _
      | exact hatstandlaw5_shown.mono _
      | exact lifo_Run.mono _ _ _ _
      | exact LeO.none _
      | refine LeO.ite ?_ ?_
      | refine LeO.bind ?_ (fun _ => ?_)
    · intro y0 y1 y2 y3 y4
      unfold hatstandlaw5_LifoCounts.j1
      repeat' first
      | (with_reducible exact ih0 _ _ _ _)
      | (with_reducible exact ih1 _ _ _ _ _)
      | (with_reducible exact ih2 _ _ _ _ _ _)
      | (with_reducible exact ih3 _ _ _ _ _ _ _)
      | (with_reducible exact ih4 _ _ _ _ _ _)
      | (with_reducible exact ih5 _ _ _ _ _ _ _)
      | (with_reducible exact hatstandlaw5_shown.mono _)
      | (with_reducible exact lifo_Run.mono _ _ _ _)
      | (with_reducible exact LeO.refl _)
      | (with_reducible exact LeO.none _)
      | (with_reducible refine LeO.ite ?_ ?_)
      | (with_reducible refine LeO.bind ?_ (fun _ => ?_))
      | exact ih0 _ _ _ _
      | exact ih1 _ _ _ _ _
      | exact ih2 _ _ _ _ _ _
      | exact ih3 _ _ _ _ _ _ _
      | exact ih4 _ _ _ _ _ _
      | exact ih5 _ _ _ _ _ _ _
      | exact hatstandlaw5_shown.mono _
      | exact lifo_Run.mono _ _ _ _
      | exact LeO.none _
      | refine LeO.ite ?_ ?_
      | refine LeO.bind ?_ (fun _ => ?_)
    · intro y0 y1 y2 y3 y4 y5
      unfold hatstandlaw5_LifoCounts.l0
      repeat' first
      | (with_reducible exact ih0 _ _ _ _)
      | (with_reducible exact ih1 _ _ _ _ _)
      | (with_reducible exact ih2 _ _ _ _ _ _)
      | (with_reducible exact ih3 _ _ _ _ _ _ _)
      | (with_reducible exact ih4 _ _ _ _ _ _)
      | (with_reducible exact ih5 _ _ _ _ _ _ _)
      | (with_reducible exact hatstandlaw5_shown.mono _)
      | (with_reducible exact lifo_Run.mono _ _ _ _)
      | (with_reducible exact LeO.refl _)
      | (with_reducible exact LeO.none _)
      | (with_reducible refine LeO.ite ?_ ?_)
      | (with_reducible refine LeO.bind ?_ (fun _ => ?_))
      | exact ih0 _ _ _ _
      | exact ih1 _ _ _ _ _
      | exact ih2 _ _ _ _ _ _
      | exact ih3 _ _ _ _ _ _ _
      | exact ih4 _ _ _ _ _ _
      | exact ih5 _ _ _ _ _ _ _
      | exact hatstandlaw5_shown.mono _
      | exact lifo_Run.mono _ _ _ _
      | exact LeO.none _
      | refine LeO.ite ?_ ?_
      | refine LeO.bind ?_ (fun _ => ?_)
    · intro y0 y1 y2 y3 y4 y5 y6
      unfold hatstandlaw5_LifoCounts.j3
      repeat' first
      | (with_reducible exact ih0 _ _ _ _)
      | (with_reducible exact ih1 _ _ _ _ _)
      | (with_reducible exact ih2 _ _ _ _ _ _)
      | (with_reducible exact ih3 _ _ _ _ _ _ _)
      | (with_reducible exact ih4 _ _ _ _ _ _)
      | (with_reducible exact ih5 _ _ _ _ _ _ _)
      | (with_reducible exact hatstandlaw5_shown.mono _)
      | (with_reducible exact lifo_Run.mono _ _ _ _)
      | (with_reducible exact LeO.refl _)
      | (with_reducible exact LeO.none _)
      | (with_reducible refine LeO.ite ?_ ?_)
      | (with_reducible refine LeO.bind ?_ (fun _ => ?_))
      | exact ih0 _ _ _ _
      | exact ih1 _ _ _ _ _
      | exact ih2 _ _ _ _ _ _
      | exact ih3 _ _ _ _ _ _ _
      | exact ih4 _ _ _ _ _ _
      | exact ih5 _ _ _ _ _ _ _
      | exact hatstandlaw5_shown.mono _
      | exact lifo_Run.mono _ _ _ _
      | exact LeO.none _
      | refine LeO.ite ?_ ?_
      | refine LeO.bind ?_ (fun _ => ?_)
    · intro y0 y1 y2 y3 y4 y5
      unfold hatstandlaw5_LifoCounts.j4
      repeat' first
      | (with_reducible exact ih0 _ _ _ _)
      | (with_reducible exact ih1 _ _ _ _ _)
      | (with_reducible exact ih2 _ _ _ _ _ _)
      | (with_reducible exact ih3 _ _ _ _ _ _ _)
      | (with_reducible exact ih4 _ _ _ _ _ _)
      | (with_reducible exact ih5 _ _ _ _ _ _ _)
      | (with_reducible exact hatstandlaw5_shown.mono _)
      | (with_reducible exact lifo_Run.mono _ _ _ _)
      | (with_reducible exact LeO.refl _)
      | (with_reducible exact LeO.none _)
      | (with_reducible refine LeO.ite ?_ ?_)
      | (with_reducible refine LeO.bind ?_ (fun _ => ?_))
      | exact ih0 _ _ _ _
      | exact ih1 _ _ _ _ _
      | exact ih2 _ _ _ _ _ _
      | exact ih3 _ _ _ _ _ _ _
      | exact ih4 _ _ _ _ _ _
      | exact ih5 _ _ _ _ _ _ _
      | exact hatstandlaw5_shown.mono _
      | exact lifo_Run.mono _ _ _ _
      | exact LeO.none _
      | refine LeO.ite ?_ ?_
      | refine LeO.bind ?_ (fun _ => ?_)
    · intro y0 y1 y2 y3 y4 y5 y6
      unfold hatstandlaw5_LifoCounts.j5
      repeat' first
      | (with_reducible exact ih0 _ _ _ _)
      | (with_reducible exact ih1 _ _ _ _ _)
      | (with_reducible exact ih2 _ _ _ _ _ _)
      | (with_reducible exact ih3 _ _ _ _ _ _ _)
      | (with_reducible exact ih4 _ _ _ _ _ _)
      | (with_reducible exact ih5 _ _ _ _ _ _ _)
      | (with_reducible exact hatstandlaw5_shown.mono _)
      | (with_reducible exact lifo_Run.mono _ _ _ _)
      | (with_reducible exact LeO.refl _)
      | (with_reducible exact LeO.none _)
      | (with_reducible refine LeO.ite ?_ ?_)
      | (with_reducible refine LeO.bind ?_ (fun _ => ?_))
      | exact ih0 _ _ _ _
      | exact ih1 _ _ _ _ _
      | exact ih2 _ _ _ _ _ _
      | exact ih3 _ _ _ _ _ _ _
      | exact ih4 _ _ _ _ _ _
      | exact ih5 _ _ _ _ _ _ _
      | exact hatstandlaw5_shown.mono _
      | exact lifo_Run.mono _ _ _ _
      | exact LeO.none _
      | refine LeO.ite ?_ ?_
      | refine LeO.bind ?_ (fun _ => ?_)
theorem hatstandlaw5_LifoCounts.mono : ∀ a0 a1 k, LeO (hatstandlaw5_LifoCounts.f k a0 a1) (hatstandlaw5_LifoCounts.f (k + 1) a0 a1) := by
  intro a0 a1 k
  obtain ⟨ih0, ih1, ih2, ih3, ih4, ih5⟩ := hatstandlaw5_LifoCounts.mono_l k
  unfold hatstandlaw5_LifoCounts.f
  repeat' first
      | (with_reducible exact ih0 _ _ _ _)
      | (with_reducible exact ih1 _ _ _ _ _)
      | (with_reducible exact ih2 _ _ _ _ _ _)
      | (with_reducible exact ih3 _ _ _ _ _ _ _)
      | (with_reducible exact ih4 _ _ _ _ _ _)
      | (with_reducible exact ih5 _ _ _ _ _ _ _)
      | (with_reducible exact hatstandlaw5_shown.mono _)
      | (with_reducible exact lifo_Run.mono _ _ _ _)
      | (with_reducible exact LeO.refl _)
      | (with_reducible exact LeO.none _)
      | (with_reducible refine LeO.ite ?_ ?_)
      | (with_reducible refine LeO.bind ?_ (fun _ => ?_))
      | exact ih0 _ _ _ _
      | exact ih1 _ _ _ _ _
      | exact ih2 _ _ _ _ _ _
      | exact ih3 _ _ _ _ _ _ _
      | exact ih4 _ _ _ _ _ _
      | exact ih5 _ _ _ _ _ _ _
      | exact hatstandlaw5_shown.mono _
      | exact lifo_Run.mono _ _ _ _
      | exact LeO.none _
      | refine LeO.ite ?_ ?_
      | refine LeO.bind ?_ (fun _ => ?_)
set_option maxHeartbeats 8000000 in
set_option maxRecDepth 100000 in
theorem hatstandlaw5_LifoCounts.calls (k : Nat) (a0 : Int) (A1 : Option Addr) (c1 : Nat) (l1 : List (S30)) (r : Bool) (w : World) (hr1 : Kd.C k30 w A1 l1.length l1) (hc1 : l1.length ≤ c1) (h : hatstandlaw5_LifoCounts.f k a0 l1 = some r) (ht_ : r = true) :
    Calls Try.prog 7 #[.int .i64 a0, .slice A1 l1.length c1] w fun e w' => e = .returned (.bool r) ∧ Below w.heap.size w w' := by
  have HR1 := Aside0.mk hr1
  have HC1 := Aside0.mk hc1
  clear hr1 hc1
  have HB := Aside0.mk (Below.refl w.heap.size w)
  have HT0 := Aside0.mk ht_
  clear ht_
  have H : ((hatstandlaw5_shown.f k).bind fun t333 => (if t333 = true then (hatstandlaw5_LifoCounts.j0 k a0 l1 t333 (decide ((l1.length : Int) > 200))) else (hatstandlaw5_LifoCounts.j0 k a0 l1 t333 true))) = some r := h
  clear h
  replace H := Option.bind_eq_some_iff.mp H
  obtain ⟨t333, A30, H⟩ := H
  replace H : (if t333 = true then (hatstandlaw5_LifoCounts.j0 k a0 l1 t333 (decide ((l1.length : Int) > 200))) else (hatstandlaw5_LifoCounts.j0 k a0 l1 t333 true)) = some r := H
  have A3 := Aside0.mk A30
  clear A30
  have HC4 := Aside0.mk H
  clear H
  go_enter Try.func7, Try.ntmps7
  go_upto_region 2 with (first | ((with_reducible refine gate_callee (f := 10) rfl ?_); refine goesL_ (some 11) rfl rfl Try.func10 (by kernel_rfl) rfl #[] rfl (by (try simp only [List.map_toArray, List.map_cons, List.map_nil]); first | done | rfl | (simp only [List.length_drop, List.length_take]; rfl)) ?_; (with_reducible refine (hatstandlaw5_shown.calls k  t333 _ A3.out).mono ?_); rintro e w5 ⟨rfl, hb⟩; refine ⟨_, rfl, ?_⟩; have n0_ := Aside0.mk (below_step (by repeat (first | (with_reducible first | exact HB.out | apply below_alloc | apply pw_below_drewN | apply below_drew1) | exact HB.out)) hb); clear HB; have HB := n0_; clear n0_; (try clear hb); (try clear hb2); (try clear hk); (try clear hi)))
  (try simp only [Act.put, List.setIfInBounds_toArray, List.set_cons_zero, List.set_cons_succ])
  go_cut [18] (fun v18 wc => ∃ (kq : Nat) (x18_3 : Bool), v18 = .bool x18_3 ∧ Aside0 (hatstandlaw5_LifoCounts.j0 kq a0 l1 t333 x18_3 = some r) ∧ Aside0 (kq ≤ k) ∧ Aside0 (Below w.heap.size w wc))
  case first =>
    have H := HC4.out
    clear HC4
    by_cases c6 : t333 = true
    · subst c6
      have H1 : (hatstandlaw5_LifoCounts.j0 k a0 l1 true (decide ((l1.length : Int) > 200))) = some r := by rw [if_pos rfl] at H; exact H
      clear H
      have H := H1
      clear H1
      have H' := Aside0.mk H
      clear H
      go_wp2
      go_meet
      case rel => exact ⟨_, (decide ((l1.length : Int) > 200)), (by first | rfl | (simp; done) | (simp [*]; done)), H', ⟨by first | omega | exact Nat.le_refl _⟩, ⟨by repeat (first | (with_reducible first | exact HB.out | apply below_alloc | apply pw_below_drewN | apply below_drew1) | exact HB.out)⟩⟩
    · replace c6 := Bool.eq_false_iff.mpr c6
      subst c6
      have H1 : (hatstandlaw5_LifoCounts.j0 k a0 l1 false true) = some r := by rw [if_neg (show ¬ (false = true) by decide)] at H; exact H
      clear H
      have H := H1
      clear H1
      have H' := Aside0.mk H
      clear H
      go_wp2
      go_meet
      case rel => exact ⟨_, (true), (by first | rfl | (simp; done) | (simp [*]; done)), H', ⟨by first | omega | exact Nat.le_refl _⟩, ⟨by repeat (first | (with_reducible first | exact HB.out | apply below_alloc | apply pw_below_drewN | apply below_drew1) | exact HB.out)⟩⟩
  case rest =>
    clear HC4
    try clear c1
    try clear p2
    try clear c6
    obtain ⟨kq, x18_3, rfl, HA, HJ3, HB⟩ := hcut
    cases kq with
    | zero => exact absurd HA.out (by simp [hatstandlaw5_LifoCounts.j0])
    | succ kj3 =>
      have H := HA.out
      clear HA
      simp only [hatstandlaw5_LifoCounts.j0] at H
      by_cases c7 : x18_3 = true
      · subst c7
        have H1 : (some t333) = some r := by rw [if_pos rfl] at H; exact H
        clear H
        have H := H1
        clear H1
        obtain rfl := Option.some.inj H
        go_wp2
        go_ret
        exact ⟨by first | rfl | (simp [errW_none, errW_some] <;> rfl) | (simp [*, errW_none, errW_some] <;> rfl), by repeat (first | (with_reducible first | exact HB.out | apply below_alloc | apply pw_below_drewN | apply below_drew1) | exact HB.out)⟩
      · replace c7 := Bool.eq_false_iff.mpr c7
        subst c7
        have H1 : ((hatstandlaw5_pick.f a0 10).bind fun t334 => ((lifo_Run.f kj3 ([] : List Int) t334 l1).bind fun bt335 => (if bt335.2 < 0 then (hatstandlaw5_LifoCounts.j1 kj3 l1 t334 bt335.1 bt335.2 true) else (hatstandlaw5_LifoCounts.j1 kj3 l1 t334 bt335.1 bt335.2 (decide (bt335.2 > (l1.length : Int))))))) = some r := by rw [if_neg (show ¬ (false = true) by decide)] at H; exact H
        clear H
        have H := H1
        clear H1
        replace H := Option.bind_eq_some_iff.mp H
        obtain ⟨t334, A80, H⟩ := H
        replace H : ((lifo_Run.f kj3 ([] : List Int) t334 l1).bind fun bt335 => (if bt335.2 < 0 then (hatstandlaw5_LifoCounts.j1 kj3 l1 t334 bt335.1 bt335.2 true) else (hatstandlaw5_LifoCounts.j1 kj3 l1 t334 bt335.1 bt335.2 (decide (bt335.2 > (l1.length : Int)))))) = some r := H
        have A8 := Aside0.mk A80
        clear A80
        replace H := Option.bind_eq_some_iff.mp H
        obtain ⟨⟨t335, t336⟩, A90, H⟩ := H
        replace H : (if t336 < 0 then (hatstandlaw5_LifoCounts.j1 kj3 l1 t334 t335 t336 true) else (hatstandlaw5_LifoCounts.j1 kj3 l1 t334 t335 t336 (decide (t336 > (l1.length : Int))))) = some r := H
        have A9 := Aside0.mk A90
        clear A90
        have HC10 := Aside0.mk H
        clear H
        go_upto_region 6 with (first | ((with_reducible refine gate_callee (f := 21) rfl ?_); refine goesL_ (some 21) rfl rfl Try.func21 (by kernel_rfl) rfl #[.int .i64 a0, .int .i64 10] rfl (by (try simp only [List.map_toArray, List.map_cons, List.map_nil]); first | done | rfl | (simp only [List.length_drop, List.length_take]; rfl)) ?_; (with_reducible refine (hatstandlaw5_pick.calls a0 10 t334 _ A8.out).mono ?_); rintro e w' ⟨rfl, ⟨nd, rfl⟩⟩; refine ⟨_, rfl, ?_⟩) | ((with_reducible refine gate_callee (f := 19) rfl ?_); refine goesL_ (some 25) rfl rfl Try.func19 (by kernel_rfl) rfl #[.slice none 0 0, .int .i64 t334, .slice A1 l1.length c1] rfl (by (try simp only [List.map_toArray, List.map_cons, List.map_nil]); first | done | rfl | (simp only [List.length_drop, List.length_take]; rfl)) ?_; (refine (lifo_Run.calls kj3 _ _ ([] : List Int) t334 _ _ l1 t335 t336 _ ?side1 ?side2 ?side3 ?side4 A9.out).mono ?_); (case side1 => exact Kd.C_nil _ _); (case side2 => exact Nat.le_refl _); (case side3 => repeat (first | exact (Kd.C_below HR1.out (by repeat (first | (with_reducible first | exact HB.out | apply below_alloc | apply pw_below_drewN | apply below_drew1) | exact HB.out))) | (with_reducible refine Kd.C_alloc ?_ _) | (with_reducible refine Kd.C_drewN ?_ _) | (with_reducible refine Kd.C_drew ?_))); (case side4 => exact HC1.out); rintro e w11 ⟨v337, rfl, ho0, hb⟩; refine ⟨_, rfl, ?_⟩; have n0_ := Aside0.mk (Kd.R_lower ho0 (below_size (by repeat (first | (with_reducible first | exact HB.out | apply below_alloc | apply pw_below_drewN | apply below_drew1) | exact HB.out)))); have n1_ := Aside0.mk (below_step (by repeat (first | (with_reducible first | exact HB.out | apply below_alloc | apply pw_below_drewN | apply below_drew1) | exact HB.out)) hb); clear HB; have HO338 := n0_; have HB := n1_; clear n0_ n1_; (try clear hb); (try clear hb2); (try clear hk); (try clear hi); (try clear ho0)))
        (try simp only [Act.put, List.setIfInBounds_toArray, List.set_cons_zero, List.set_cons_succ])
        go_cut [35] (fun v35 wc => ∃ (kq : Nat) (x35_9 : Bool), v35 = .bool x35_9 ∧ Aside0 (hatstandlaw5_LifoCounts.j1 kq l1 t334 t335 t336 x35_9 = some r) ∧ Aside0 (kq ≤ kj3) ∧ Aside0 (Kd.R (Kd.int .u64) 28 wc w.heap.size (fun _ => True) v337 t335) ∧ Aside0 (Below w.heap.size w wc))
        case first =>
          have H := HC10.out
          clear HC10
          by_cases c12 : t336 < 0
          · rw [if_pos c12] at H
            have c12b0 : decide (t336 < 0) = true := decide_eq_true c12
            clear c12
            (first | rw [c12b0] | (simp only [i64_w, i32_w, Go.IntKind.wrap_u32]; rw [c12b0]) | skip)
            have H' := Aside0.mk H
            clear H
            go_wp2
            go_meet
            case rel => exact ⟨_, (true), (by first | rfl | (simp; done) | (simp [*]; done)), H', ⟨by have := HJ3.out; first | omega | exact Nat.le_refl _⟩, ⟨by (with_reducible repeat (first | apply Kd.R_alloc | apply Kd.R_drewN | apply Kd.R_drew)); exact HO338.out⟩, ⟨by repeat (first | (with_reducible first | exact HB.out | apply below_alloc | apply pw_below_drewN | apply below_drew1) | exact HB.out)⟩⟩
          · rw [if_neg c12] at H
            have c12b0 : decide (t336 < 0) = false := decide_eq_false c12
            clear c12
            (first | rw [c12b0] | (simp only [i64_w, i32_w, Go.IntKind.wrap_u32]; rw [c12b0]) | skip)
            have H' := Aside0.mk H
            clear H
            go_wp2
            go_meet
            case rel => exact ⟨_, (decide (t336 > (l1.length : Int))), (by first | rfl | (simp; done) | (simp [*]; done)), H', ⟨by have := HJ3.out; first | omega | exact Nat.le_refl _⟩, ⟨by (with_reducible repeat (first | apply Kd.R_alloc | apply Kd.R_drewN | apply Kd.R_drew)); exact HO338.out⟩, ⟨by repeat (first | (with_reducible first | exact HB.out | apply below_alloc | apply pw_below_drewN | apply below_drew1) | exact HB.out)⟩⟩
        case rest =>
          clear HC10
          try clear c1
          try clear c2
          try clear p2
          try clear c6
          try clear c7
          try clear c10
          try clear c12
          try clear c12b0
          try clear p2
          obtain ⟨kq, x35_9, rfl, HA, HJ9, HO_7, HB⟩ := hcut
          cases kq with
          | zero => exact absurd HA.out (by simp [hatstandlaw5_LifoCounts.j1])
          | succ kj9 =>
            have H := HA.out
            clear HA
            simp only [hatstandlaw5_LifoCounts.j1] at H
            by_cases c13 : x35_9 = true
            · subst c13
              have H1 : (some false) = some r := by rw [if_pos rfl] at H; exact H
              clear H
              have H := H1
              clear H1
              exact absurd ((Option.some.inj H).trans HT0.out) (by decide)
            · replace c13 := Bool.eq_false_iff.mpr c13
              subst c13
              have H1 : (hatstandlaw5_LifoCounts.l0 kj9 l1 t334 t335 t336 0 0) = some r := by rw [if_neg (show ¬ (false = true) by decide)] at H; exact H
              clear H
              have H := H1
              clear H1
              have H' := Aside0.mk H
              clear H
              go_wp2
              go_loopg [9, 10] kj9 (fun kq v9 v10 w' => ∃ (x9_3 : Int) (x10_3 : Int), v9 = .int .i64 x9_3 ∧ v10 = .int .i64 x10_3 ∧ Aside0 (hatstandlaw5_LifoCounts.l0 kq l1 t334 t335 t336 x9_3 x10_3 = some r) ∧ Aside0 (kq ≤ kj9) ∧ Aside0 (Kd.R (Kd.int .u64) 28 w' w.heap.size (fun _ => True) v337 t335) ∧ Aside0 (Below w.heap.size w w'))
              case atStart => exact ⟨(0), (0), (by first | rfl | (simp; done) | (simp [*]; done)), (by first | rfl | (simp; done) | (simp [*]; done)), H', ⟨Nat.le_refl _⟩, ⟨by (with_reducible repeat (first | apply Kd.R_alloc | apply Kd.R_drewN | apply Kd.R_drew)); exact HO_7.out⟩, ⟨by repeat (first | (with_reducible first | exact HB.out | apply below_alloc | apply pw_below_drewN | apply below_drew1) | exact HB.out)⟩⟩
              case round =>
                clear H'
                try clear c1
                try clear c2
                try clear p2
                try clear c6
                try clear c7
                try clear c10
                try clear c12
                try clear c12b0
                try clear c13
                try clear p2
                obtain ⟨x9_3, x10_3, rfl, rfl, HA, HK3, HO_7, HB⟩ := hrel
                cases gk with
                | zero => exact absurd HA.out (by simp [hatstandlaw5_LifoCounts.l0])
                | succ k3 =>
                  have H := HA.out
                  clear HA
                  simp only [hatstandlaw5_LifoCounts.l0] at H
                  by_cases c14 : x10_3 < t336
                  · rw [if_pos c14] at H
                    have c14b0 : decide (x10_3 < t336) = true := decide_eq_true c14
                    clear c14
                    have HC15 := Aside0.mk H
                    clear H
                    go_upto_region 12 with (fail)
                    go_cut [53] (fun v53 wc => ∃ (kq : Nat) (x53_14 : Bool), v53 = .bool x53_14 ∧ Aside0 (hatstandlaw5_LifoCounts.j3 kq l1 t334 t335 t336 x9_3 x10_3 x53_14 = some r) ∧ Aside0 (kq ≤ k3) ∧ Aside0 (Kd.R (Kd.int .u64) 28 wc w.heap.size (fun _ => True) v337 t335) ∧ Aside0 (Below w.heap.size w wc))
                    case first =>
                      have H := HC15.out
                      clear HC15
                      by_cases c16 : 0 ≤ x10_3
                      · rw [if_pos c16] at H
                        have c16b0 : decide (0 ≤ x10_3) = true := decide_eq_true c16
                        clear c16
                        (first | rw [c16b0] | (simp only [i64_w, i32_w, Go.IntKind.wrap_u32]; rw [c16b0]) | skip)
                        by_cases c17 : x10_3 < (l1.length : Int)
                        · rw [if_pos c17] at H
                          have c17b0 : decide (x10_3 < (l1.length : Int)) = true := decide_eq_true c17
                          clear c17
                          by_cases c18 : ((rd_T30 l1 x10_3).f2) = 1
                          · rw [if_pos c18] at H
                            have c18b0 : (((rd_T30 l1 x10_3).f2) == 1) = true := beq_iff_eq.mpr c18
                            have c18b1 : (((rd_T30 l1 x10_3).f2) != 1) = false := bne_eq_false_iff_eq.mpr c18
                            clear c18
                            have H' := Aside0.mk H
                            clear H
                            have p339 : 0 ≤ (x10_3 : Int) := of_decide_eq_true (by first | (with_reducible assumption) | assumption)
                            have q339 : x10_3 < (l1.length : Int) := of_decide_eq_true (by first | (with_reducible assumption) | assumption)
                            obtain ⟨ad339, e339, hx339_0, hx339_1, hx339_2⟩ := at_T30 HR1.out x10_3 p339 q339
                            cases e339
                            replace hx339_0 := (HB.out.cell (World.block_lt_of_cell? w _ hx339_0)).trans hx339_0
                            replace hx339_1 := (HB.out.cell (World.block_lt_of_cell? w _ hx339_1)).trans hx339_1
                            replace hx339_2 := (HB.out.cell (World.block_lt_of_cell? w _ hx339_2)).trans hx339_2
                            replace p339 := eq_true p339
                            replace q339 := eq_true q339
                            have p340 : 0 ≤ (x10_3 : Int) := of_decide_eq_true (by first | (with_reducible assumption) | assumption)
                            have q340 : x10_3 < (l1.length : Int) := of_decide_eq_true (by first | (with_reducible assumption) | assumption)
                            obtain ⟨ad340, e340, hx340_0, hx340_1, hx340_2⟩ := at_T30 HR1.out x10_3 p340 q340
                            obtain rfl : ad339 = ad340 := (by injection e340)
                            replace hx340_0 := (HB.out.cell (World.block_lt_of_cell? w _ hx340_0)).trans hx340_0
                            replace hx340_1 := (HB.out.cell (World.block_lt_of_cell? w _ hx340_1)).trans hx340_1
                            replace hx340_2 := (HB.out.cell (World.block_lt_of_cell? w _ hx340_2)).trans hx340_2
                            replace p340 := eq_true p340
                            replace q340 := eq_true q340
                            go_wp2
                            go_meet
                            case rel => exact ⟨_, ((rd_T30 l1 x10_3).f0), (by first | rfl | (simp; done) | (simp [*]; done)), H', ⟨by have := HJ3.out; have := HJ9.out; have := HK3.out; first | omega | exact Nat.le_refl _⟩, ⟨by (with_reducible repeat (first | apply Kd.R_alloc | apply Kd.R_drewN | apply Kd.R_drew)); exact HO_7.out⟩, ⟨by repeat (first | (with_reducible first | exact HB.out | apply below_alloc | apply pw_below_drewN | apply below_drew1) | exact HB.out)⟩⟩
                          · rw [if_neg c18] at H
                            have c18b0 : (((rd_T30 l1 x10_3).f2) == 1) = false := beq_eq_false_iff_ne.mpr c18
                            have c18b1 : (((rd_T30 l1 x10_3).f2) != 1) = true := bne_iff_ne.mpr c18
                            have H' := Aside0.mk H
                            clear H
                            have p339 : 0 ≤ (x10_3 : Int) := of_decide_eq_true (by first | (with_reducible assumption) | assumption)
                            have q339 : x10_3 < (l1.length : Int) := of_decide_eq_true (by first | (with_reducible assumption) | assumption)
                            obtain ⟨ad339, e339, hx339_0, hx339_1, hx339_2⟩ := at_T30 HR1.out x10_3 p339 q339
                            cases e339
                            replace hx339_0 := (HB.out.cell (World.block_lt_of_cell? w _ hx339_0)).trans hx339_0
                            replace hx339_1 := (HB.out.cell (World.block_lt_of_cell? w _ hx339_1)).trans hx339_1
                            replace hx339_2 := (HB.out.cell (World.block_lt_of_cell? w _ hx339_2)).trans hx339_2
                            replace p339 := eq_true p339
                            replace q339 := eq_true q339
                            go_wp2
                            go_meet
                            case rel => exact ⟨_, (false), (by first | rfl | (simp; done) | (simp [*]; done)), H', ⟨by have := HJ3.out; have := HJ9.out; have := HK3.out; first | omega | exact Nat.le_refl _⟩, ⟨by (with_reducible repeat (first | apply Kd.R_alloc | apply Kd.R_drewN | apply Kd.R_drew)); exact HO_7.out⟩, ⟨by repeat (first | (with_reducible first | exact HB.out | apply below_alloc | apply pw_below_drewN | apply below_drew1) | exact HB.out)⟩⟩
                        · rw [if_neg c17] at H
                          exact absurd H (by simp)
                      · rw [if_neg c16] at H
                        exact absurd H (by simp)
                    case rest =>
                      clear HC15
                      try clear c1
                      try clear c2
                      try clear p2
                      try clear p3
                      try clear q3
                      try clear hx3
                      try clear c6
                      try clear c7
                      try clear c10
                      try clear c12
                      try clear c12b0
                      try clear c13
                      try clear c14
                      try clear c14b0
                      try clear c16
                      try clear c16b0
                      try clear c17
                      try clear c17b0
                      try clear c18
                      try clear c18b0
                      try clear c18b1
                      try clear hx339_0
                      try clear hx339_1
                      try clear hx339_2
                      try clear hx340_0
                      try clear hx340_1
                      try clear hx340_2
                      try clear p2
                      try clear p339
                      try clear p340
                      try clear q339
                      try clear q340
                      obtain ⟨kq, x53_14, rfl, HA, HJ14, HO_7, HB⟩ := hcut
                      cases kq with
                      | zero => exact absurd HA.out (by simp [hatstandlaw5_LifoCounts.j3])
                      | succ kj14 =>
                        have H := HA.out
                        clear HA
                        simp only [hatstandlaw5_LifoCounts.j3] at H
                        have HC19 := Aside0.mk H
                        clear H
                        go_upto_if 53 with (fail)
                        go_cut [9] (fun v9 wc => ∃ (kq : Nat) (x9_18 : Int), v9 = .int .i64 x9_18 ∧ Aside0 (hatstandlaw5_LifoCounts.j4 kq l1 t334 t335 t336 x9_18 x10_3 = some r) ∧ Aside0 (kq ≤ kj14) ∧ Aside0 (Kd.R (Kd.int .u64) 28 wc w.heap.size (fun _ => True) v337 t335) ∧ Aside0 (Below w.heap.size w wc))
                        case first =>
                          have H := HC19.out
                          clear HC19
                          by_cases c20 : x53_14 = true
                          · subst c20
                            have H1 : (hatstandlaw5_LifoCounts.j4 kj14 l1 t334 t335 t336 (wrap64 (x9_3 + 1)) x10_3) = some r := by rw [if_pos rfl] at H; exact H
                            clear H
                            have H := H1
                            clear H1
                            have H' := Aside0.mk H
                            clear H
                            go_wp2
                            go_meet
                            case rel => exact ⟨_, (wrap64 (x9_3 + 1)), (by first | rfl | (simp; done) | (simp [*]; done)), H', ⟨by have := HJ3.out; have := HJ9.out; have := HK3.out; have := HJ14.out; first | omega | exact Nat.le_refl _⟩, ⟨by (with_reducible repeat (first | apply Kd.R_alloc | apply Kd.R_drewN | apply Kd.R_drew)); exact HO_7.out⟩, ⟨by repeat (first | (with_reducible first | exact HB.out | apply below_alloc | apply pw_below_drewN | apply below_drew1) | exact HB.out)⟩⟩
                          · replace c20 := Bool.eq_false_iff.mpr c20
                            subst c20
                            have H1 : (hatstandlaw5_LifoCounts.j4 kj14 l1 t334 t335 t336 x9_3 x10_3) = some r := by rw [if_neg (show ¬ (false = true) by decide)] at H; exact H
                            clear H
                            have H := H1
                            clear H1
                            have H' := Aside0.mk H
                            clear H
                            go_wp2
                            go_meet
                            case rel => exact ⟨_, (x9_3), (by first | rfl | (simp; done) | (simp [*]; done)), H', ⟨by have := HJ3.out; have := HJ9.out; have := HK3.out; have := HJ14.out; first | omega | exact Nat.le_refl _⟩, ⟨by (with_reducible repeat (first | apply Kd.R_alloc | apply Kd.R_drewN | apply Kd.R_drew)); exact HO_7.out⟩, ⟨by repeat (first | (with_reducible first | exact HB.out | apply below_alloc | apply pw_below_drewN | apply below_drew1) | exact HB.out)⟩⟩
                        case rest =>
                          clear HC19
                          try clear c1
                          try clear c2
                          try clear p2
                          try clear p3
                          try clear q3
                          try clear hx3
                          try clear c6
                          try clear p6
                          try clear c7
                          try clear c10
                          try clear c12
                          try clear c12b0
                          try clear c13
                          try clear c14
                          try clear c14b0
                          try clear c16
                          try clear c16b0
                          try clear c17
                          try clear c17b0
                          try clear c18
                          try clear c18b0
                          try clear c18b1
                          try clear c19
                          try clear c20
                          try clear hx339_0
                          try clear hx339_1
                          try clear hx339_2
                          try clear hx340_0
                          try clear hx340_1
                          try clear hx340_2
                          try clear p2
                          try clear p3
                          try clear p339
                          try clear p340
                          try clear q3
                          try clear q339
                          try clear q340
                          obtain ⟨kq, x9_18, rfl, HA, HJ18, HO_7, HB⟩ := hcut
                          cases kq with
                          | zero => exact absurd HA.out (by simp [hatstandlaw5_LifoCounts.j4])
                          | succ kj18 =>
                            have H := HA.out
                            clear HA
                            simp only [hatstandlaw5_LifoCounts.j4] at H
                            have HC21 := Aside0.mk H
                            clear H
                            go_upto_region 14 with (fail)
                            go_cut [69] (fun v69 wc => ∃ (kq : Nat) (x69_20 : Bool), v69 = .bool x69_20 ∧ Aside0 (hatstandlaw5_LifoCounts.j5 kq l1 t334 t335 t336 x9_18 x10_3 x69_20 = some r) ∧ Aside0 (kq ≤ kj18) ∧ Aside0 (Kd.R (Kd.int .u64) 28 wc w.heap.size (fun _ => True) v337 t335) ∧ Aside0 (Below w.heap.size w wc))
                            case first =>
                              have H := HC21.out
                              clear HC21
                              by_cases c22 : 0 ≤ x10_3
                              · rw [if_pos c22] at H
                                have c22b0 : decide (0 ≤ x10_3) = true := decide_eq_true c22
                                clear c22
                                (first | rw [c22b0] | (simp only [i64_w, i32_w, Go.IntKind.wrap_u32]; rw [c22b0]) | skip)
                                by_cases c23 : x10_3 < (l1.length : Int)
                                · rw [if_pos c23] at H
                                  have c23b0 : decide (x10_3 < (l1.length : Int)) = true := decide_eq_true c23
                                  clear c23
                                  by_cases c24 : ((rd_T30 l1 x10_3).f2) = 1
                                  · rw [if_pos c24] at H
                                    have c24b0 : (((rd_T30 l1 x10_3).f2) == 1) = true := beq_iff_eq.mpr c24
                                    have c24b1 : (((rd_T30 l1 x10_3).f2) != 1) = false := bne_eq_false_iff_eq.mpr c24
                                    clear c24
                                    have H' := Aside0.mk H
                                    clear H
                                    have p341 : 0 ≤ (x10_3 : Int) := of_decide_eq_true (by first | (with_reducible assumption) | assumption)
                                    have q341 : x10_3 < (l1.length : Int) := of_decide_eq_true (by first | (with_reducible assumption) | assumption)
                                    obtain ⟨ad341, e341, hx341_0, hx341_1, hx341_2⟩ := at_T30 HR1.out x10_3 p341 q341
                                    cases e341
                                    replace hx341_0 := (HB.out.cell (World.block_lt_of_cell? w _ hx341_0)).trans hx341_0
                                    replace hx341_1 := (HB.out.cell (World.block_lt_of_cell? w _ hx341_1)).trans hx341_1
                                    replace hx341_2 := (HB.out.cell (World.block_lt_of_cell? w _ hx341_2)).trans hx341_2
                                    replace p341 := eq_true p341
                                    replace q341 := eq_true q341
                                    have p342 : 0 ≤ (x10_3 : Int) := of_decide_eq_true (by first | (with_reducible assumption) | assumption)
                                    have q342 : x10_3 < (l1.length : Int) := of_decide_eq_true (by first | (with_reducible assumption) | assumption)
                                    obtain ⟨ad342, e342, hx342_0, hx342_1, hx342_2⟩ := at_T30 HR1.out x10_3 p342 q342
                                    obtain rfl : ad341 = ad342 := (by injection e342)
                                    replace hx342_0 := (HB.out.cell (World.block_lt_of_cell? w _ hx342_0)).trans hx342_0
                                    replace hx342_1 := (HB.out.cell (World.block_lt_of_cell? w _ hx342_1)).trans hx342_1
                                    replace hx342_2 := (HB.out.cell (World.block_lt_of_cell? w _ hx342_2)).trans hx342_2
                                    replace p342 := eq_true p342
                                    replace q342 := eq_true q342
                                    go_wp2
                                    go_meet
                                    case rel => exact ⟨_, (!((rd_T30 l1 x10_3).f0)), (by first | rfl | (simp; done) | (simp [*]; done)), H', ⟨by have := HJ3.out; have := HJ9.out; have := HK3.out; have := HJ14.out; have := HJ18.out; first | omega | exact Nat.le_refl _⟩, ⟨by (with_reducible repeat (first | apply Kd.R_alloc | apply Kd.R_drewN | apply Kd.R_drew)); exact HO_7.out⟩, ⟨by repeat (first | (with_reducible first | exact HB.out | apply below_alloc | apply pw_below_drewN | apply below_drew1) | exact HB.out)⟩⟩
                                  · rw [if_neg c24] at H
                                    have c24b0 : (((rd_T30 l1 x10_3).f2) == 1) = false := beq_eq_false_iff_ne.mpr c24
                                    have c24b1 : (((rd_T30 l1 x10_3).f2) != 1) = true := bne_iff_ne.mpr c24
                                    have H' := Aside0.mk H
                                    clear H
                                    have p341 : 0 ≤ (x10_3 : Int) := of_decide_eq_true (by first | (with_reducible assumption) | assumption)
                                    have q341 : x10_3 < (l1.length : Int) := of_decide_eq_true (by first | (with_reducible assumption) | assumption)
                                    obtain ⟨ad341, e341, hx341_0, hx341_1, hx341_2⟩ := at_T30 HR1.out x10_3 p341 q341
                                    cases e341
                                    replace hx341_0 := (HB.out.cell (World.block_lt_of_cell? w _ hx341_0)).trans hx341_0
                                    replace hx341_1 := (HB.out.cell (World.block_lt_of_cell? w _ hx341_1)).trans hx341_1
                                    replace hx341_2 := (HB.out.cell (World.block_lt_of_cell? w _ hx341_2)).trans hx341_2
                                    replace p341 := eq_true p341
                                    replace q341 := eq_true q341
                                    go_wp2
                                    go_meet
                                    case rel => exact ⟨_, (false), (by first | rfl | (simp; done) | (simp [*]; done)), H', ⟨by have := HJ3.out; have := HJ9.out; have := HK3.out; have := HJ14.out; have := HJ18.out; first | omega | exact Nat.le_refl _⟩, ⟨by (with_reducible repeat (first | apply Kd.R_alloc | apply Kd.R_drewN | apply Kd.R_drew)); exact HO_7.out⟩, ⟨by repeat (first | (with_reducible first | exact HB.out | apply below_alloc | apply pw_below_drewN | apply below_drew1) | exact HB.out)⟩⟩
                                · rw [if_neg c23] at H
                                  exact absurd H (by simp)
                              · rw [if_neg c22] at H
                                exact absurd H (by simp)
                            case rest =>
                              clear HC21
                              try clear c1
                              try clear c2
                              try clear p2
                              try clear p3
                              try clear q3
                              try clear hx3
                              try clear c6
                              try clear p6
                              try clear c7
                              try clear c10
                              try clear c12
                              try clear c12b0
                              try clear c13
                              try clear c14
                              try clear c14b0
                              try clear c16
                              try clear c16b0
                              try clear c17
                              try clear c17b0
                              try clear c18
                              try clear c18b0
                              try clear c18b1
                              try clear c19
                              try clear c20
                              try clear c21
                              try clear c22
                              try clear c22b0
                              try clear c23
                              try clear c23b0
                              try clear c24
                              try clear c24b0
                              try clear c24b1
                              try clear hx339_0
                              try clear hx339_1
                              try clear hx339_2
                              try clear hx340_0
                              try clear hx340_1
                              try clear hx340_2
                              try clear hx341_0
                              try clear hx341_1
                              try clear hx341_2
                              try clear hx342_0
                              try clear hx342_1
                              try clear hx342_2
                              try clear p2
                              try clear p3
                              try clear p339
                              try clear p340
                              try clear p341
                              try clear p342
                              try clear p6
                              try clear q3
                              try clear q339
                              try clear q340
                              try clear q341
                              try clear q342
                              obtain ⟨kq, x69_20, rfl, HA, HJ20, HO_7, HB⟩ := hcut
                              cases kq with
                              | zero => exact absurd HA.out (by simp [hatstandlaw5_LifoCounts.j5])
                              | succ kj20 =>
                                have H := HA.out
                                clear HA
                                simp only [hatstandlaw5_LifoCounts.j5] at H
                                by_cases c25 : x69_20 = true
                                · subst c25
                                  have H1 : (if (wrap64 (x9_18 - 1)) < 0 then (some false) else (if (wrap64 (x9_18 - 1)) > t334 then (some false) else (hatstandlaw5_LifoCounts.l0 kj20 l1 t334 t335 t336 (wrap64 (x9_18 - 1)) (wrap64 (x10_3 + 1))))) = some r := by rw [if_pos rfl] at H; exact H
                                  clear H
                                  have H := H1
                                  clear H1
                                  by_cases c26 : (wrap64 (x9_18 - 1)) < 0
                                  · rw [if_pos c26] at H
                                    have c26b0 : decide ((wrap64 (x9_18 - 1)) < 0) = true := decide_eq_true c26
                                    clear c26
                                    exact absurd ((Option.some.inj H).trans HT0.out) (by decide)
                                  · rw [if_neg c26] at H
                                    have c26b0 : decide ((wrap64 (x9_18 - 1)) < 0) = false := decide_eq_false c26
                                    clear c26
                                    by_cases c27 : (wrap64 (x9_18 - 1)) > t334
                                    · rw [if_pos c27] at H
                                      have c27b0 : decide (t334 < (wrap64 (x9_18 - 1))) = true := decide_eq_true c27
                                      clear c27
                                      exact absurd ((Option.some.inj H).trans HT0.out) (by decide)
                                    · rw [if_neg c27] at H
                                      have c27b0 : decide (t334 < (wrap64 (x9_18 - 1))) = false := decide_eq_false c27
                                      clear c27
                                      have H' := Aside0.mk H
                                      clear H
                                      go_wp2
                                      go_roundg kj20
                                      case measure => have := HJ3.out; have := HJ9.out; have := HK3.out; have := HJ14.out; have := HJ18.out; have := HJ20.out; omega
                                      case rel => exact ⟨(wrap64 (x9_18 - 1)), (wrap64 (x10_3 + 1)), (by first | rfl | (simp; done) | (simp [*]; done)), (by first | rfl | (simp; done) | (simp [*]; done)), H', ⟨by have := HJ3.out; have := HJ9.out; have := HK3.out; have := HJ14.out; have := HJ18.out; have := HJ20.out; omega⟩, ⟨by (with_reducible repeat (first | apply Kd.R_alloc | apply Kd.R_drewN | apply Kd.R_drew)); exact HO_7.out⟩, ⟨by repeat (first | (with_reducible first | exact HB.out | apply below_alloc | apply pw_below_drewN | apply below_drew1) | exact HB.out)⟩⟩
                                · replace c25 := Bool.eq_false_iff.mpr c25
                                  subst c25
                                  have H1 : (if x9_18 < 0 then (some false) else (if x9_18 > t334 then (some false) else (hatstandlaw5_LifoCounts.l0 kj20 l1 t334 t335 t336 x9_18 (wrap64 (x10_3 + 1))))) = some r := by rw [if_neg (show ¬ (false = true) by decide)] at H; exact H
                                  clear H
                                  have H := H1
                                  clear H1
                                  by_cases c28 : x9_18 < 0
                                  · rw [if_pos c28] at H
                                    have c28b0 : decide (x9_18 < 0) = true := decide_eq_true c28
                                    clear c28
                                    exact absurd ((Option.some.inj H).trans HT0.out) (by decide)
                                  · rw [if_neg c28] at H
                                    have c28b0 : decide (x9_18 < 0) = false := decide_eq_false c28
                                    clear c28
                                    by_cases c29 : x9_18 > t334
                                    · rw [if_pos c29] at H
                                      have c29b0 : decide (t334 < x9_18) = true := decide_eq_true c29
                                      clear c29
                                      exact absurd ((Option.some.inj H).trans HT0.out) (by decide)
                                    · rw [if_neg c29] at H
                                      have c29b0 : decide (t334 < x9_18) = false := decide_eq_false c29
                                      clear c29
                                      have H' := Aside0.mk H
                                      clear H
                                      go_wp2
                                      go_roundg kj20
                                      case measure => have := HJ3.out; have := HJ9.out; have := HK3.out; have := HJ14.out; have := HJ18.out; have := HJ20.out; omega
                                      case rel => exact ⟨(x9_18), (wrap64 (x10_3 + 1)), (by first | rfl | (simp; done) | (simp [*]; done)), (by first | rfl | (simp; done) | (simp [*]; done)), H', ⟨by have := HJ3.out; have := HJ9.out; have := HK3.out; have := HJ14.out; have := HJ18.out; have := HJ20.out; omega⟩, ⟨by (with_reducible repeat (first | apply Kd.R_alloc | apply Kd.R_drewN | apply Kd.R_drew)); exact HO_7.out⟩, ⟨by repeat (first | (with_reducible first | exact HB.out | apply below_alloc | apply pw_below_drewN | apply below_drew1) | exact HB.out)⟩⟩
                  · rw [if_neg c14] at H
                    have c14b0 : decide (x10_3 < t336) = false := decide_eq_false c14
                    clear c14
                    obtain rfl := Option.some.inj H
                    obtain ⟨Ao30, co30, eo30⟩ := Kd.R_slice HO_7.out
                    subst eo30
                    go_wp2
                    go_ret
                    exact ⟨by first | rfl | (simp [errW_none, errW_some] <;> rfl) | (simp [*, errW_none, errW_some] <;> rfl), by repeat (first | (with_reducible first | exact HB.out | apply below_alloc | apply pw_below_drewN | apply below_drew1) | exact HB.out)⟩

/-- THE ONE PURE STATEMENT of hatstandlaw5_LifoCounts. -/
def hatstandlaw5_LifoCounts.Pure : Prop := ∀ (a0 : Int) (l1 : List (S30)), (Lit.int .i64 a0).wf = true → l1.length ≤ maxLen → l1.length * 24 ≤ 140737488351232 → (∀ x ∈ l1, (Lit.int .u64 x.f1).wf = true ∧ (Lit.int .i64 x.f2).wf = true) → ∃ k, hatstandlaw5_LifoCounts.f k a0 l1 = some true
theorem hatstandlaw5_LifoCounts.walk (P : hatstandlaw5_LifoCounts.Pure) (a0 : Int) (A1 : Option Addr) (c1 : Nat) (l1 : List (S30)) (w : World) (hr1 : Kd.C k30 w A1 l1.length l1) (hc1 : l1.length ≤ c1) (hw0 : (Lit.int .i64 a0).wf = true) (hm1 : l1.length ≤ maxLen) (y1 : l1.length * 24 ≤ 140737488351232) (hw1 : (∀ x ∈ l1, (Lit.int .u64 x.f1).wf = true ∧ (Lit.int .i64 x.f2).wf = true)) :
    Calls Try.prog 7 #[.int .i64 a0, .slice A1 l1.length c1] w fun e w' => e = .returned (.bool true) ∧ Below w.heap.size w w' := by
  obtain ⟨k, h⟩ := P a0 l1 hw0 hm1 y1 hw1
  refine (hatstandlaw5_LifoCounts.calls k a0 A1 c1 l1 true w hr1 hc1 h rfl).mono ?_
  rintro e w' ⟨rfl, hd⟩
  exact ⟨rfl, hd⟩

end Go.Proofs.Ytoafkejmdlcnpaa.P
