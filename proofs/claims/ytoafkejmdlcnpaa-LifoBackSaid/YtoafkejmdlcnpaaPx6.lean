/- Walks, written by a program for this claim: each Go function that the laws reach comes to what its Lean function says. -/
import Derived.Test.YtoafkejmdlcnpaaPx0
import Derived.Test.YtoafkejmdlcnpaaPx1
import Derived.Test.YtoafkejmdlcnpaaPx2
import Derived.Test.YtoafkejmdlcnpaaPx4
import Derived.Test.YtoafkejmdlcnpaaPx5
namespace Go.Proofs.Ytoafkejmdlcnpaa.P
open Go.RowKit Go.Proofs.YtoafkejmdlcnpaaW.PrintWords Go.Proofs.YtoafkejmdlcnpaaW.PrintLast Go.Proofs.YtoafkejmdlcnpaaW.PrintMore
attribute [local go_sem] max2_int min2_int max_two min_two max_three min_three max_four min_four   -- for this text's walks alone
set_option linter.unusedVariables false
set_option linter.unusedSimpArgs false

/-! ### hatstandlaw5_LifoBack: function 4 -/
mutual
def hatstandlaw5_LifoBack.j0 : Nat → List Int → List Int → Int → Bool → Bool → Option (Bool)
  | 0, _, _, _, _, _ => none
  | k + 1, x0, x1, x2, x7, x33 => if x33 = true then (some x7) else ((hatstandlaw5_pick.f x2 (wrap64 ((x1.length : Int) + 3))).bind fun t247 => ((some (([] : List Int) : List Int)).bind fun y248 => (if y248.length + x0.length < 17592186044416 then (hatstandlaw5_LifoBack.l0 k x0 x1 (wrap64 ((x0.length : Int) + t247)) (y248 ++ x0) 0 0) else (none))))
def hatstandlaw5_LifoBack.l0 : Nat → List Int → List Int → Int → List Int → Int → Int → Option (Bool)
  | 0, _, _, _, _, _, _ => none
  | k + 1, x0, x1, x8, x9, x10, x11 => if x11 < (x1.length : Int) then (if 0 ≤ x11 then ((lifo_Push.f x9 x8 (rd x1 x11)).bind fun bt255 => (if bt255.2 = 1 then (if (x9.length : Int) < x8 then (hatstandlaw5_LifoBack.j2 k x0 x1 x8 x10 x11 bt255.1 bt255.2 false) else (hatstandlaw5_LifoBack.j2 k x0 x1 x8 x10 x11 bt255.1 bt255.2 true)) else (if (x9.length : Int) < x8 then (hatstandlaw5_LifoBack.j2 k x0 x1 x8 x10 x11 bt255.1 bt255.2 true) else (if bt255.2 = 2 then ((hatstandref5_Same.f k bt255.1 x9).bind fun t259 => (hatstandlaw5_LifoBack.j2 k x0 x1 x8 x10 x11 bt255.1 bt255.2 (!t259))) else (hatstandlaw5_LifoBack.j2 k x0 x1 x8 x10 x11 bt255.1 bt255.2 true))))) else (none)) else (if (x9.length : Int) = (wrap64 ((x0.length : Int) + x10)) then (hatstandlaw5_LifoBack.j3 k x0 x1 x9 x10 (decide ((x9.length : Int) > x8))) else (hatstandlaw5_LifoBack.j3 k x0 x1 x9 x10 true))
def hatstandlaw5_LifoBack.j2 : Nat → List Int → List Int → Int → Int → Int → List Int → Int → Bool → Option (Bool)
  | 0, _, _, _, _, _, _, _, _ => none
  | k + 1, x0, x1, x8, x10, x11, x12, x13, x82 => if x82 = true then (some false) else (if x13 = 1 then (hatstandlaw5_LifoBack.l0 k x0 x1 x8 x12 (wrap64 (x10 + 1)) (wrap64 (x11 + 1))) else (hatstandlaw5_LifoBack.l0 k x0 x1 x8 x12 x10 (wrap64 (x11 + 1))))
def hatstandlaw5_LifoBack.j3 : Nat → List Int → List Int → List Int → Int → Bool → Option (Bool)
  | 0, _, _, _, _, _ => none
  | k + 1, x0, x1, x9, x10, x100 => if x100 = true then (some false) else (hatstandlaw5_LifoBack.l1 k x0 x1 x9 (wrap64 (x10 - 1)))
def hatstandlaw5_LifoBack.l1 : Nat → List Int → List Int → List Int → Int → Option (Bool)
  | 0, _, _, _, _ => none
  | k + 1, x0, x1, x9, x14 => if x14 ≥ 0 then ((lifo_Pop.f x9).bind fun bt260 => (if bt260.2.2 = 1 then (if 0 ≤ x14 then (if x14 < (x1.length : Int) then (if bt260.2.1 = (rd x1 x14) then (hatstandlaw5_LifoBack.l1 k x0 x1 bt260.1 (wrap64 (x14 - 1))) else (some false)) else (none)) else (none)) else (some false))) else ((lifo_Pop.f ([] : List Int)).bind fun bt266 => ((hatstandref5_Same.f k x9 x0).bind fun t271 => (if t271 = true then (if bt266.2.1 = 0 then (some (bt266.2.2 == 2)) else (some false)) else (some false))))
end
def hatstandlaw5_LifoBack.f (k : Nat) (l0 : List Int) (l1 : List Int) (a2 : Int) : Option (Bool) := (hatstandlaw5_shown.f k).bind fun t246 => (if t246 = true then (if (l0.length : Int) > 200 then (hatstandlaw5_LifoBack.j0 k l0 l1 a2 t246 true) else (hatstandlaw5_LifoBack.j0 k l0 l1 a2 t246 (decide ((l1.length : Int) > 200)))) else (hatstandlaw5_LifoBack.j0 k l0 l1 a2 t246 true))
theorem hatstandlaw5_LifoBack.mono_l : ∀ k, (∀ y0 y1 y2 y3 y4, LeO (hatstandlaw5_LifoBack.j0 k y0 y1 y2 y3 y4) (hatstandlaw5_LifoBack.j0 (k + 1) y0 y1 y2 y3 y4)) ∧ (∀ y0 y1 y2 y3 y4 y5, LeO (hatstandlaw5_LifoBack.l0 k y0 y1 y2 y3 y4 y5) (hatstandlaw5_LifoBack.l0 (k + 1) y0 y1 y2 y3 y4 y5)) ∧ (∀ y0 y1 y2 y3 y4 y5 y6 y7, LeO (hatstandlaw5_LifoBack.j2 k y0 y1 y2 y3 y4 y5 y6 y7) (hatstandlaw5_LifoBack.j2 (k + 1) y0 y1 y2 y3 y4 y5 y6 y7)) ∧ (∀ y0 y1 y2 y3 y4, LeO (hatstandlaw5_LifoBack.j3 k y0 y1 y2 y3 y4) (hatstandlaw5_LifoBack.j3 (k + 1) y0 y1 y2 y3 y4)) ∧ (∀ y0 y1 y2 y3, LeO (hatstandlaw5_LifoBack.l1 k y0 y1 y2 y3) (hatstandlaw5_LifoBack.l1 (k + 1) y0 y1 y2 y3))
  | 0 => ⟨fun _ _ _ _ _ r h => by simp [hatstandlaw5_LifoBack.j0] at h, fun _ _ _ _ _ _ r h => by simp [hatstandlaw5_LifoBack.l0] at h, fun _ _ _ _ _ _ _ _ r h => by simp [hatstandlaw5_LifoBack.j2] at h, fun _ _ _ _ _ r h => by simp [hatstandlaw5_LifoBack.j3] at h, fun _ _ _ _ r h => by simp [hatstandlaw5_LifoBack.l1] at h⟩
  | k + 1 => by
    obtain ⟨ih0, ih1, ih2, ih3, ih4⟩ := hatstandlaw5_LifoBack.mono_l k
    refine ⟨?_, ?_, ?_, ?_, ?_⟩
    · intro y0 y1 y2 y3 y4
      unfold hatstandlaw5_LifoBack.j0
      repeat' first
      | (with_reducible exact ih0 _ _ _ _ _)
      | (with_reducible exact ih1 _ _ _ _ _ _)
      | (with_reducible exact ih2 _ _ _ _ _ _ _ _)
      | (with_reducible exact ih3 _ _ _ _ _)
      | (with_reducible exact ih4 _ _ _ _)
      | (with_reducible exact hatstandlaw5_shown.mono _)
      | (with_reducible exact hatstandref5_Same.mono _ _ _)
      | (with_reducible exact LeO.refl _)
      | (with_reducible exact LeO.none _)
      | (with_reducible refine LeO.ite ?_ ?_)
      | (with_reducible refine LeO.bind ?_ (fun _ => ?_))
      | exact ih0 _ _ _ _ _
      | exact ih1 _ _ _ _ _ _
      | exact ih2 _ _ _ _ _ _ _ _
      | exact ih3 _ _ _ _ _
      | exact ih4 _ _ _ _
      | exact hatstandlaw5_shown.mono _
      | exact hatstandref5_Same.mono _ _ _
      | exact LeO.none _
      | refine LeO.ite ?_ ?_
      | refine LeO.bind ?_ (fun _ => ?_)
    · intro y0 y1 y2 y3 y4 y5
      unfold hatstandlaw5_LifoBack.l0
      repeat' first
      | (with_reducible exact ih0 _ _ _ _ _)
      | (with_reducible exact ih1 _ _ _ _ _ _)
      | (with_reducible exact ih2 _ _ _ _ _ _ _ _)
      | (with_reducible exact ih3 _ _ _ _ _)
      | (with_reducible exact ih4 _ _ _ _)
      | (with_reducible exact hatstandlaw5_shown.mono _)
      | (with_reducible exact hatstandref5_Same.mono _ _ _)
      | (with_reducible exact LeO.refl _)
      | (with_reducible exact LeO.none _)
      | (with_reducible refine LeO.ite ?_ ?_)
      | (with_reducible refine LeO.bind ?_ (fun _ => ?_))
      | exact ih0 _ _ _ _ _
      | exact ih1 _ _ _ _ _ _
      | exact ih2 _ _ _ _ _ _ _ _
      | exact ih3 _ _ _ _ _
      | exact ih4 _ _ _ _
      | exact hatstandlaw5_shown.mono _
      | exact hatstandref5_Same.mono _ _ _
      | exact LeO.none _
      | refine LeO.ite ?_ ?_
      | refine LeO.bind ?_ (fun _ => ?_)
    · intro y0 y1 y2 y3 y4 y5 y6 y7
      unfold hatstandlaw5_LifoBack.j2
      repeat' first
      | (with_reducible exact ih0 _ _ _ _ _)
      | (with_reducible exact ih1 _ _ _ _ _ _)
      | (with_reducible exact ih2 _ _ _ _ _ _ _ _)
      | (with_reducible exact ih3 _ _ _ _ _)
      | (with_reducible exact ih4 _ _ _ _)
      | (with_reducible exact hatstandlaw5_shown.mono _)
      | (with_reducible exact hatstandref5_Same.mono _ _ _)
      | (with_reducible exact LeO.refl _)
      | (with_reducible exact LeO.none _)
      | (with_reducible refine LeO.ite ?_ ?_)
      | (with_reducible refine LeO.bind ?_ (fun _ => ?_))
      | exact ih0 _ _ _ _ _
      | exact ih1 _ _ _ _ _ _
      | exact ih2 _ _ _ _ _ _ _ _
      | exact ih3 _ _ _ _ _
      | exact ih4 _ _ _ _
      | exact hatstandlaw5_shown.mono _
      | exact hatstandref5_Same.mono _ _ _
      | exact LeO.none _
      | refine LeO.ite ?_ ?_
      | refine LeO.bind ?_ (fun _ => ?_)
    · intro y0 y1 y2 y3 y4
      unfold hatstandlaw5_LifoBack.j3
      repeat' first
      | (with_reducible exact ih0 _ _ _ _ _)
      | (with_reducible exact ih1 _ _ _ _ _ _)
      | (with_reducible exact ih2 _ _ _ _ _ _ _ _)
      | (with_reducible exact ih3 _ _ _ _ _)
      | (with_reducible exact ih4 _ _ _ _)
      | (with_reducible exact hatstandlaw5_shown.mono _)
      | (with_reducible exact hatstandref5_Same.mono _ _ _)
      | (with_reducible exact LeO.refl _)
      | (with_reducible exact LeO.none _)
      | (with_reducible refine LeO.ite ?_ ?_)
      | (with_reducible refine LeO.bind ?_ (fun _ => ?_))
      | exact ih0 _ _ _ _ _
      | exact ih1 _ _ _ _ _ _
      | exact ih2 _ _ _ _ _ _ _ _
      | exact ih3 _ _ _ _ _
      | exact ih4 _ _ _ _
      | exact hatstandlaw5_shown.mono _
      | exact hatstandref5_Same.mono _ _ _
      | exact LeO.none _
      | refine LeO.ite ?_ ?_
      | refine LeO.bind ?_ (fun _ => ?_)
    · intro y0 y1 y2 y3
      unfold hatstandlaw5_LifoBack.l1
      repeat' first
      | (with_reducible exact ih0 _ _ _ _ _)
      | (with_reducible exact ih1 _ _ _ _ _ _)
      | (with_reducible exact ih2 _ _ _ _ _ _ _ _)
      | (with_reducible exact ih3 _ _ _ _ _)
      | (with_reducible exact ih4 _ _ _ _)
      | (with_reducible exact hatstandlaw5_shown.mono _)
      | (with_reducible exact hatstandref5_Same.mono _ _ _)
      | (with_reducible exact LeO.refl _)
      | (with_reducible exact LeO.none _)
      | (with_reducible refine LeO.ite ?_ ?_)
      | (with_reducible refine LeO.bind ?_ (fun _ => ?_))
      | exact ih0 _ _ _ _ _
      | exact ih1 _ _ _ _ _ _
      | exact ih2 _ _ _ _ _ _ _ _
      | exact ih3 _ _ _ _ _
      | exact ih4 _ _ _ _
      | exact hatstandlaw5_shown.mono _
      | exact hatstandref5_Same.mono _ _ _
      | exact LeO.none _
      | refine LeO.ite ?_ ?_
      | refine LeO.bind ?_ (fun _ => ?_)
theorem hatstandlaw5_LifoBack.mono : ∀ a0 a1 a2 k, LeO (hatstandlaw5_LifoBack.f k a0 a1 a2) (hatstandlaw5_LifoBack.f (k + 1) a0 a1 a2) := by
  intro a0 a1 a2 k
  obtain ⟨ih0, ih1, ih2, ih3, ih4⟩ := hatstandlaw5_LifoBack.mono_l k
  unfold hatstandlaw5_LifoBack.f
  repeat' first
      | (with_reducible exact ih0 _ _ _ _ _)
      | (with_reducible exact ih1 _ _ _ _ _ _)
      | (with_reducible exact ih2 _ _ _ _ _ _ _ _)
      | (with_reducible exact ih3 _ _ _ _ _)
      | (with_reducible exact ih4 _ _ _ _)
      | (with_reducible exact hatstandlaw5_shown.mono _)
      | (with_reducible exact hatstandref5_Same.mono _ _ _)
      | (with_reducible exact LeO.refl _)
      | (with_reducible exact LeO.none _)
      | (with_reducible refine LeO.ite ?_ ?_)
      | (with_reducible refine LeO.bind ?_ (fun _ => ?_))
      | exact ih0 _ _ _ _ _
      | exact ih1 _ _ _ _ _ _
      | exact ih2 _ _ _ _ _ _ _ _
      | exact ih3 _ _ _ _ _
      | exact ih4 _ _ _ _
      | exact hatstandlaw5_shown.mono _
      | exact hatstandref5_Same.mono _ _ _
      | exact LeO.none _
      | refine LeO.ite ?_ ?_
      | refine LeO.bind ?_ (fun _ => ?_)
set_option maxHeartbeats 8000000 in
set_option maxRecDepth 100000 in
theorem hatstandlaw5_LifoBack.calls (k : Nat) (A0 : Option Addr) (c0 : Nat) (l0 : List Int) (A1 : Option Addr) (c1 : Nat) (l1 : List Int) (a2 : Int) (r : Bool) (w : World) (hr0 : Kd.C (Kd.int .u64) w A0 l0.length l0) (hc0 : l0.length ≤ c0) (hr1 : Kd.C (Kd.int .u64) w A1 l1.length l1) (hc1 : l1.length ≤ c1) (h : hatstandlaw5_LifoBack.f k l0 l1 a2 = some r) (ht_ : r = true) :
    Calls Try.prog 4 #[.slice A0 l0.length c0, .slice A1 l1.length c1, .int .i64 a2] w fun e w' => e = .returned (.bool r) ∧ Below w.heap.size w w' := by
  have HR0 := Aside0.mk hr0
  have HC0 := Aside0.mk hc0
  clear hr0 hc0
  have HR1 := Aside0.mk hr1
  have HC1 := Aside0.mk hc1
  clear hr1 hc1
  have HB := Aside0.mk (Below.refl w.heap.size w)
  have HT0 := Aside0.mk ht_
  clear ht_
  have H : ((hatstandlaw5_shown.f k).bind fun t246 => (if t246 = true then (if (l0.length : Int) > 200 then (hatstandlaw5_LifoBack.j0 k l0 l1 a2 t246 true) else (hatstandlaw5_LifoBack.j0 k l0 l1 a2 t246 (decide ((l1.length : Int) > 200)))) else (hatstandlaw5_LifoBack.j0 k l0 l1 a2 t246 true))) = some r := h
  clear h
  replace H := Option.bind_eq_some_iff.mp H
  obtain ⟨t246, A40, H⟩ := H
  replace H : (if t246 = true then (if (l0.length : Int) > 200 then (hatstandlaw5_LifoBack.j0 k l0 l1 a2 t246 true) else (hatstandlaw5_LifoBack.j0 k l0 l1 a2 t246 (decide ((l1.length : Int) > 200)))) else (hatstandlaw5_LifoBack.j0 k l0 l1 a2 t246 true)) = some r := H
  have A4 := Aside0.mk A40
  clear A40
  have HC5 := Aside0.mk H
  clear H
  go_enter Try.func4, Try.ntmps4
  go_upto_region 2 with (first | ((with_reducible refine gate_callee (f := 10) rfl ?_); refine goesL_ (some 21) rfl rfl Try.func10 (by kernel_rfl) rfl #[] rfl (by (try simp only [List.map_toArray, List.map_cons, List.map_nil]); first | done | rfl | (simp only [List.length_drop, List.length_take]; rfl)) ?_; (with_reducible refine (hatstandlaw5_shown.calls k  t246 _ A4.out).mono ?_); rintro e w6 ⟨rfl, hb⟩; refine ⟨_, rfl, ?_⟩; have n0_ := Aside0.mk (below_step (by repeat (first | (with_reducible first | exact HB.out | apply below_alloc | apply pw_below_drewN | apply below_drew1) | exact HB.out)) hb); clear HB; have HB := n0_; clear n0_; (try clear hb); (try clear hb2); (try clear hk); (try clear hi)))
  (try simp only [Act.put, List.setIfInBounds_toArray, List.set_cons_zero, List.set_cons_succ])
  go_cut [33] (fun v33 wc => ∃ (kq : Nat) (x33_4 : Bool), v33 = .bool x33_4 ∧ Aside0 (hatstandlaw5_LifoBack.j0 kq l0 l1 a2 t246 x33_4 = some r) ∧ Aside0 (kq ≤ k) ∧ Aside0 (Below w.heap.size w wc))
  case first =>
    have H := HC5.out
    clear HC5
    by_cases c7 : t246 = true
    · subst c7
      have H1 : (if (l0.length : Int) > 200 then (hatstandlaw5_LifoBack.j0 k l0 l1 a2 true true) else (hatstandlaw5_LifoBack.j0 k l0 l1 a2 true (decide ((l1.length : Int) > 200)))) = some r := by rw [if_pos rfl] at H; exact H
      clear H
      have H := H1
      clear H1
      by_cases c8 : (l0.length : Int) > 200
      · rw [if_pos c8] at H
        have c8b0 : decide (200 < (l0.length : Int)) = true := decide_eq_true c8
        have c8b1 : decide (200 < l0.length) = true := decide_eq_true (by omega)
        clear c8
        (first | rw [c8b0] | (simp only [i64_w, i32_w, Go.IntKind.wrap_u32]; rw [c8b0]) | skip)
        have H' := Aside0.mk H
        clear H
        go_wp2
        go_meet
        case rel => exact ⟨_, (true), (by first | rfl | (simp; done) | (simp [*]; done)), H', ⟨by first | omega | exact Nat.le_refl _⟩, ⟨by repeat (first | (with_reducible first | exact HB.out | apply below_alloc | apply pw_below_drewN | apply below_drew1) | exact HB.out)⟩⟩
      · rw [if_neg c8] at H
        have c8b0 : decide (200 < (l0.length : Int)) = false := decide_eq_false c8
        have c8b1 : decide (200 < l0.length) = false := decide_eq_false (by omega)
        clear c8
        (first | rw [c8b0] | (simp only [i64_w, i32_w, Go.IntKind.wrap_u32]; rw [c8b0]) | skip)
        have H' := Aside0.mk H
        clear H
        go_wp2
        go_meet
        case rel => exact ⟨_, (decide ((l1.length : Int) > 200)), (by first | rfl | (simp; done) | (simp [*]; done)), H', ⟨by first | omega | exact Nat.le_refl _⟩, ⟨by repeat (first | (with_reducible first | exact HB.out | apply below_alloc | apply pw_below_drewN | apply below_drew1) | exact HB.out)⟩⟩
    · replace c7 := Bool.eq_false_iff.mpr c7
      subst c7
      have H1 : (hatstandlaw5_LifoBack.j0 k l0 l1 a2 false true) = some r := by rw [if_neg (show ¬ (false = true) by decide)] at H; exact H
      clear H
      have H := H1
      clear H1
      have H' := Aside0.mk H
      clear H
      go_wp2
      go_meet
      case rel => exact ⟨_, (true), (by first | rfl | (simp; done) | (simp [*]; done)), H', ⟨by first | omega | exact Nat.le_refl _⟩, ⟨by repeat (first | (with_reducible first | exact HB.out | apply below_alloc | apply pw_below_drewN | apply below_drew1) | exact HB.out)⟩⟩
  case rest =>
    clear HC5
    try clear c1
    try clear p2
    try clear c4
    try clear c7
    try clear c8
    try clear c8b0
    try clear c8b1
    obtain ⟨kq, x33_4, rfl, HA, HJ4, HB⟩ := hcut
    cases kq with
    | zero => exact absurd HA.out (by simp [hatstandlaw5_LifoBack.j0])
    | succ kj4 =>
      have H := HA.out
      clear HA
      simp only [hatstandlaw5_LifoBack.j0] at H
      by_cases c9 : x33_4 = true
      · subst c9
        have H1 : (some t246) = some r := by rw [if_pos rfl] at H; exact H
        clear H
        have H := H1
        clear H1
        obtain rfl := Option.some.inj H
        go_wp2
        go_ret
        exact ⟨by first | rfl | (simp [errW_none, errW_some] <;> rfl) | (simp [*, errW_none, errW_some] <;> rfl), by repeat (first | (with_reducible first | exact HB.out | apply below_alloc | apply pw_below_drewN | apply below_drew1) | exact HB.out)⟩
      · replace c9 := Bool.eq_false_iff.mpr c9
        subst c9
        have H1 : ((hatstandlaw5_pick.f a2 (wrap64 ((l1.length : Int) + 3))).bind fun t247 => ((some (([] : List Int) : List Int)).bind fun y248 => (if y248.length + l0.length < 17592186044416 then (hatstandlaw5_LifoBack.l0 kj4 l0 l1 (wrap64 ((l0.length : Int) + t247)) (y248 ++ l0) 0 0) else (none)))) = some r := by rw [if_neg (show ¬ (false = true) by decide)] at H; exact H
        clear H
        have H := H1
        clear H1
        replace H := Option.bind_eq_some_iff.mp H
        obtain ⟨t247, A100, H⟩ := H
        replace H : ((some (([] : List Int) : List Int)).bind fun y248 => (if y248.length + l0.length < 17592186044416 then (hatstandlaw5_LifoBack.l0 kj4 l0 l1 (wrap64 ((l0.length : Int) + t247)) (y248 ++ l0) 0 0) else (none))) = some r := H
        have A10 := Aside0.mk A100
        clear A100
        obtain ⟨y248, hy248⟩ : ∃ y_ : List Int, y_ = (([] : List Int)) := ⟨_, rfl⟩
        replace H : (if y248.length + l0.length < 17592186044416 then (hatstandlaw5_LifoBack.l0 kj4 l0 l1 (wrap64 ((l0.length : Int) + t247)) (y248 ++ l0) 0 0) else (none)) = some r := by first | (rw [hy248]; with_reducible exact H) | (have H2_ := (Option.bind_some _ _).symm.trans H; rw [hy248]; with_reducible exact H2_) | (have H2_ := (Option.bind_some _ _).symm.trans H; with_reducible exact H2_) | with_reducible exact H | (rw [hy248]; exact H) | exact H
        have Ny248 := Aside0.mk hy248
        clear hy248
        by_cases c11 : y248.length + l0.length < 17592186044416
        · rw [if_pos c11] at H
          have LMc11 := Aside0.mk c11
          clear c11
          obtain ⟨y251, hy251⟩ : ∃ y_ : List Int, y_ = (y248 ++ l0) := ⟨_, rfl⟩
          replace H : (hatstandlaw5_LifoBack.l0 kj4 l0 l1 (wrap64 ((l0.length : Int) + t247)) y251 0 0) = some r := by first | (rw [hy251]; with_reducible exact H) | (have H2_ := (Option.bind_some _ _).symm.trans H; rw [hy251]; with_reducible exact H2_) | (have H2_ := (Option.bind_some _ _).symm.trans H; with_reducible exact H2_) | with_reducible exact H | (rw [hy251]; exact H) | exact H
          have Ny251 := Aside0.mk hy251
          clear hy251
          have H' := Aside0.mk H
          clear H
          go_wp2_with (first | ((with_reducible refine gate_callee (f := 21) rfl ?_); refine goesL_ (some 41) rfl rfl Try.func21 (by kernel_rfl) rfl #[.int .i64 a2, .int .i64 (wrap64 ((l1.length : Int) + 3))] rfl (by (try simp only [List.map_toArray, List.map_cons, List.map_nil]); first | done | rfl | (simp only [List.length_drop, List.length_take]; rfl)) ?_; (with_reducible refine (hatstandlaw5_pick.calls a2 (wrap64 ((l1.length : Int) + 3)) t247 _ A10.out).mono ?_); rintro e w' ⟨rfl, ⟨nd, rfl⟩⟩; refine ⟨_, rfl, ?_⟩) | ((with_reducible refine gate_dst (N := 43) rfl ?_); (try (refine gate_guard (by rfl) ?_; dsimp only)); refine Kd.R_lit (Kd.int .u64) _ 28 ?hg (N := 43) ?hd (xs := ([] : List Int)) (inner := []) (ok := fun _ => True) (okp := fun _ => True) ?hr ?hp (fun _ hk => hk) trivial (Below.refl _ _) (Nat.le_refl _) (by simp) ?_; (case hd => rfl); (case hg => rfl); (case hr => first | (go_simp; done) | (go_simp; rfl)); (case hp => exact (Reps.none _ _)); intro v249 w12 ho13 hb hg_ hnew_; clear hg_ hnew_; (first | rw [← Ny248.out] at ho13 | (simp only [Int.reduceToNat] at ho13; rw [← Ny248.out] at ho13)); have n0_ := Aside0.mk (Kd.R_lower ho13 (below_size (by repeat (first | (with_reducible first | exact HB.out | apply below_alloc | apply pw_below_drewN | apply below_drew1) | exact HB.out)))); have n1_ := Aside0.mk (below_step (by repeat (first | (with_reducible first | exact HB.out | apply below_alloc | apply pw_below_drewN | apply below_drew1) | exact HB.out)) hb); clear HB; have HO250 := n0_; have HB := n1_; clear n0_ n1_; clear hb ho13) | ((with_reducible refine gate_builtin (b := .append) (xs := #[.tmp 43, .tmp 44]) rfl ?_); (try (refine gate_guard (by rfl) ?_; dsimp only)); at_builtin; refine Kd.R_append_rows (Kd.int .u64) (w0 := w) w.heap.size rfl (.tmp 43) (.tmp 44) 22 28 (.int .u64 0) 8 rfl Try.underlying22 info28 rfl (by decide) (by omega) v249 y248 l0 _ _ _ (fun _ => True) (fun _ => False) rfl rfl ?aO ?aR (fun _ _ h => h) (fun _ h => h.elim) ?aF ?aB ?aS ?aL ?_; (case aR => repeat (first | exact (Kd.C_below HR0.out HB.out) | (with_reducible refine Kd.C_alloc ?_ _) | (with_reducible refine Kd.C_drewN ?_ _) | (with_reducible refine Kd.C_drew ?_))); (case aB => exact (by repeat (first | (with_reducible first | exact HB.out | apply below_alloc | apply pw_below_drewN | apply below_drew1) | exact HB.out))); (case aF => exact (fun _ _ => trivial)); (case aO => exact (by (with_reducible repeat (first | apply Kd.R_alloc | apply Kd.R_drewN | apply Kd.R_drew)); exact HO250.out)); (case aS => exact (below_size (by repeat (first | (with_reducible first | exact HB.out | apply below_alloc | apply pw_below_drewN | apply below_drew1) | exact HB.out)))); (case aL => have := LMc11.out; omega); intro v252 w14 ho hb hg hat; rw [← Ny251.out] at ho; have n0_ := Aside0.mk (hb); have n1_ := Aside0.mk (ho); clear HB; clear HO250; have HB := n0_; have HO253 := n1_; clear n0_ n1_; clear ho hb hg hat))
          go_loopg [9, 10, 11] kj4 (fun kq v9 v10 v11 w' => ∃ (x9_2 : List Int) (x10_2 : Int) (x11_2 : Int), v10 = .int .i64 x10_2 ∧ v11 = .int .i64 x11_2 ∧ Aside0 (hatstandlaw5_LifoBack.l0 kq l0 l1 (wrap64 ((l0.length : Int) + t247)) x9_2 x10_2 x11_2 = some r) ∧ Aside0 (kq ≤ kj4) ∧ Aside0 (Kd.R (Kd.int .u64) 28 w' w.heap.size (fun _ => True) v9 x9_2) ∧ Aside0 (Below w.heap.size w w'))
          case atStart => exact ⟨(y251), (0), (0), (by first | rfl | (simp; done) | (simp [*]; done)), (by first | rfl | (simp; done) | (simp [*]; done)), H', ⟨Nat.le_refl _⟩, ⟨by (with_reducible repeat (first | apply Kd.R_alloc | apply Kd.R_drewN | apply Kd.R_drew)); exact HO253.out⟩, ⟨by repeat (first | (with_reducible first | exact HB.out | apply below_alloc | apply pw_below_drewN | apply below_drew1) | exact HB.out)⟩⟩
          case round =>
            clear H'
            try clear c1
            try clear c2
            try clear p2
            try clear c4
            try clear p6
            try clear c7
            try clear c8
            try clear c8b0
            try clear c8b1
            try clear c9
            try clear c10
            try clear c11
            try clear p2
            obtain ⟨x9_2, x10_2, x11_2, rfl, rfl, HA, HK2, HO_9, HB⟩ := hrel
            cases gk with
            | zero => exact absurd HA.out (by simp [hatstandlaw5_LifoBack.l0])
            | succ k2 =>
              have H := HA.out
              clear HA
              simp only [hatstandlaw5_LifoBack.l0] at H
              by_cases c15 : x11_2 < (l1.length : Int)
              · rw [if_pos c15] at H
                have c15b0 : decide (x11_2 < (l1.length : Int)) = true := decide_eq_true c15
                clear c15
                by_cases c16 : 0 ≤ x11_2
                · rw [if_pos c16] at H
                  have c16b0 : decide (0 ≤ x11_2) = true := decide_eq_true c16
                  clear c16
                  replace H := Option.bind_eq_some_iff.mp H
                  obtain ⟨⟨t255, t256⟩, A170, H⟩ := H
                  replace H : (if t256 = 1 then (if (x9_2.length : Int) < (wrap64 ((l0.length : Int) + t247)) then (hatstandlaw5_LifoBack.j2 k2 l0 l1 (wrap64 ((l0.length : Int) + t247)) x10_2 x11_2 t255 t256 false) else (hatstandlaw5_LifoBack.j2 k2 l0 l1 (wrap64 ((l0.length : Int) + t247)) x10_2 x11_2 t255 t256 true)) else (if (x9_2.length : Int) < (wrap64 ((l0.length : Int) + t247)) then (hatstandlaw5_LifoBack.j2 k2 l0 l1 (wrap64 ((l0.length : Int) + t247)) x10_2 x11_2 t255 t256 true) else (if t256 = 2 then ((hatstandref5_Same.f k2 t255 x9_2).bind fun t259 => (hatstandlaw5_LifoBack.j2 k2 l0 l1 (wrap64 ((l0.length : Int) + t247)) x10_2 x11_2 t255 t256 (!t259))) else (hatstandlaw5_LifoBack.j2 k2 l0 l1 (wrap64 ((l0.length : Int) + t247)) x10_2 x11_2 t255 t256 true)))) = some r := H
                  have A17 := Aside0.mk A170
                  clear A170
                  have HC18 := Aside0.mk H
                  clear H
                  have p254 : 0 ≤ (x11_2 : Int) := of_decide_eq_true (by first | (with_reducible assumption) | assumption)
                  have q254 : x11_2 < (l1.length : Int) := of_decide_eq_true (by first | (with_reducible assumption) | assumption)
                  obtain ⟨ad254, e254, hx254_0⟩ := Kd.at_int HR1.out x11_2 p254 q254
                  cases e254
                  replace hx254_0 := (HB.out.cell (World.block_lt_of_cell? w _ hx254_0)).trans hx254_0
                  replace p254 := eq_true p254
                  replace q254 := eq_true q254
                  obtain ⟨Ao19, co19, eo19⟩ := Kd.R_slice HO_9.out
                  subst eo19
                  go_upto_region 11 with (first | ((with_reducible refine gate_callee (f := 11) rfl ?_); refine goesL_ (some 59) rfl rfl Try.func11 (by kernel_rfl) rfl #[.slice Ao19 x9_2.length co19, .int .i64 (wrap64 ((l0.length : Int) + t247)), .int .u64 (rd l1 x11_2)] rfl (by (try simp only [List.map_toArray, List.map_cons, List.map_nil]); first | done | rfl | (simp only [List.length_drop, List.length_take]; rfl)) ?_; (with_reducible refine (lifo_Push.calls _ _ x9_2 (wrap64 ((l0.length : Int) + t247)) (rd l1 x11_2) t255 t256 _ ?side1 ?side2 A17.out).mono ?_); (case side1 => repeat (first | exact (Kd.R_reads' HO_9.out).2.2 | (with_reducible refine Kd.C_alloc ?_ _) | (with_reducible refine Kd.C_drewN ?_ _) | (with_reducible refine Kd.C_drew ?_))); (case side2 => exact (Kd.R_reads' HO_9.out).2.1); rintro e w20 ⟨v257, rfl, ho0, hb⟩; refine ⟨_, rfl, ?_⟩; have n0_ := Aside0.mk (Kd.R_elder' (by (with_reducible repeat (first | apply Kd.R_alloc | apply Kd.R_drewN | apply Kd.R_drew)); exact HO_9.out) (Kd.R_base ho0) hb); have n1_ := Aside0.mk (Kd.R_lower (Kd.R_new' ho0 (Kd.R_lt (by (with_reducible repeat (first | apply Kd.R_alloc | apply Kd.R_drewN | apply Kd.R_drew)); exact HO_9.out))) (below_size (by repeat (first | (with_reducible first | exact HB.out | apply below_alloc | apply pw_below_drewN | apply below_drew1) | exact HB.out)))); have n2_ := Aside0.mk (below_step (by repeat (first | (with_reducible first | exact HB.out | apply below_alloc | apply pw_below_drewN | apply below_drew1) | exact HB.out)) hb); clear HO_9; clear HB; have HO_9 := n0_; have HO258 := n1_; have HB := n2_; clear n0_ n1_ n2_; (try clear hb); (try clear hb2); (try clear hk); (try clear hi); (try clear ho0)))
                  (try simp only [Act.put, List.setIfInBounds_toArray, List.set_cons_zero, List.set_cons_succ])
                  go_cut [82] (fun v82 wc => ∃ (kq : Nat) (x82_17 : Bool), v82 = .bool x82_17 ∧ Aside0 (hatstandlaw5_LifoBack.j2 kq l0 l1 (wrap64 ((l0.length : Int) + t247)) x10_2 x11_2 t255 t256 x82_17 = some r) ∧ Aside0 (kq ≤ k2) ∧ Aside0 (Kd.R (Kd.int .u64) 28 wc w.heap.size (fun _ => True) v257 t255) ∧ Aside0 (Below w.heap.size w wc))
                  case first =>
                    have H := HC18.out
                    clear HC18
                    by_cases c21 : t256 = 1
                    · rw [if_pos c21] at H
                      have c21b0 : (t256 == 1) = true := beq_iff_eq.mpr c21
                      have c21b1 : (t256 != 1) = false := bne_eq_false_iff_eq.mpr c21
                      clear c21
                      (first | rw [c21b0] | (simp only [i64_w, i32_w, Go.IntKind.wrap_u32]; rw [c21b0]) | skip)
                      by_cases c22 : (x9_2.length : Int) < (wrap64 ((l0.length : Int) + t247))
                      · rw [if_pos c22] at H
                        have c22b0 : decide ((x9_2.length : Int) < (wrap64 ((l0.length : Int) + t247))) = true := decide_eq_true c22
                        clear c22
                        have H' := Aside0.mk H
                        clear H
                        go_wp2
                        go_meet
                        case rel => exact ⟨_, (false), (by first | rfl | (simp; done) | (simp [*]; done)), H', ⟨by have := HJ4.out; have := HK2.out; first | omega | exact Nat.le_refl _⟩, ⟨by (with_reducible repeat (first | apply Kd.R_alloc | apply Kd.R_drewN | apply Kd.R_drew)); exact Kd.R_mono HO258.out (fun _ hk => trivial)⟩, ⟨by repeat (first | (with_reducible first | exact HB.out | apply below_alloc | apply pw_below_drewN | apply below_drew1) | exact HB.out)⟩⟩
                      · rw [if_neg c22] at H
                        have c22b0 : decide ((x9_2.length : Int) < (wrap64 ((l0.length : Int) + t247))) = false := decide_eq_false c22
                        clear c22
                        have H' := Aside0.mk H
                        clear H
                        go_wp2
                        go_meet
                        case rel => exact ⟨_, (true), (by first | rfl | (simp; done) | (simp [*]; done)), H', ⟨by have := HJ4.out; have := HK2.out; first | omega | exact Nat.le_refl _⟩, ⟨by (with_reducible repeat (first | apply Kd.R_alloc | apply Kd.R_drewN | apply Kd.R_drew)); exact Kd.R_mono HO258.out (fun _ hk => trivial)⟩, ⟨by repeat (first | (with_reducible first | exact HB.out | apply below_alloc | apply pw_below_drewN | apply below_drew1) | exact HB.out)⟩⟩
                    · rw [if_neg c21] at H
                      have c21b0 : (t256 == 1) = false := beq_eq_false_iff_ne.mpr c21
                      have c21b1 : (t256 != 1) = true := bne_iff_ne.mpr c21
                      (first | rw [c21b0] | (simp only [i64_w, i32_w, Go.IntKind.wrap_u32]; rw [c21b0]) | skip)
                      by_cases c23 : (x9_2.length : Int) < (wrap64 ((l0.length : Int) + t247))
                      · rw [if_pos c23] at H
                        have c23b0 : decide ((x9_2.length : Int) < (wrap64 ((l0.length : Int) + t247))) = true := decide_eq_true c23
                        clear c23
                        have H' := Aside0.mk H
                        clear H
                        go_wp2
                        go_meet
                        case rel => exact ⟨_, (true), (by first | rfl | (simp; done) | (simp [*]; done)), H', ⟨by have := HJ4.out; have := HK2.out; first | omega | exact Nat.le_refl _⟩, ⟨by (with_reducible repeat (first | apply Kd.R_alloc | apply Kd.R_drewN | apply Kd.R_drew)); exact Kd.R_mono HO258.out (fun _ hk => trivial)⟩, ⟨by repeat (first | (with_reducible first | exact HB.out | apply below_alloc | apply pw_below_drewN | apply below_drew1) | exact HB.out)⟩⟩
                      · rw [if_neg c23] at H
                        have c23b0 : decide ((x9_2.length : Int) < (wrap64 ((l0.length : Int) + t247))) = false := decide_eq_false c23
                        clear c23
                        by_cases c24 : t256 = 2
                        · rw [if_pos c24] at H
                          have c24b0 : (t256 == 2) = true := beq_iff_eq.mpr c24
                          have c24b1 : (t256 != 2) = false := bne_eq_false_iff_eq.mpr c24
                          clear c24
                          replace H := Option.bind_eq_some_iff.mp H
                          obtain ⟨t259, A250, H⟩ := H
                          replace H : (hatstandlaw5_LifoBack.j2 k2 l0 l1 (wrap64 ((l0.length : Int) + t247)) x10_2 x11_2 t255 t256 (!t259)) = some r := H
                          have A25 := Aside0.mk A250
                          clear A250
                          have H' := Aside0.mk H
                          clear H
                          obtain ⟨Ao26, co26, eo26⟩ := Kd.R_slice HO258.out
                          subst eo26
                          go_wp2_with (first | (go_at_call 16; (with_reducible refine (hatstandref5_Same.calls k2 _ _ t255 _ _ x9_2 t259 _ ?side1 ?side2 ?side3 ?side4 A25.out).mono ?_); (case side1 => repeat (first | exact (Kd.R_reads' HO258.out).2.2 | (with_reducible refine Kd.C_alloc ?_ _) | (with_reducible refine Kd.C_drewN ?_ _) | (with_reducible refine Kd.C_drew ?_))); (case side2 => exact (Kd.R_reads' HO258.out).2.1); (case side3 => repeat (first | exact (Kd.R_reads' HO_9.out).2.2 | (with_reducible refine Kd.C_alloc ?_ _) | (with_reducible refine Kd.C_drewN ?_ _) | (with_reducible refine Kd.C_drew ?_))); (case side4 => exact (Kd.R_reads' HO_9.out).2.1); rintro e w' ⟨rfl, ⟨nd, rfl⟩⟩))
                          go_meet
                          case rel => exact ⟨_, (!t259), (by first | rfl | (simp; done) | (simp [*]; done)), H', ⟨by have := HJ4.out; have := HK2.out; first | omega | exact Nat.le_refl _⟩, ⟨by (with_reducible repeat (first | apply Kd.R_alloc | apply Kd.R_drewN | apply Kd.R_drew)); exact Kd.R_mono HO258.out (fun _ hk => trivial)⟩, ⟨by repeat (first | (with_reducible first | exact HB.out | apply below_alloc | apply pw_below_drewN | apply below_drew1) | exact HB.out)⟩⟩
                        · rw [if_neg c24] at H
                          have c24b0 : (t256 == 2) = false := beq_eq_false_iff_ne.mpr c24
                          have c24b1 : (t256 != 2) = true := bne_iff_ne.mpr c24
                          have H' := Aside0.mk H
                          clear H
                          go_wp2
                          go_meet
                          case rel => exact ⟨_, (true), (by first | rfl | (simp; done) | (simp [*]; done)), H', ⟨by have := HJ4.out; have := HK2.out; first | omega | exact Nat.le_refl _⟩, ⟨by (with_reducible repeat (first | apply Kd.R_alloc | apply Kd.R_drewN | apply Kd.R_drew)); exact Kd.R_mono HO258.out (fun _ hk => trivial)⟩, ⟨by repeat (first | (with_reducible first | exact HB.out | apply below_alloc | apply pw_below_drewN | apply below_drew1) | exact HB.out)⟩⟩
                  case rest =>
                    clear HC18
                    try clear c1
                    try clear c2
                    try clear p2
                    try clear q2
                    try clear hx2
                    try clear c4
                    try clear p6
                    try clear c7
                    try clear c8
                    try clear c8b0
                    try clear c8b1
                    try clear c9
                    try clear c10
                    try clear c11
                    try clear c15
                    try clear c15b0
                    try clear c16
                    try clear c16b0
                    try clear c21
                    try clear c21b0
                    try clear c21b1
                    try clear c22
                    try clear c22b0
                    try clear c23
                    try clear c23b0
                    try clear c24
                    try clear c24b0
                    try clear c24b1
                    try clear p25
                    try clear q25
                    try clear hx25
                    try clear hx254_0
                    try clear p2
                    try clear p254
                    try clear p6
                    try clear q254
                    obtain ⟨kq, x82_17, rfl, HA, HJ17, HO_12, HB⟩ := hcut
                    cases kq with
                    | zero => exact absurd HA.out (by simp [hatstandlaw5_LifoBack.j2])
                    | succ kj17 =>
                      have H := HA.out
                      clear HA
                      simp only [hatstandlaw5_LifoBack.j2] at H
                      by_cases c27 : x82_17 = true
                      · subst c27
                        have H1 : (some false) = some r := by rw [if_pos rfl] at H; exact H
                        clear H
                        have H := H1
                        clear H1
                        exact absurd ((Option.some.inj H).trans HT0.out) (by decide)
                      · replace c27 := Bool.eq_false_iff.mpr c27
                        subst c27
                        have H1 : (if t256 = 1 then (hatstandlaw5_LifoBack.l0 kj17 l0 l1 (wrap64 ((l0.length : Int) + t247)) t255 (wrap64 (x10_2 + 1)) (wrap64 (x11_2 + 1))) else (hatstandlaw5_LifoBack.l0 kj17 l0 l1 (wrap64 ((l0.length : Int) + t247)) t255 x10_2 (wrap64 (x11_2 + 1)))) = some r := by rw [if_neg (show ¬ (false = true) by decide)] at H; exact H
                        clear H
                        have H := H1
                        clear H1
                        by_cases c28 : t256 = 1
                        · rw [if_pos c28] at H
                          have c28b0 : (t256 == 1) = true := beq_iff_eq.mpr c28
                          have c28b1 : (t256 != 1) = false := bne_eq_false_iff_eq.mpr c28
                          clear c28
                          have H' := Aside0.mk H
                          clear H
                          go_wp2
                          go_roundg kj17
                          case measure => have := HJ4.out; have := HK2.out; have := HJ17.out; omega
                          case rel => exact ⟨(t255), (wrap64 (x10_2 + 1)), (wrap64 (x11_2 + 1)), (by first | rfl | (simp; done) | (simp [*]; done)), (by first | rfl | (simp; done) | (simp [*]; done)), H', ⟨by have := HJ4.out; have := HK2.out; have := HJ17.out; omega⟩, ⟨by (with_reducible repeat (first | apply Kd.R_alloc | apply Kd.R_drewN | apply Kd.R_drew)); exact HO_12.out⟩, ⟨by repeat (first | (with_reducible first | exact HB.out | apply below_alloc | apply pw_below_drewN | apply below_drew1) | exact HB.out)⟩⟩
                        · rw [if_neg c28] at H
                          have c28b0 : (t256 == 1) = false := beq_eq_false_iff_ne.mpr c28
                          have c28b1 : (t256 != 1) = true := bne_iff_ne.mpr c28
                          have H' := Aside0.mk H
                          clear H
                          go_wp2
                          go_roundg kj17
                          case measure => have := HJ4.out; have := HK2.out; have := HJ17.out; omega
                          case rel => exact ⟨(t255), (x10_2), (wrap64 (x11_2 + 1)), (by first | rfl | (simp; done) | (simp [*]; done)), (by first | rfl | (simp; done) | (simp [*]; done)), H', ⟨by have := HJ4.out; have := HK2.out; have := HJ17.out; omega⟩, ⟨by (with_reducible repeat (first | apply Kd.R_alloc | apply Kd.R_drewN | apply Kd.R_drew)); exact HO_12.out⟩, ⟨by repeat (first | (with_reducible first | exact HB.out | apply below_alloc | apply pw_below_drewN | apply below_drew1) | exact HB.out)⟩⟩
                · rw [if_neg c16] at H
                  exact absurd H (by simp)
              · rw [if_neg c15] at H
                have c15b0 : decide (x11_2 < (l1.length : Int)) = false := decide_eq_false c15
                clear c15
                have HC29 := Aside0.mk H
                clear H
                go_upto_region 16 with (fail)
                go_cut [100] (fun v100 wc => ∃ (kq : Nat) (x100_28 : Bool), v100 = .bool x100_28 ∧ Aside0 (hatstandlaw5_LifoBack.j3 kq l0 l1 x9_2 x10_2 x100_28 = some r) ∧ Aside0 (kq ≤ k2) ∧ Aside0 (Kd.R (Kd.int .u64) 28 wc w.heap.size (fun _ => True) u9 x9_2) ∧ Aside0 (Below w.heap.size w wc))
                case first =>
                  have H := HC29.out
                  clear HC29
                  by_cases c30 : (x9_2.length : Int) = (wrap64 ((l0.length : Int) + x10_2))
                  · rw [if_pos c30] at H
                    have c30b0 : ((x9_2.length : Int) == (wrap64 ((l0.length : Int) + x10_2))) = true := beq_iff_eq.mpr c30
                    have c30b1 : ((x9_2.length : Int) != (wrap64 ((l0.length : Int) + x10_2))) = false := bne_eq_false_iff_eq.mpr c30
                    clear c30
                    (first | rw [c30b0] | (simp only [i64_w, i32_w, Go.IntKind.wrap_u32]; rw [c30b0]) | skip)
                    have H' := Aside0.mk H
                    clear H
                    obtain ⟨Ao31, co31, eo31⟩ := Kd.R_slice HO_9.out
                    subst eo31
                    go_wp2
                    go_meet
                    case rel => exact ⟨_, (decide ((x9_2.length : Int) > (wrap64 ((l0.length : Int) + t247)))), (by first | rfl | (simp; done) | (simp [*]; done)), H', ⟨by have := HJ4.out; have := HK2.out; first | omega | exact Nat.le_refl _⟩, ⟨by (with_reducible repeat (first | apply Kd.R_alloc | apply Kd.R_drewN | apply Kd.R_drew)); exact HO_9.out⟩, ⟨by repeat (first | (with_reducible first | exact HB.out | apply below_alloc | apply pw_below_drewN | apply below_drew1) | exact HB.out)⟩⟩
                  · rw [if_neg c30] at H
                    have c30b0 : ((x9_2.length : Int) == (wrap64 ((l0.length : Int) + x10_2))) = false := beq_eq_false_iff_ne.mpr c30
                    have c30b1 : ((x9_2.length : Int) != (wrap64 ((l0.length : Int) + x10_2))) = true := bne_iff_ne.mpr c30
                    (first | rw [c30b0] | (simp only [i64_w, i32_w, Go.IntKind.wrap_u32]; rw [c30b0]) | skip)
                    have H' := Aside0.mk H
                    clear H
                    obtain ⟨Ao32, co32, eo32⟩ := Kd.R_slice HO_9.out
                    subst eo32
                    go_wp2
                    go_meet
                    case rel => exact ⟨_, (true), (by first | rfl | (simp; done) | (simp [*]; done)), H', ⟨by have := HJ4.out; have := HK2.out; first | omega | exact Nat.le_refl _⟩, ⟨by (with_reducible repeat (first | apply Kd.R_alloc | apply Kd.R_drewN | apply Kd.R_drew)); exact HO_9.out⟩, ⟨by repeat (first | (with_reducible first | exact HB.out | apply below_alloc | apply pw_below_drewN | apply below_drew1) | exact HB.out)⟩⟩
                case rest =>
                  clear HC29
                  try clear c1
                  try clear c2
                  try clear p2
                  try clear q2
                  try clear hx2
                  try clear c3
                  try clear c4
                  try clear p6
                  try clear c7
                  try clear c8
                  try clear c8b0
                  try clear c8b1
                  try clear c9
                  try clear c10
                  try clear c11
                  try clear c15
                  try clear c15b0
                  try clear c16
                  try clear c16b0
                  try clear c21
                  try clear c21b0
                  try clear c21b1
                  try clear c22
                  try clear c22b0
                  try clear c23
                  try clear c23b0
                  try clear c24
                  try clear c24b0
                  try clear c24b1
                  try clear p25
                  try clear q25
                  try clear hx25
                  try clear c27
                  try clear c28
                  try clear c28b0
                  try clear c28b1
                  try clear c30
                  try clear c30b0
                  try clear c30b1
                  try clear hx254_0
                  try clear p2
                  try clear p25
                  try clear p254
                  try clear p6
                  try clear q2
                  try clear q25
                  try clear q254
                  obtain ⟨kq, x100_28, rfl, HA, HJ28, HO_9, HB⟩ := hcut
                  cases kq with
                  | zero => exact absurd HA.out (by simp [hatstandlaw5_LifoBack.j3])
                  | succ kj28 =>
                    have H := HA.out
                    clear HA
                    simp only [hatstandlaw5_LifoBack.j3] at H
                    by_cases c33 : x100_28 = true
                    · subst c33
                      have H1 : (some false) = some r := by rw [if_pos rfl] at H; exact H
                      clear H
                      have H := H1
                      clear H1
                      exact absurd ((Option.some.inj H).trans HT0.out) (by decide)
                    · replace c33 := Bool.eq_false_iff.mpr c33
                      subst c33
                      have H1 : (hatstandlaw5_LifoBack.l1 kj28 l0 l1 x9_2 (wrap64 (x10_2 - 1))) = some r := by rw [if_neg (show ¬ (false = true) by decide)] at H; exact H
                      clear H
                      have H := H1
                      clear H1
                      have H' := Aside0.mk H
                      clear H
                      go_wp2
                      go_loopg [9, 14] kj28 (fun kq v9 v14 w' => ∃ (x9_4 : List Int) (x14_4 : Int), v14 = .int .i64 x14_4 ∧ Aside0 (hatstandlaw5_LifoBack.l1 kq l0 l1 x9_4 x14_4 = some r) ∧ Aside0 (kq ≤ kj28) ∧ Aside0 (Kd.R (Kd.int .u64) 28 w' w.heap.size (fun _ => True) v9 x9_4) ∧ Aside0 (Below w.heap.size w w'))
                      case atStart => exact ⟨(x9_2), (wrap64 (x10_2 - 1)), (by first | rfl | (simp; done) | (simp [*]; done)), H', ⟨Nat.le_refl _⟩, ⟨by (with_reducible repeat (first | apply Kd.R_alloc | apply Kd.R_drewN | apply Kd.R_drew)); exact HO_9.out⟩, ⟨by repeat (first | (with_reducible first | exact HB.out | apply below_alloc | apply pw_below_drewN | apply below_drew1) | exact HB.out)⟩⟩
                      case round =>
                        clear H'
                        try clear c1
                        try clear c2
                        try clear p2
                        try clear q2
                        try clear hx2
                        try clear c3
                        try clear c4
                        try clear p6
                        try clear c7
                        try clear c8
                        try clear c8b0
                        try clear c8b1
                        try clear c9
                        try clear c10
                        try clear c11
                        try clear c15
                        try clear c15b0
                        try clear c16
                        try clear c16b0
                        try clear c21
                        try clear c21b0
                        try clear c21b1
                        try clear c22
                        try clear c22b0
                        try clear c23
                        try clear c23b0
                        try clear c24
                        try clear c24b0
                        try clear c24b1
                        try clear p25
                        try clear q25
                        try clear hx25
                        try clear c27
                        try clear c28
                        try clear c28b0
                        try clear c28b1
                        try clear c30
                        try clear c30b0
                        try clear c30b1
                        try clear c33
                        try clear hx254_0
                        try clear p2
                        try clear p25
                        try clear p254
                        try clear p6
                        try clear q2
                        try clear q25
                        try clear q254
                        obtain ⟨x9_4, x14_4, rfl, HA, HK4, HO_9, HB⟩ := hrel
                        cases gk with
                        | zero => exact absurd HA.out (by simp [hatstandlaw5_LifoBack.l1])
                        | succ k4 =>
                          have H := HA.out
                          clear HA
                          simp only [hatstandlaw5_LifoBack.l1] at H
                          by_cases c34 : x14_4 ≥ 0
                          · rw [if_pos c34] at H
                            have c34b0 : decide (0 ≤ x14_4) = true := decide_eq_true c34
                            clear c34
                            replace H := Option.bind_eq_some_iff.mp H
                            obtain ⟨⟨t260, t261, t262⟩, A350, H⟩ := H
                            replace H : (if t262 = 1 then (if 0 ≤ x14_4 then (if x14_4 < (l1.length : Int) then (if t261 = (rd l1 x14_4) then (hatstandlaw5_LifoBack.l1 k4 l0 l1 t260 (wrap64 (x14_4 - 1))) else (some false)) else (none)) else (none)) else (some false)) = some r := H
                            have A35 := Aside0.mk A350
                            clear A350
                            by_cases c36 : t262 = 1
                            · rw [if_pos c36] at H
                              have c36b0 : (t262 == 1) = true := beq_iff_eq.mpr c36
                              have c36b1 : (t262 != 1) = false := bne_eq_false_iff_eq.mpr c36
                              clear c36
                              by_cases c37 : 0 ≤ x14_4
                              · rw [if_pos c37] at H
                                have c37b0 : decide (0 ≤ x14_4) = true := decide_eq_true c37
                                clear c37
                                by_cases c38 : x14_4 < (l1.length : Int)
                                · rw [if_pos c38] at H
                                  have c38b0 : decide (x14_4 < (l1.length : Int)) = true := decide_eq_true c38
                                  clear c38
                                  by_cases c39 : t261 = (rd l1 x14_4)
                                  · rw [if_pos c39] at H
                                    have c39b0 : (t261 == (rd l1 x14_4)) = true := beq_iff_eq.mpr c39
                                    have c39b1 : (t261 != (rd l1 x14_4)) = false := bne_eq_false_iff_eq.mpr c39
                                    clear c39
                                    have H' := Aside0.mk H
                                    clear H
                                    obtain ⟨Ao40, co40, eo40⟩ := Kd.R_slice HO_9.out
                                    subst eo40
                                    go_wp2_with (first | ((with_reducible refine gate_callee (f := 17) rfl ?_); refine goesL_ (some 109) rfl rfl Try.func17 (by kernel_rfl) rfl #[.slice Ao40 x9_4.length co40] rfl (by (try simp only [List.map_toArray, List.map_cons, List.map_nil]); first | done | rfl | (simp only [List.length_drop, List.length_take]; rfl)) ?_; (with_reducible refine (lifo_Pop.calls _ _ x9_4 t260 t261 t262 _ ?side1 ?side2 A35.out).mono ?_); (case side1 => repeat (first | exact (Kd.R_reads' HO_9.out).2.2 | (with_reducible refine Kd.C_alloc ?_ _) | (with_reducible refine Kd.C_drewN ?_ _) | (with_reducible refine Kd.C_drew ?_))); (case side2 => exact (Kd.R_reads' HO_9.out).2.1); rintro e w41 ⟨v263, rfl, ho0, hb⟩; refine ⟨_, rfl, ?_⟩; have n0_ := Aside0.mk (Kd.R_elder' (by (with_reducible repeat (first | apply Kd.R_alloc | apply Kd.R_drewN | apply Kd.R_drew)); exact HO_9.out) (Kd.R_base ho0) hb); have n1_ := Aside0.mk (Kd.R_lower (Kd.R_new' ho0 (Kd.R_lt (by (with_reducible repeat (first | apply Kd.R_alloc | apply Kd.R_drewN | apply Kd.R_drew)); exact HO_9.out))) (below_size (by repeat (first | (with_reducible first | exact HB.out | apply below_alloc | apply pw_below_drewN | apply below_drew1) | exact HB.out)))); have n2_ := Aside0.mk (below_step (by repeat (first | (with_reducible first | exact HB.out | apply below_alloc | apply pw_below_drewN | apply below_drew1) | exact HB.out)) hb); clear HO_9; clear HB; have HO_9 := n0_; have HO264 := n1_; have HB := n2_; clear n0_ n1_ n2_; (try clear hb); (try clear hb2); (try clear hk); (try clear hi); (try clear ho0); have p265 : 0 ≤ (x14_4 : Int) := of_decide_eq_true (by first | (with_reducible assumption) | assumption); have q265 : x14_4 < (l1.length : Int) := of_decide_eq_true (by first | (with_reducible assumption) | assumption); obtain ⟨ad265, e265, hx265_0⟩ := Kd.at_int HR1.out x14_4 p265 q265; cases e265; replace hx265_0 := (HB.out.cell (World.block_lt_of_cell? w _ hx265_0)).trans hx265_0; replace p265 := eq_true p265; replace q265 := eq_true q265))
                                    go_roundg k4
                                    case measure => have := HJ4.out; have := HK2.out; have := HJ28.out; have := HK4.out; omega
                                    case rel => exact ⟨(t260), (wrap64 (x14_4 - 1)), (by first | rfl | (simp; done) | (simp [*]; done)), H', ⟨by have := HJ4.out; have := HK2.out; have := HJ28.out; have := HK4.out; omega⟩, ⟨by (with_reducible repeat (first | apply Kd.R_alloc | apply Kd.R_drewN | apply Kd.R_drew)); exact Kd.R_mono HO264.out (fun _ hk => trivial)⟩, ⟨by repeat (first | (with_reducible first | exact HB.out | apply below_alloc | apply pw_below_drewN | apply below_drew1) | exact HB.out)⟩⟩
                                  · rw [if_neg c39] at H
                                    have c39b0 : (t261 == (rd l1 x14_4)) = false := beq_eq_false_iff_ne.mpr c39
                                    have c39b1 : (t261 != (rd l1 x14_4)) = true := bne_iff_ne.mpr c39
                                    exact absurd ((Option.some.inj H).trans HT0.out) (by decide)
                                · rw [if_neg c38] at H
                                  exact absurd H (by simp)
                              · rw [if_neg c37] at H
                                exact absurd H (by simp)
                            · rw [if_neg c36] at H
                              have c36b0 : (t262 == 1) = false := beq_eq_false_iff_ne.mpr c36
                              have c36b1 : (t262 != 1) = true := bne_iff_ne.mpr c36
                              exact absurd ((Option.some.inj H).trans HT0.out) (by decide)
                          · rw [if_neg c34] at H
                            have c34b0 : decide (0 ≤ x14_4) = false := decide_eq_false c34
                            clear c34
                            replace H := Option.bind_eq_some_iff.mp H
                            obtain ⟨⟨t266, t267, t268⟩, A420, H⟩ := H
                            replace H : ((hatstandref5_Same.f k4 x9_4 l0).bind fun t271 => (if t271 = true then (if t267 = 0 then (some (t268 == 2)) else (some false)) else (some false))) = some r := H
                            have A42 := Aside0.mk A420
                            clear A420
                            replace H := Option.bind_eq_some_iff.mp H
                            obtain ⟨t271, A430, H⟩ := H
                            replace H : (if t271 = true then (if t267 = 0 then (some (t268 == 2)) else (some false)) else (some false)) = some r := H
                            have A43 := Aside0.mk A430
                            clear A430
                            by_cases c44 : t271 = true
                            · subst c44
                              have H1 : (if t267 = 0 then (some (t268 == 2)) else (some false)) = some r := by rw [if_pos rfl] at H; exact H
                              clear H
                              have H := H1
                              clear H1
                              by_cases c45 : t267 = 0
                              · rw [if_pos c45] at H
                                have c45b0 : (t267 == 0) = true := beq_iff_eq.mpr c45
                                have c45b1 : (t267 != 0) = false := bne_eq_false_iff_eq.mpr c45
                                clear c45
                                obtain rfl := Option.some.inj H
                                go_wp2_with (first | ((with_reducible refine gate_callee (f := 17) rfl ?_); refine goesL_ (some 125) rfl rfl Try.func17 (by kernel_rfl) rfl #[.slice none 0 0] rfl (by (try simp only [List.map_toArray, List.map_cons, List.map_nil]); first | done | rfl | (simp only [List.length_drop, List.length_take]; rfl)) ?_; (refine (lifo_Pop.calls _ _ ([] : List Int) t266 t267 t268 _ ?side1 ?side2 A42.out).mono ?_); (case side1 => exact Kd.C_nil _ _); (case side2 => exact Nat.le_refl _); rintro e w46 ⟨v269, rfl, ho0, hb⟩; refine ⟨_, rfl, ?_⟩; have n0_ := Aside0.mk (Kd.R_elder' (by (with_reducible repeat (first | apply Kd.R_alloc | apply Kd.R_drewN | apply Kd.R_drew)); exact HO_9.out) (Kd.R_base ho0) hb); have n1_ := Aside0.mk (Kd.R_lower (Kd.R_new' ho0 (Kd.R_lt (by (with_reducible repeat (first | apply Kd.R_alloc | apply Kd.R_drewN | apply Kd.R_drew)); exact HO_9.out))) (below_size (by repeat (first | (with_reducible first | exact HB.out | apply below_alloc | apply pw_below_drewN | apply below_drew1) | exact HB.out)))); have n2_ := Aside0.mk (below_step (by repeat (first | (with_reducible first | exact HB.out | apply below_alloc | apply pw_below_drewN | apply below_drew1) | exact HB.out)) hb); clear HO_9; clear HB; have HO_9 := n0_; have HO270 := n1_; have HB := n2_; clear n0_ n1_ n2_; (try clear hb); (try clear hb2); (try clear hk); (try clear hi); (try clear ho0); obtain ⟨Ao47, co47, eo47⟩ := Kd.R_slice HO_9.out; subst eo47) | ((with_reducible refine gate_callee (f := 16) rfl ?_); refine goesL_ (some 131) rfl rfl Try.func16 (by kernel_rfl) rfl #[.slice Ao47 x9_4.length co47, .slice A0 l0.length c0] rfl (by (try simp only [List.map_toArray, List.map_cons, List.map_nil]); first | done | rfl | (simp only [List.length_drop, List.length_take]; rfl)) ?_; (with_reducible refine (hatstandref5_Same.calls k4 _ _ x9_4 _ _ l0 true _ ?side1 ?side2 ?side3 ?side4 A43.out).mono ?_); (case side1 => repeat (first | exact (Kd.R_reads' HO_9.out).2.2 | (with_reducible refine Kd.C_alloc ?_ _) | (with_reducible refine Kd.C_drewN ?_ _) | (with_reducible refine Kd.C_drew ?_))); (case side2 => exact (Kd.R_reads' HO_9.out).2.1); (case side3 => repeat (first | exact (Kd.C_below HR0.out HB.out) | (with_reducible refine Kd.C_alloc ?_ _) | (with_reducible refine Kd.C_drewN ?_ _) | (with_reducible refine Kd.C_drew ?_))); (case side4 => exact HC0.out); rintro e w' ⟨rfl, ⟨nd, rfl⟩⟩; refine ⟨_, rfl, ?_⟩))
                                go_ret
                                exact ⟨by first | rfl | (simp [errW_none, errW_some] <;> rfl) | (simp [*, errW_none, errW_some] <;> rfl), by repeat (first | (with_reducible first | exact HB.out | apply below_alloc | apply pw_below_drewN | apply below_drew1) | exact HB.out)⟩
                              · rw [if_neg c45] at H
                                have c45b0 : (t267 == 0) = false := beq_eq_false_iff_ne.mpr c45
                                have c45b1 : (t267 != 0) = true := bne_iff_ne.mpr c45
                                exact absurd ((Option.some.inj H).trans HT0.out) (by decide)
                            · replace c44 := Bool.eq_false_iff.mpr c44
                              subst c44
                              have H1 : (some false) = some r := by rw [if_neg (show ¬ (false = true) by decide)] at H; exact H
                              clear H
                              have H := H1
                              clear H1
                              exact absurd ((Option.some.inj H).trans HT0.out) (by decide)
        · rw [if_neg c11] at H
          exact absurd H (by simp)

/-- THE ONE PURE STATEMENT of hatstandlaw5_LifoBack. -/
def hatstandlaw5_LifoBack.Pure : Prop := ∀ (l0 : List Int) (l1 : List Int) (a2 : Int), l0.length ≤ maxLen → l0.length * 8 ≤ 140737488351232 → (∀ x ∈ l0, (Lit.int .u64 x).wf = true) → l1.length ≤ maxLen → l1.length * 8 ≤ 140737488351232 → (∀ x ∈ l1, (Lit.int .u64 x).wf = true) → (Lit.int .i64 a2).wf = true → ∃ k, hatstandlaw5_LifoBack.f k l0 l1 a2 = some true
theorem hatstandlaw5_LifoBack.walk (P : hatstandlaw5_LifoBack.Pure) (A0 : Option Addr) (c0 : Nat) (l0 : List Int) (A1 : Option Addr) (c1 : Nat) (l1 : List Int) (a2 : Int) (w : World) (hr0 : Kd.C (Kd.int .u64) w A0 l0.length l0) (hc0 : l0.length ≤ c0) (hr1 : Kd.C (Kd.int .u64) w A1 l1.length l1) (hc1 : l1.length ≤ c1) (hm0 : l0.length ≤ maxLen) (y0 : l0.length * 8 ≤ 140737488351232) (hw0 : (∀ x ∈ l0, (Lit.int .u64 x).wf = true)) (hm1 : l1.length ≤ maxLen) (y1 : l1.length * 8 ≤ 140737488351232) (hw1 : (∀ x ∈ l1, (Lit.int .u64 x).wf = true)) (hw2 : (Lit.int .i64 a2).wf = true) :
    Calls Try.prog 4 #[.slice A0 l0.length c0, .slice A1 l1.length c1, .int .i64 a2] w fun e w' => e = .returned (.bool true) ∧ Below w.heap.size w w' := by
  obtain ⟨k, h⟩ := P l0 l1 a2 hm0 y0 hw0 hm1 y1 hw1 hw2
  refine (hatstandlaw5_LifoBack.calls k A0 c0 l0 A1 c1 l1 a2 true w hr0 hc0 hr1 hc1 h rfl).mono ?_
  rintro e w' ⟨rfl, hd⟩
  exact ⟨rfl, hd⟩

end Go.Proofs.Ytoafkejmdlcnpaa.P
