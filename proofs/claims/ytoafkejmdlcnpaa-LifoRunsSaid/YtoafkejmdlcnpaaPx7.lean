/- Walks, written by a program for this claim: each Go function that the laws reach comes to what its Lean function says. -/
import Derived.Test.YtoafkejmdlcnpaaPx0
import Derived.Test.YtoafkejmdlcnpaaPx1
import Derived.Test.YtoafkejmdlcnpaaPx2
import Derived.Test.YtoafkejmdlcnpaaPx4
import Derived.Test.YtoafkejmdlcnpaaPx5
namespace Go.Proofs.Ytoafkejmdlcnpaa.P
open Go.RowKit Go.Proofs.YtoafkejmdlcnpaaW.PrintWords Go.Proofs.YtoafkejmdlcnpaaW.PrintLast Go.Proofs.YtoafkejmdlcnpaaW.PrintMore
attribute [local go_sem] max2_int min2_int max_two min_two max_three min_three max_four min_four   -- for this text's walks alone
set_option linter.unusedVariables false
set_option linter.unusedSimpArgs false

/-! ### hatstandlaw5_LifoRuns: function 5 -/
mutual
def hatstandlaw5_LifoRuns.j0 : Nat → List Int → Int → List (S30) → Int → Bool → Bool → Option (Bool)
  | 0, _, _, _, _, _, _ => none
  | k + 1, x0, x1, x2, x3, x9, x31 => if x31 = true then (some x9) else ((lifo_Run.f k x0 x1 x2).bind fun bt273 => (if bt273.2 < 0 then (hatstandlaw5_LifoRuns.j1 k x0 x1 x2 x3 bt273.1 bt273.2 true) else (hatstandlaw5_LifoRuns.j1 k x0 x1 x2 x3 bt273.1 bt273.2 (decide (bt273.2 > (x2.length : Int))))))
def hatstandlaw5_LifoRuns.j1 : Nat → List Int → Int → List (S30) → Int → List Int → Int → Bool → Option (Bool)
  | 0, _, _, _, _, _, _, _ => none
  | k + 1, x0, x1, x2, x3, x10, x11, x47 => if x47 = true then (some false) else ((hatstandlaw5_pick.f x3 (wrap64 (x11 + 1))).bind fun t277 => (if 0 ≤ t277 then (if t277 ≤ (x2.length : Int) then ((lifo_Run.f k x0 x1 (x2.take (t277 : Int).toNat)).bind fun bt282 => (if t277 ≤ x11 then (if x11 ≤ (x2.length : Int) then ((lifo_Run.f k bt282.1 x1 ((x2.take (x11 : Int).toNat).drop (t277 : Int).toNat)).bind fun bt290 => (if bt282.2 = t277 then (if bt290.2 = (wrap64 (x11 - t277)) then ((hatstandref5_Same.f k bt290.1 x10).bind fun t294 => (hatstandlaw5_LifoRuns.j2 k x1 x2 x10 x11 (!t294))) else (hatstandlaw5_LifoRuns.j2 k x1 x2 x10 x11 true)) else (hatstandlaw5_LifoRuns.j2 k x1 x2 x10 x11 true))) else (none)) else (none))) else (none)) else (none)))
def hatstandlaw5_LifoRuns.j2 : Nat → Int → List (S30) → List Int → Int → Bool → Option (Bool)
  | 0, _, _, _, _, _ => none
  | k + 1, x1, x2, x10, x11, x86 => if x86 = true then (some false) else (if x11 = (x2.length : Int) then (some true) else (if 0 ≤ x11 then (if x11 < (x2.length : Int) then ((lifo_Do.f x10 x1 ((rd_T30 x2 x11).f0) ((rd_T30 x2 x11).f1) ((rd_T30 x2 x11).f2)).bind fun bt296 => (if bt296.2 = true then (some false) else (some ((bt296.1.length : Int) == 0)))) else (none)) else (none)))
end
def hatstandlaw5_LifoRuns.f (k : Nat) (l0 : List Int) (a1 : Int) (l2 : List (S30)) (a3 : Int) : Option (Bool) := (hatstandlaw5_shown.f k).bind fun t272 => (if t272 = true then (if (l0.length : Int) > 200 then (hatstandlaw5_LifoRuns.j0 k l0 a1 l2 a3 t272 true) else (hatstandlaw5_LifoRuns.j0 k l0 a1 l2 a3 t272 (decide ((l2.length : Int) > 200)))) else (hatstandlaw5_LifoRuns.j0 k l0 a1 l2 a3 t272 true))
theorem hatstandlaw5_LifoRuns.mono_l : ∀ k, (∀ y0 y1 y2 y3 y4 y5, LeO (hatstandlaw5_LifoRuns.j0 k y0 y1 y2 y3 y4 y5) (hatstandlaw5_LifoRuns.j0 (k + 1) y0 y1 y2 y3 y4 y5)) ∧ (∀ y0 y1 y2 y3 y4 y5 y6, LeO (hatstandlaw5_LifoRuns.j1 k y0 y1 y2 y3 y4 y5 y6) (hatstandlaw5_LifoRuns.j1 (k + 1) y0 y1 y2 y3 y4 y5 y6)) ∧ (∀ y0 y1 y2 y3 y4, LeO (hatstandlaw5_LifoRuns.j2 k y0 y1 y2 y3 y4) (hatstandlaw5_LifoRuns.j2 (k + 1) y0 y1 y2 y3 y4))
  | 0 => ⟨fun _ _ _ _ _ _ r h => by simp [hatstandlaw5_LifoRuns.j0] at h, fun _ _ _ _ _ _ _ r h => by simp [hatstandlaw5_LifoRuns.j1] at h, fun _ _ _ _ _ r h => by simp [hatstandlaw5_LifoRuns.j2] at h⟩
  | k + 1 => by
    obtain ⟨ih0, ih1, ih2⟩ := hatstandlaw5_LifoRuns.mono_l k
    refine ⟨?_, ?_, ?_⟩
    · intro y0 y1 y2 y3 y4 y5
      unfold hatstandlaw5_LifoRuns.j0
      repeat' first
      | (with_reducible exact ih0 _ _ _ _ _ _)
      | (with_reducible exact ih1 _ _ _ _ _ _ _)
      | (with_reducible exact ih2 _ _ _ _ _)
      | (with_reducible exact hatstandlaw5_shown.mono _)
      | (with_reducible exact hatstandref5_Same.mono _ _ _)
      | (with_reducible exact lifo_Run.mono _ _ _ _)
      | (with_reducible exact LeO.refl _)
      | (with_reducible exact LeO.none _)
      | (with_reducible refine LeO.ite ?_ ?_)
      | (with_reducible refine LeO.bind ?_ (fun _ => ?_))
      | exact ih0 _ _ _ _ _ _
      | exact ih1 _ _ _ _ _ _ _
      | exact ih2 _ _ _ _ _
      | exact hatstandlaw5_shown.mono _
      | exact hatstandref5_Same.mono _ _ _
      | exact lifo_Run.mono _ _ _ _
      | exact LeO.none _
      | refine LeO.ite ?_ ?_
      | refine LeO.bind ?_ (fun _ => ?_)
    · intro y0 y1 y2 y3 y4 y5 y6
      unfold hatstandlaw5_LifoRuns.j1
      repeat' first
      | (with_reducible exact ih0 _ _ _ _ _ _)
      | (with_reducible exact ih1 _ _ _ _ _ _ _)
      | (with_reducible exact ih2 _ _ _ _ _)
      | (with_reducible exact hatstandlaw5_shown.mono _)
      | (with_reducible exact hatstandref5_Same.mono _ _ _)
      | (with_reducible exact lifo_Run.mono _ _ _ _)
      | (with_reducible exact LeO.refl _)
      | (with_reducible exact LeO.none _)
      | (with_reducible refine LeO.ite ?_ ?_)
      | (with_reducible refine LeO.bind ?_ (fun _ => ?_))
      | exact ih0 _ _ _ _ _ _
      | exact ih1 _ _ _ _ _ _ _
      | exact ih2 _ _ _ _ _
      | exact hatstandlaw5_shown.mono _
      | exact hatstandref5_Same.mono _ _ _
      | exact lifo_Run.mono _ _ _ _
      | exact LeO.none _
      | refine LeO.ite ?_ ?_
      | refine LeO.bind ?_ (fun _ => ?_)
    · intro y0 y1 y2 y3 y4
      unfold hatstandlaw5_LifoRuns.j2
      repeat' first
      | (with_reducible exact ih0 _ _ _ _ _ _)
      | (with_reducible exact ih1 _ _ _ _ _ _ _)
      | (with_reducible exact ih2 _ _ _ _ _)
      | (with_reducible exact hatstandlaw5_shown.mono _)
      | (with_reducible exact hatstandref5_Same.mono _ _ _)
      | (with_reducible exact lifo_Run.mono _ _ _ _)
      | (with_reducible exact LeO.refl _)
      | (with_reducible exact LeO.none _)
      | (with_reducible refine LeO.ite ?_ ?_)
      | (with_reducible refine LeO.bind ?_ (fun _ => ?_))
      | exact ih0 _ _ _ _ _ _
      | exact ih1 _ _ _ _ _ _ _
      | exact ih2 _ _ _ _ _
      | exact hatstandlaw5_shown.mono _
      | exact hatstandref5_Same.mono _ _ _
      | exact lifo_Run.mono _ _ _ _
      | exact LeO.none _
      | refine LeO.ite ?_ ?_
      | refine LeO.bind ?_ (fun _ => ?_)
theorem hatstandlaw5_LifoRuns.mono : ∀ a0 a1 a2 a3 k, LeO (hatstandlaw5_LifoRuns.f k a0 a1 a2 a3) (hatstandlaw5_LifoRuns.f (k + 1) a0 a1 a2 a3) := by
  intro a0 a1 a2 a3 k
  obtain ⟨ih0, ih1, ih2⟩ := hatstandlaw5_LifoRuns.mono_l k
  unfold hatstandlaw5_LifoRuns.f
  repeat' first
      | (with_reducible exact ih0 _ _ _ _ _ _)
      | (with_reducible exact ih1 _ _ _ _ _ _ _)
      | (with_reducible exact ih2 _ _ _ _ _)
      | (with_reducible exact hatstandlaw5_shown.mono _)
      | (with_reducible exact hatstandref5_Same.mono _ _ _)
      | (with_reducible exact lifo_Run.mono _ _ _ _)
      | (with_reducible exact LeO.refl _)
      | (with_reducible exact LeO.none _)
      | (with_reducible refine LeO.ite ?_ ?_)
      | (with_reducible refine LeO.bind ?_ (fun _ => ?_))
      | exact ih0 _ _ _ _ _ _
      | exact ih1 _ _ _ _ _ _ _
      | exact ih2 _ _ _ _ _
      | exact hatstandlaw5_shown.mono _
      | exact hatstandref5_Same.mono _ _ _
      | exact lifo_Run.mono _ _ _ _
      | exact LeO.none _
      | refine LeO.ite ?_ ?_
      | refine LeO.bind ?_ (fun _ => ?_)
set_option maxHeartbeats 8000000 in
set_option maxRecDepth 100000 in
theorem hatstandlaw5_LifoRuns.calls (k : Nat) (A0 : Option Addr) (c0 : Nat) (l0 : List Int) (a1 : Int) (A2 : Option Addr) (c2 : Nat) (l2 : List (S30)) (a3 : Int) (r : Bool) (w : World) (hr0 : Kd.C (Kd.int .u64) w A0 l0.length l0) (hc0 : l0.length ≤ c0) (hr2 : Kd.C k30 w A2 l2.length l2) (hc2 : l2.length ≤ c2) (h : hatstandlaw5_LifoRuns.f k l0 a1 l2 a3 = some r) (ht_ : r = true) :
    Calls Try.prog 5 #[.slice A0 l0.length c0, .int .i64 a1, .slice A2 l2.length c2, .int .i64 a3] w fun e w' => e = .returned (.bool r) ∧ Below w.heap.size w w' := by
  have hu30 := Try.underlying30
  have HR0 := Aside0.mk hr0
  have HC0 := Aside0.mk hc0
  clear hr0 hc0
  have HR2 := Aside0.mk hr2
  have HC2 := Aside0.mk hc2
  clear hr2 hc2
  have HB := Aside0.mk (Below.refl w.heap.size w)
  have HT0 := Aside0.mk ht_
  clear ht_
  have H : ((hatstandlaw5_shown.f k).bind fun t272 => (if t272 = true then (if (l0.length : Int) > 200 then (hatstandlaw5_LifoRuns.j0 k l0 a1 l2 a3 t272 true) else (hatstandlaw5_LifoRuns.j0 k l0 a1 l2 a3 t272 (decide ((l2.length : Int) > 200)))) else (hatstandlaw5_LifoRuns.j0 k l0 a1 l2 a3 t272 true))) = some r := h
  clear h
  replace H := Option.bind_eq_some_iff.mp H
  obtain ⟨t272, A50, H⟩ := H
  replace H : (if t272 = true then (if (l0.length : Int) > 200 then (hatstandlaw5_LifoRuns.j0 k l0 a1 l2 a3 t272 true) else (hatstandlaw5_LifoRuns.j0 k l0 a1 l2 a3 t272 (decide ((l2.length : Int) > 200)))) else (hatstandlaw5_LifoRuns.j0 k l0 a1 l2 a3 t272 true)) = some r := H
  have A5 := Aside0.mk A50
  clear A50
  have HC6 := Aside0.mk H
  clear H
  go_enter Try.func5, Try.ntmps5
  go_upto_region 2 with (first | ((with_reducible refine gate_callee (f := 10) rfl ?_); refine goesL_ (some 19) rfl rfl Try.func10 (by kernel_rfl) rfl #[] rfl (by (try simp only [List.map_toArray, List.map_cons, List.map_nil]); first | done | rfl | (simp only [List.length_drop, List.length_take]; rfl)) ?_; (with_reducible refine (hatstandlaw5_shown.calls k  t272 _ A5.out).mono ?_); rintro e w7 ⟨rfl, hb⟩; refine ⟨_, rfl, ?_⟩; have n0_ := Aside0.mk (below_step (by repeat (first | (with_reducible first | exact HB.out | apply below_alloc | apply pw_below_drewN | apply below_drew1) | exact HB.out)) hb); clear HB; have HB := n0_; clear n0_; (try clear hb); (try clear hb2); (try clear hk); (try clear hi)))
  (try simp only [Act.put, List.setIfInBounds_toArray, List.set_cons_zero, List.set_cons_succ])
  go_cut [31] (fun v31 wc => ∃ (kq : Nat) (x31_5 : Bool), v31 = .bool x31_5 ∧ Aside0 (hatstandlaw5_LifoRuns.j0 kq l0 a1 l2 a3 t272 x31_5 = some r) ∧ Aside0 (kq ≤ k) ∧ Aside0 (Below w.heap.size w wc))
  case first =>
    have H := HC6.out
    clear HC6
    by_cases c8 : t272 = true
    · subst c8
      have H1 : (if (l0.length : Int) > 200 then (hatstandlaw5_LifoRuns.j0 k l0 a1 l2 a3 true true) else (hatstandlaw5_LifoRuns.j0 k l0 a1 l2 a3 true (decide ((l2.length : Int) > 200)))) = some r := by rw [if_pos rfl] at H; exact H
      clear H
      have H := H1
      clear H1
      by_cases c9 : (l0.length : Int) > 200
      · rw [if_pos c9] at H
        have c9b0 : decide (200 < (l0.length : Int)) = true := decide_eq_true c9
        have c9b1 : decide (200 < l0.length) = true := decide_eq_true (by omega)
        clear c9
        (first | rw [c9b0] | (simp only [i64_w, i32_w, Go.IntKind.wrap_u32]; rw [c9b0]) | skip)
        have H' := Aside0.mk H
        clear H
        go_wp2
        go_meet
        case rel => exact ⟨_, (true), (by first | rfl | (simp; done) | (simp [*]; done)), H', ⟨by first | omega | exact Nat.le_refl _⟩, ⟨by repeat (first | (with_reducible first | exact HB.out | apply below_alloc | apply pw_below_drewN | apply below_drew1) | exact HB.out)⟩⟩
      · rw [if_neg c9] at H
        have c9b0 : decide (200 < (l0.length : Int)) = false := decide_eq_false c9
        have c9b1 : decide (200 < l0.length) = false := decide_eq_false (by omega)
        clear c9
        (first | rw [c9b0] | (simp only [i64_w, i32_w, Go.IntKind.wrap_u32]; rw [c9b0]) | skip)
        have H' := Aside0.mk H
        clear H
        go_wp2
        go_meet
        case rel => exact ⟨_, (decide ((l2.length : Int) > 200)), (by first | rfl | (simp; done) | (simp [*]; done)), H', ⟨by first | omega | exact Nat.le_refl _⟩, ⟨by repeat (first | (with_reducible first | exact HB.out | apply below_alloc | apply pw_below_drewN | apply below_drew1) | exact HB.out)⟩⟩
    · replace c8 := Bool.eq_false_iff.mpr c8
      subst c8
      have H1 : (hatstandlaw5_LifoRuns.j0 k l0 a1 l2 a3 false true) = some r := by rw [if_neg (show ¬ (false = true) by decide)] at H; exact H
      clear H
      have H := H1
      clear H1
      have H' := Aside0.mk H
      clear H
      go_wp2
      go_meet
      case rel => exact ⟨_, (true), (by first | rfl | (simp; done) | (simp [*]; done)), H', ⟨by first | omega | exact Nat.le_refl _⟩, ⟨by repeat (first | (with_reducible first | exact HB.out | apply below_alloc | apply pw_below_drewN | apply below_drew1) | exact HB.out)⟩⟩
  case rest =>
    clear HC6
    try clear c1
    try clear c2
    try clear p2
    try clear c5
    try clear c8
    try clear c9
    try clear c9b0
    try clear c9b1
    obtain ⟨kq, x31_5, rfl, HA, HJ5, HB⟩ := hcut
    cases kq with
    | zero => exact absurd HA.out (by simp [hatstandlaw5_LifoRuns.j0])
    | succ kj5 =>
      have H := HA.out
      clear HA
      simp only [hatstandlaw5_LifoRuns.j0] at H
      by_cases c10 : x31_5 = true
      · subst c10
        have H1 : (some t272) = some r := by rw [if_pos rfl] at H; exact H
        clear H
        have H := H1
        clear H1
        obtain rfl := Option.some.inj H
        go_wp2
        go_ret
        exact ⟨by first | rfl | (simp [errW_none, errW_some] <;> rfl) | (simp [*, errW_none, errW_some] <;> rfl), by repeat (first | (with_reducible first | exact HB.out | apply below_alloc | apply pw_below_drewN | apply below_drew1) | exact HB.out)⟩
      · replace c10 := Bool.eq_false_iff.mpr c10
        subst c10
        have H1 : ((lifo_Run.f kj5 l0 a1 l2).bind fun bt273 => (if bt273.2 < 0 then (hatstandlaw5_LifoRuns.j1 kj5 l0 a1 l2 a3 bt273.1 bt273.2 true) else (hatstandlaw5_LifoRuns.j1 kj5 l0 a1 l2 a3 bt273.1 bt273.2 (decide (bt273.2 > (l2.length : Int)))))) = some r := by rw [if_neg (show ¬ (false = true) by decide)] at H; exact H
        clear H
        have H := H1
        clear H1
        replace H := Option.bind_eq_some_iff.mp H
        obtain ⟨⟨t273, t274⟩, A110, H⟩ := H
        replace H : (if t274 < 0 then (hatstandlaw5_LifoRuns.j1 kj5 l0 a1 l2 a3 t273 t274 true) else (hatstandlaw5_LifoRuns.j1 kj5 l0 a1 l2 a3 t273 t274 (decide (t274 > (l2.length : Int))))) = some r := H
        have A11 := Aside0.mk A110
        clear A110
        have HC12 := Aside0.mk H
        clear H
        go_upto_region 5 with (first | ((with_reducible refine gate_callee (f := 19) rfl ?_); refine goesL_ (some 37) rfl rfl Try.func19 (by kernel_rfl) rfl #[.slice A0 l0.length c0, .int .i64 a1, .slice A2 l2.length c2] rfl (by (try simp only [List.map_toArray, List.map_cons, List.map_nil]); first | done | rfl | (simp only [List.length_drop, List.length_take]; rfl)) ?_; (with_reducible refine (lifo_Run.calls kj5 _ _ l0 a1 _ _ l2 t273 t274 _ ?side1 ?side2 ?side3 ?side4 A11.out).mono ?_); (case side1 => repeat (first | exact (Kd.C_below HR0.out HB.out) | (with_reducible refine Kd.C_alloc ?_ _) | (with_reducible refine Kd.C_drewN ?_ _) | (with_reducible refine Kd.C_drew ?_))); (case side2 => exact HC0.out); (case side3 => repeat (first | exact (Kd.C_below HR2.out HB.out) | (with_reducible refine Kd.C_alloc ?_ _) | (with_reducible refine Kd.C_drewN ?_ _) | (with_reducible refine Kd.C_drew ?_))); (case side4 => exact HC2.out); rintro e w13 ⟨v275, rfl, ho0, hb⟩; refine ⟨_, rfl, ?_⟩; have n0_ := Aside0.mk (Kd.R_lower ho0 (below_size (by repeat (first | (with_reducible first | exact HB.out | apply below_alloc | apply pw_below_drewN | apply below_drew1) | exact HB.out)))); have n1_ := Aside0.mk (below_step (by repeat (first | (with_reducible first | exact HB.out | apply below_alloc | apply pw_below_drewN | apply below_drew1) | exact HB.out)) hb); clear HB; have HO276 := n0_; have HB := n1_; clear n0_ n1_; (try clear hb); (try clear hb2); (try clear hk); (try clear hi); (try clear ho0)))
        (try simp only [Act.put, List.setIfInBounds_toArray, List.set_cons_zero, List.set_cons_succ])
        go_cut [47] (fun v47 wc => ∃ (kq : Nat) (x47_11 : Bool), v47 = .bool x47_11 ∧ Aside0 (hatstandlaw5_LifoRuns.j1 kq l0 a1 l2 a3 t273 t274 x47_11 = some r) ∧ Aside0 (kq ≤ kj5) ∧ Aside0 (Kd.R (Kd.int .u64) 28 wc w.heap.size (fun _ => True) v275 t273) ∧ Aside0 (Below w.heap.size w wc))
        case first =>
          have H := HC12.out
          clear HC12
          by_cases c14 : t274 < 0
          · rw [if_pos c14] at H
            have c14b0 : decide (t274 < 0) = true := decide_eq_true c14
            clear c14
            (first | rw [c14b0] | (simp only [i64_w, i32_w, Go.IntKind.wrap_u32]; rw [c14b0]) | skip)
            have H' := Aside0.mk H
            clear H
            go_wp2
            go_meet
            case rel => exact ⟨_, (true), (by first | rfl | (simp; done) | (simp [*]; done)), H', ⟨by have := HJ5.out; first | omega | exact Nat.le_refl _⟩, ⟨by (with_reducible repeat (first | apply Kd.R_alloc | apply Kd.R_drewN | apply Kd.R_drew)); exact HO276.out⟩, ⟨by repeat (first | (with_reducible first | exact HB.out | apply below_alloc | apply pw_below_drewN | apply below_drew1) | exact HB.out)⟩⟩
          · rw [if_neg c14] at H
            have c14b0 : decide (t274 < 0) = false := decide_eq_false c14
            clear c14
            (first | rw [c14b0] | (simp only [i64_w, i32_w, Go.IntKind.wrap_u32]; rw [c14b0]) | skip)
            have H' := Aside0.mk H
            clear H
            go_wp2
            go_meet
            case rel => exact ⟨_, (decide (t274 > (l2.length : Int))), (by first | rfl | (simp; done) | (simp [*]; done)), H', ⟨by have := HJ5.out; first | omega | exact Nat.le_refl _⟩, ⟨by (with_reducible repeat (first | apply Kd.R_alloc | apply Kd.R_drewN | apply Kd.R_drew)); exact HO276.out⟩, ⟨by repeat (first | (with_reducible first | exact HB.out | apply below_alloc | apply pw_below_drewN | apply below_drew1) | exact HB.out)⟩⟩
        case rest =>
          clear HC12
          try clear c1
          try clear c2
          try clear p2
          try clear c5
          try clear c8
          try clear c9
          try clear c9b0
          try clear c9b1
          try clear c10
          try clear c14
          try clear c14b0
          try clear p2
          obtain ⟨kq, x47_11, rfl, HA, HJ11, HO_10, HB⟩ := hcut
          cases kq with
          | zero => exact absurd HA.out (by simp [hatstandlaw5_LifoRuns.j1])
          | succ kj11 =>
            have H := HA.out
            clear HA
            simp only [hatstandlaw5_LifoRuns.j1] at H
            by_cases c15 : x47_11 = true
            · subst c15
              have H1 : (some false) = some r := by rw [if_pos rfl] at H; exact H
              clear H
              have H := H1
              clear H1
              exact absurd ((Option.some.inj H).trans HT0.out) (by decide)
            · replace c15 := Bool.eq_false_iff.mpr c15
              subst c15
              have H1 : ((hatstandlaw5_pick.f a3 (wrap64 (t274 + 1))).bind fun t277 => (if 0 ≤ t277 then (if t277 ≤ (l2.length : Int) then ((lifo_Run.f kj11 l0 a1 (l2.take (t277 : Int).toNat)).bind fun bt282 => (if t277 ≤ t274 then (if t274 ≤ (l2.length : Int) then ((lifo_Run.f kj11 bt282.1 a1 ((l2.take (t274 : Int).toNat).drop (t277 : Int).toNat)).bind fun bt290 => (if bt282.2 = t277 then (if bt290.2 = (wrap64 (t274 - t277)) then ((hatstandref5_Same.f kj11 bt290.1 t273).bind fun t294 => (hatstandlaw5_LifoRuns.j2 kj11 a1 l2 t273 t274 (!t294))) else (hatstandlaw5_LifoRuns.j2 kj11 a1 l2 t273 t274 true)) else (hatstandlaw5_LifoRuns.j2 kj11 a1 l2 t273 t274 true))) else (none)) else (none))) else (none)) else (none))) = some r := by rw [if_neg (show ¬ (false = true) by decide)] at H; exact H
              clear H
              have H := H1
              clear H1
              replace H := Option.bind_eq_some_iff.mp H
              obtain ⟨t277, A160, H⟩ := H
              replace H : (if 0 ≤ t277 then (if t277 ≤ (l2.length : Int) then ((lifo_Run.f kj11 l0 a1 (l2.take (t277 : Int).toNat)).bind fun bt282 => (if t277 ≤ t274 then (if t274 ≤ (l2.length : Int) then ((lifo_Run.f kj11 bt282.1 a1 ((l2.take (t274 : Int).toNat).drop (t277 : Int).toNat)).bind fun bt290 => (if bt282.2 = t277 then (if bt290.2 = (wrap64 (t274 - t277)) then ((hatstandref5_Same.f kj11 bt290.1 t273).bind fun t294 => (hatstandlaw5_LifoRuns.j2 kj11 a1 l2 t273 t274 (!t294))) else (hatstandlaw5_LifoRuns.j2 kj11 a1 l2 t273 t274 true)) else (hatstandlaw5_LifoRuns.j2 kj11 a1 l2 t273 t274 true))) else (none)) else (none))) else (none)) else (none)) = some r := H
              have A16 := Aside0.mk A160
              clear A160
              by_cases c17 : 0 ≤ t277
              · rw [if_pos c17] at H
                have c17b0 := eq_true c17
                have c17b1 : decide (0 ≤ t277) = true := decide_eq_true c17
                clear c17
                by_cases c18 : t277 ≤ (l2.length : Int)
                · rw [if_pos c18] at H
                  have c18b0 := eq_true c18
                  have c18b1 : decide (t277 ≤ (l2.length : Int)) = true := decide_eq_true c18
                  clear c18
                  obtain ⟨y278, hy278⟩ : ∃ y_ : List (S30), y_ = (l2.take (t277 : Int).toNat) := ⟨_, rfl⟩
                  replace H : ((lifo_Run.f kj11 l0 a1 y278).bind fun bt282 => (if t277 ≤ t274 then (if t274 ≤ (l2.length : Int) then ((lifo_Run.f kj11 bt282.1 a1 ((l2.take (t274 : Int).toNat).drop (t277 : Int).toNat)).bind fun bt290 => (if bt282.2 = t277 then (if bt290.2 = (wrap64 (t274 - t277)) then ((hatstandref5_Same.f kj11 bt290.1 t273).bind fun t294 => (hatstandlaw5_LifoRuns.j2 kj11 a1 l2 t273 t274 (!t294))) else (hatstandlaw5_LifoRuns.j2 kj11 a1 l2 t273 t274 true)) else (hatstandlaw5_LifoRuns.j2 kj11 a1 l2 t273 t274 true))) else (none)) else (none))) = some r := by first | (rw [hy278]; with_reducible exact H) | (have H2_ := (Option.bind_some _ _).symm.trans H; rw [hy278]; with_reducible exact H2_) | (have H2_ := (Option.bind_some _ _).symm.trans H; with_reducible exact H2_) | with_reducible exact H | (rw [hy278]; exact H) | exact H
                  have Ny278 := Aside0.mk hy278
                  clear hy278
                  replace H := Option.bind_eq_some_iff.mp H
                  obtain ⟨⟨t282, t283⟩, A190, H⟩ := H
                  replace H : (if t277 ≤ t274 then (if t274 ≤ (l2.length : Int) then ((lifo_Run.f kj11 t282 a1 ((l2.take (t274 : Int).toNat).drop (t277 : Int).toNat)).bind fun bt290 => (if t283 = t277 then (if bt290.2 = (wrap64 (t274 - t277)) then ((hatstandref5_Same.f kj11 bt290.1 t273).bind fun t294 => (hatstandlaw5_LifoRuns.j2 kj11 a1 l2 t273 t274 (!t294))) else (hatstandlaw5_LifoRuns.j2 kj11 a1 l2 t273 t274 true)) else (hatstandlaw5_LifoRuns.j2 kj11 a1 l2 t273 t274 true))) else (none)) else (none)) = some r := H
                  have A19 := Aside0.mk A190
                  clear A190
                  have c20b0 := eq_true (of_decide_eq_true (by first | (with_reducible assumption) | assumption) : 0 ≤ t277)
                  by_cases c21 : t277 ≤ t274
                  · rw [if_pos c21] at H
                    have c21b0 := eq_true c21
                    have c21b1 : decide (t277 ≤ t274) = true := decide_eq_true c21
                    clear c21
                    by_cases c22 : t274 ≤ (l2.length : Int)
                    · rw [if_pos c22] at H
                      have c22b0 := eq_true c22
                      have c22b1 : decide (t274 ≤ (l2.length : Int)) = true := decide_eq_true c22
                      clear c22
                      obtain ⟨y286, hy286⟩ : ∃ y_ : List (S30), y_ = ((l2.take (t274 : Int).toNat).drop (t277 : Int).toNat) := ⟨_, rfl⟩
                      replace H : ((lifo_Run.f kj11 t282 a1 y286).bind fun bt290 => (if t283 = t277 then (if bt290.2 = (wrap64 (t274 - t277)) then ((hatstandref5_Same.f kj11 bt290.1 t273).bind fun t294 => (hatstandlaw5_LifoRuns.j2 kj11 a1 l2 t273 t274 (!t294))) else (hatstandlaw5_LifoRuns.j2 kj11 a1 l2 t273 t274 true)) else (hatstandlaw5_LifoRuns.j2 kj11 a1 l2 t273 t274 true))) = some r := by first | (rw [hy286]; with_reducible exact H) | (have H2_ := (Option.bind_some _ _).symm.trans H; rw [hy286]; with_reducible exact H2_) | (have H2_ := (Option.bind_some _ _).symm.trans H; with_reducible exact H2_) | with_reducible exact H | (rw [hy286]; exact H) | exact H
                      have Ny286 := Aside0.mk hy286
                      clear hy286
                      replace H := Option.bind_eq_some_iff.mp H
                      obtain ⟨⟨t290, t291⟩, A230, H⟩ := H
                      replace H : (if t283 = t277 then (if t291 = (wrap64 (t274 - t277)) then ((hatstandref5_Same.f kj11 t290 t273).bind fun t294 => (hatstandlaw5_LifoRuns.j2 kj11 a1 l2 t273 t274 (!t294))) else (hatstandlaw5_LifoRuns.j2 kj11 a1 l2 t273 t274 true)) else (hatstandlaw5_LifoRuns.j2 kj11 a1 l2 t273 t274 true)) = some r := H
                      have A23 := Aside0.mk A230
                      clear A230
                      have HC24 := Aside0.mk H
                      clear H
                      go_upto_region 10 with (first | ((with_reducible refine gate_callee (f := 21) rfl ?_); refine goesL_ (some 51) rfl rfl Try.func21 (by kernel_rfl) rfl #[.int .i64 a3, .int .i64 (wrap64 (t274 + 1))] rfl (by (try simp only [List.map_toArray, List.map_cons, List.map_nil]); first | done | rfl | (simp only [List.length_drop, List.length_take]; rfl)) ?_; (with_reducible refine (hatstandlaw5_pick.calls a3 (wrap64 (t274 + 1)) t277 _ A16.out).mono ?_); rintro e w' ⟨rfl, ⟨nd, rfl⟩⟩; refine ⟨_, rfl, ?_⟩; have q25 : (t277 : Int) ≤ ((l2.length : Int) : Int) := of_decide_eq_true (by first | (with_reducible assumption) | assumption); obtain ⟨i025, hi025, _, hsz25, _⟩ := info_parts info30; have hroom25 : l2.length ≤ c2 := HC2.out; have hC25 : Kd.C k30 _ A2 l2.length l2 := HR2.out; have hcut25 := cut_to (P := Try.prog) 23 30 .i64 Try.underlying23 hi025 A2 l2.length c2 t277 (of_decide_eq_true (by first | (with_reducible assumption) | assumption)) q25 hroom25; have hr25 := Kd.C_take (m := (t277 : Int).toNat) hC25 (by omega); have hy25 : y278.length = (t277 : Int).toNat := (by rw [Ny278.out, List.length_take]; omega); rw [← Ny278.out] at hr25; rw [← hy25] at hcut25; have HR281 := Aside0.mk hr25; have HC281 := Aside0.mk (show y278.length ≤ c2 from by omega); clear hr25 hC25 hroom25 hi025 hsz25; have KY25 := Aside0.mk hy25; clear hy25; replace q25 := eq_true q25) | ((with_reducible refine gate_callee (f := 19) rfl ?_); refine goesL_ (some 58) rfl rfl Try.func19 (by kernel_rfl) rfl #[.slice A0 l0.length c0, .int .i64 a1, .slice A2 y278.length c2] rfl (by (try simp only [List.map_toArray, List.map_cons, List.map_nil]); first | done | rfl | (simp only [List.length_drop, List.length_take]; rfl)) ?_; (with_reducible refine (lifo_Run.calls kj11 _ _ l0 a1 _ _ y278 t282 t283 _ ?side1 ?side2 ?side3 ?side4 A19.out).mono ?_); (case side1 => repeat (first | exact (Kd.C_below HR0.out (by repeat (first | (with_reducible first | exact HB.out | apply below_alloc | apply pw_below_drewN | apply below_drew1) | exact HB.out))) | (with_reducible refine Kd.C_alloc ?_ _) | (with_reducible refine Kd.C_drewN ?_ _) | (with_reducible refine Kd.C_drew ?_))); (case side2 => exact HC0.out); (case side3 => repeat (first | exact (Kd.C_below HR281.out (by repeat (first | (with_reducible first | exact HB.out | apply below_alloc | apply pw_below_drewN | apply below_drew1) | exact HB.out))) | (with_reducible refine Kd.C_alloc ?_ _) | (with_reducible refine Kd.C_drewN ?_ _) | (with_reducible refine Kd.C_drew ?_))); (case side4 => exact HC281.out); rintro e w26 ⟨v284, rfl, ho0, hb⟩; refine ⟨_, rfl, ?_⟩; have n0_ := Aside0.mk (Kd.R_elder' (by (with_reducible repeat (first | apply Kd.R_alloc | apply Kd.R_drewN | apply Kd.R_drew)); exact HO_10.out) (Kd.R_base ho0) hb); have n1_ := Aside0.mk (Kd.R_lower (Kd.R_new' ho0 (Kd.R_lt (by (with_reducible repeat (first | apply Kd.R_alloc | apply Kd.R_drewN | apply Kd.R_drew)); exact HO_10.out))) (below_size (by repeat (first | (with_reducible first | exact HB.out | apply below_alloc | apply pw_below_drewN | apply below_drew1) | exact HB.out)))); have n2_ := Aside0.mk (below_step (by repeat (first | (with_reducible first | exact HB.out | apply below_alloc | apply pw_below_drewN | apply below_drew1) | exact HB.out)) hb); clear HO_10; clear HB; have HO_10 := n0_; have HO285 := n1_; have HB := n2_; clear n0_ n1_ n2_; (try clear hb); (try clear hb2); (try clear hk); (try clear hi); (try clear ho0); have q27 : (t274 : Int) ≤ ((l2.length : Int) : Int) := of_decide_eq_true (by first | (with_reducible assumption) | assumption); obtain ⟨i027, hi027, _, hsz27, _⟩ := info_parts info30; have hroom27 : l2.length ≤ c2 := HC2.out; have hC27 : Kd.C k30 _ A2 l2.length l2 := HR2.out; have ql27 : (t277 : Int) ≤ (t274 : Int) := of_decide_eq_true (by first | (with_reducible assumption) | assumption); have q027 : (0 : Int) ≤ (t277 : Int) := of_decide_eq_true (by first | (with_reducible assumption) | assumption); have hcut27 := cut_mid (P := Try.prog) 23 30 .i64 .i64 Try.underlying23 hi027 3 hsz27 A2 l2.length c2 t277 t274 q027 ql27 q27 hroom27; have hr27 := Kd.C_mid (lo := (t277 : Int).toNat) (hi := (t274 : Int).toNat) (c := c2) hC27 (by omega) (by omega) hroom27; obtain ⟨A27, hA27⟩ : ∃ A1, A1 = (if c2 = (t277 : Int).toNat then A2 else (A2 : Option Addr).map (·.add ((t277 : Int).toNat * 3))) := ⟨_, rfl⟩; obtain ⟨c27, hc27⟩ : ∃ c1, c1 = c2 - (t277 : Int).toNat := ⟨_, rfl⟩; have hy27 : y286.length = (t274 : Int).toNat - (t277 : Int).toNat := (by rw [Ny286.out, List.length_drop, List.length_take] <;> omega); rw [show ((l2).take (t274 : Int).toNat).drop (t277 : Int).toNat = y286 from Ny286.out.symm] at hr27; replace hr27 : Kd.C k30 _ A27 y286.length y286 := (by rw [hA27]; exact hr27); rw [← hy27, ← hA27, ← hc27] at hcut27; have HR289 := Aside0.mk hr27; have HC289 := Aside0.mk (show y286.length ≤ c27 from by rw [hy27, hc27]; exact Nat.sub_le_sub_right (Nat.le_trans (by omega) hroom27) _); clear hr27 hC27 hroom27 hi027 hsz27 hc27; have KY27 := Aside0.mk hy27; have KA27 := Aside0.mk hA27; clear hy27 hA27; replace q27 := eq_true q27; obtain ⟨Ao28, co28, eo28⟩ := Kd.R_slice HO285.out; subst eo28) | ((with_reducible refine gate_callee (f := 19) rfl ?_); refine goesL_ (some 68) rfl rfl Try.func19 (by kernel_rfl) rfl #[.slice Ao28 t282.length co28, .int .i64 a1, .slice A27 y286.length c27] rfl (by (try simp only [List.map_toArray, List.map_cons, List.map_nil]); first | done | rfl | (simp only [List.length_drop, List.length_take]; rfl)) ?_; (with_reducible refine (lifo_Run.calls kj11 _ _ t282 a1 _ _ y286 t290 t291 _ ?side1 ?side2 ?side3 ?side4 A23.out).mono ?_); (case side1 => repeat (first | exact (Kd.R_reads' HO285.out).2.2 | (with_reducible refine Kd.C_alloc ?_ _) | (with_reducible refine Kd.C_drewN ?_ _) | (with_reducible refine Kd.C_drew ?_))); (case side2 => exact (Kd.R_reads' HO285.out).2.1); (case side3 => repeat (first | exact (Kd.C_below HR289.out HB.out) | (with_reducible refine Kd.C_alloc ?_ _) | (with_reducible refine Kd.C_drewN ?_ _) | (with_reducible refine Kd.C_drew ?_))); (case side4 => exact HC289.out); rintro e w29 ⟨v292, rfl, ho0, hb⟩; refine ⟨_, rfl, ?_⟩; have n0_ := Aside0.mk (Kd.R_elder' (by (with_reducible repeat (first | apply Kd.R_alloc | apply Kd.R_drewN | apply Kd.R_drew)); exact HO_10.out) (Kd.R_base ho0) hb); have n1_ := Aside0.mk (Kd.R_elder' (by (with_reducible repeat (first | apply Kd.R_alloc | apply Kd.R_drewN | apply Kd.R_drew)); exact HO285.out) (Kd.R_base ho0) hb); have n2_ := Aside0.mk (Kd.R_lower (Kd.R_new' (Kd.R_new' ho0 (Kd.R_lt (by (with_reducible repeat (first | apply Kd.R_alloc | apply Kd.R_drewN | apply Kd.R_drew)); exact HO_10.out))) (Kd.R_lt (by (with_reducible repeat (first | apply Kd.R_alloc | apply Kd.R_drewN | apply Kd.R_drew)); exact HO285.out))) (below_size (by repeat (first | (with_reducible first | exact HB.out | apply below_alloc | apply pw_below_drewN | apply below_drew1) | exact HB.out)))); have n3_ := Aside0.mk (below_step (by repeat (first | (with_reducible first | exact HB.out | apply below_alloc | apply pw_below_drewN | apply below_drew1) | exact HB.out)) hb); clear HO_10; clear HO285; clear HB; have HO_10 := n0_; have HO285 := n1_; have HO293 := n2_; have HB := n3_; clear n0_ n1_ n2_ n3_; (try clear hb); (try clear hb2); (try clear hk); (try clear hi); (try clear ho0)))
                      (try simp only [Act.put, List.setIfInBounds_toArray, List.set_cons_zero, List.set_cons_succ])
                      go_cut [86] (fun v86 wc => ∃ (kq : Nat) (x86_23 : Bool), v86 = .bool x86_23 ∧ Aside0 (hatstandlaw5_LifoRuns.j2 kq a1 l2 t273 t274 x86_23 = some r) ∧ Aside0 (kq ≤ kj11) ∧ Aside0 (Kd.R (Kd.int .u64) 28 wc w.heap.size (fun _ => True) v275 t273) ∧ Aside0 (Below w.heap.size w wc))
                      case first =>
                        have H := HC24.out
                        clear HC24
                        by_cases c30 : t283 = t277
                        · rw [if_pos c30] at H
                          have c30b0 : (t283 == t277) = true := beq_iff_eq.mpr c30
                          have c30b1 : (t283 != t277) = false := bne_eq_false_iff_eq.mpr c30
                          clear c30
                          (first | rw [c30b0] | (simp only [i64_w, i32_w, Go.IntKind.wrap_u32]; rw [c30b0]) | skip)
                          by_cases c31 : t291 = (wrap64 (t274 - t277))
                          · rw [if_pos c31] at H
                            have c31b0 : (t291 == (wrap64 (t274 - t277))) = true := beq_iff_eq.mpr c31
                            have c31b1 : (t291 != (wrap64 (t274 - t277))) = false := bne_eq_false_iff_eq.mpr c31
                            clear c31
                            replace H := Option.bind_eq_some_iff.mp H
                            obtain ⟨t294, A320, H⟩ := H
                            replace H : (hatstandlaw5_LifoRuns.j2 kj11 a1 l2 t273 t274 (!t294)) = some r := H
                            have A32 := Aside0.mk A320
                            clear A320
                            have H' := Aside0.mk H
                            clear H
                            obtain ⟨Ao33, co33, eo33⟩ := Kd.R_slice HO293.out
                            subst eo33
                            obtain ⟨Ao34, co34, eo34⟩ := Kd.R_slice HO_10.out
                            subst eo34
                            go_wp2_with (first | (go_at_call 16; (with_reducible refine (hatstandref5_Same.calls kj11 _ _ t290 _ _ t273 t294 _ ?side1 ?side2 ?side3 ?side4 A32.out).mono ?_); (case side1 => repeat (first | exact (Kd.R_reads' HO293.out).2.2 | (with_reducible refine Kd.C_alloc ?_ _) | (with_reducible refine Kd.C_drewN ?_ _) | (with_reducible refine Kd.C_drew ?_))); (case side2 => exact (Kd.R_reads' HO293.out).2.1); (case side3 => repeat (first | exact (Kd.R_reads' HO_10.out).2.2 | (with_reducible refine Kd.C_alloc ?_ _) | (with_reducible refine Kd.C_drewN ?_ _) | (with_reducible refine Kd.C_drew ?_))); (case side4 => exact (Kd.R_reads' HO_10.out).2.1); rintro e w' ⟨rfl, ⟨nd, rfl⟩⟩))
                            go_meet
                            case rel => exact ⟨_, (!t294), (by first | rfl | (simp; done) | (simp [*]; done)), H', ⟨by have := HJ5.out; have := HJ11.out; first | omega | exact Nat.le_refl _⟩, ⟨by (with_reducible repeat (first | apply Kd.R_alloc | apply Kd.R_drewN | apply Kd.R_drew)); exact Kd.R_mono HO_10.out (fun _ hk => trivial)⟩, ⟨by repeat (first | (with_reducible first | exact HB.out | apply below_alloc | apply pw_below_drewN | apply below_drew1) | exact HB.out)⟩⟩
                          · rw [if_neg c31] at H
                            have c31b0 : (t291 == (wrap64 (t274 - t277))) = false := beq_eq_false_iff_ne.mpr c31
                            have c31b1 : (t291 != (wrap64 (t274 - t277))) = true := bne_iff_ne.mpr c31
                            have H' := Aside0.mk H
                            clear H
                            go_wp2
                            go_meet
                            case rel => exact ⟨_, (true), (by first | rfl | (simp; done) | (simp [*]; done)), H', ⟨by have := HJ5.out; have := HJ11.out; first | omega | exact Nat.le_refl _⟩, ⟨by (with_reducible repeat (first | apply Kd.R_alloc | apply Kd.R_drewN | apply Kd.R_drew)); exact Kd.R_mono HO_10.out (fun _ hk => trivial)⟩, ⟨by repeat (first | (with_reducible first | exact HB.out | apply below_alloc | apply pw_below_drewN | apply below_drew1) | exact HB.out)⟩⟩
                        · rw [if_neg c30] at H
                          have c30b0 : (t283 == t277) = false := beq_eq_false_iff_ne.mpr c30
                          have c30b1 : (t283 != t277) = true := bne_iff_ne.mpr c30
                          (first | rw [c30b0] | (simp only [i64_w, i32_w, Go.IntKind.wrap_u32]; rw [c30b0]) | skip)
                          have H' := Aside0.mk H
                          clear H
                          go_wp2
                          go_meet
                          case rel => exact ⟨_, (true), (by first | rfl | (simp; done) | (simp [*]; done)), H', ⟨by have := HJ5.out; have := HJ11.out; first | omega | exact Nat.le_refl _⟩, ⟨by (with_reducible repeat (first | apply Kd.R_alloc | apply Kd.R_drewN | apply Kd.R_drew)); exact Kd.R_mono HO_10.out (fun _ hk => trivial)⟩, ⟨by repeat (first | (with_reducible first | exact HB.out | apply below_alloc | apply pw_below_drewN | apply below_drew1) | exact HB.out)⟩⟩
                      case rest =>
                        clear HC24
                        try clear c1
                        try clear c2
                        try clear p2
                        try clear q2
                        try clear c3
                        try clear c5
                        try clear p6
                        try clear c8
                        try clear c9
                        try clear c9b0
                        try clear c9b1
                        try clear c10
                        try clear c14
                        try clear c14b0
                        try clear c15
                        try clear c17
                        try clear c17b0
                        try clear c17b1
                        try clear c18
                        try clear c18b0
                        try clear c18b1
                        try clear c19
                        try clear c20
                        try clear c20b0
                        try clear c21
                        try clear c21b0
                        try clear c21b1
                        try clear c22
                        try clear c22b0
                        try clear c22b1
                        try clear q25
                        try clear c27
                        try clear q27
                        try clear c30
                        try clear c30b0
                        try clear c30b1
                        try clear c31
                        try clear c31b0
                        try clear c31b1
                        try clear p2
                        try clear q027
                        try clear q25
                        try clear q27
                        obtain ⟨kq, x86_23, rfl, HA, HJ23, HO_10, HB⟩ := hcut
                        cases kq with
                        | zero => exact absurd HA.out (by simp [hatstandlaw5_LifoRuns.j2])
                        | succ kj23 =>
                          have H := HA.out
                          clear HA
                          simp only [hatstandlaw5_LifoRuns.j2] at H
                          by_cases c35 : x86_23 = true
                          · subst c35
                            have H1 : (some false) = some r := by rw [if_pos rfl] at H; exact H
                            clear H
                            have H := H1
                            clear H1
                            exact absurd ((Option.some.inj H).trans HT0.out) (by decide)
                          · replace c35 := Bool.eq_false_iff.mpr c35
                            subst c35
                            have H1 : (if t274 = (l2.length : Int) then (some true) else (if 0 ≤ t274 then (if t274 < (l2.length : Int) then ((lifo_Do.f t273 a1 ((rd_T30 l2 t274).f0) ((rd_T30 l2 t274).f1) ((rd_T30 l2 t274).f2)).bind fun bt296 => (if bt296.2 = true then (some false) else (some ((bt296.1.length : Int) == 0)))) else (none)) else (none))) = some r := by rw [if_neg (show ¬ (false = true) by decide)] at H; exact H
                            clear H
                            have H := H1
                            clear H1
                            by_cases c36 : t274 = (l2.length : Int)
                            · rw [if_pos c36] at H
                              have c36b0 : (t274 == (l2.length : Int)) = true := beq_iff_eq.mpr c36
                              have c36b1 : (t274 != (l2.length : Int)) = false := bne_eq_false_iff_eq.mpr c36
                              clear c36
                              obtain rfl := Option.some.inj H
                              go_wp2
                              go_ret
                              exact ⟨by first | rfl | (simp [errW_none, errW_some] <;> rfl) | (simp [*, errW_none, errW_some] <;> rfl), by repeat (first | (with_reducible first | exact HB.out | apply below_alloc | apply pw_below_drewN | apply below_drew1) | exact HB.out)⟩
                            · rw [if_neg c36] at H
                              have c36b0 : (t274 == (l2.length : Int)) = false := beq_eq_false_iff_ne.mpr c36
                              have c36b1 : (t274 != (l2.length : Int)) = true := bne_iff_ne.mpr c36
                              by_cases c37 : 0 ≤ t274
                              · rw [if_pos c37] at H
                                have c37b0 : decide (0 ≤ t274) = true := decide_eq_true c37
                                clear c37
                                by_cases c38 : t274 < (l2.length : Int)
                                · rw [if_pos c38] at H
                                  have c38b0 : decide (t274 < (l2.length : Int)) = true := decide_eq_true c38
                                  clear c38
                                  replace H := Option.bind_eq_some_iff.mp H
                                  obtain ⟨⟨t296, t299⟩, A390, H⟩ := H
                                  replace H : (if t299 = true then (some false) else (some ((t296.length : Int) == 0))) = some r := H
                                  have A39 := Aside0.mk A390
                                  clear A390
                                  by_cases c40 : t299 = true
                                  · subst c40
                                    have H1 : (some false) = some r := by rw [if_pos rfl] at H; exact H
                                    clear H
                                    have H := H1
                                    clear H1
                                    exact absurd ((Option.some.inj H).trans HT0.out) (by decide)
                                  · replace c40 := Bool.eq_false_iff.mpr c40
                                    subst c40
                                    have H1 : (some ((t296.length : Int) == 0)) = some r := by rw [if_neg (show ¬ (false = true) by decide)] at H; exact H
                                    clear H
                                    have H := H1
                                    clear H1
                                    obtain rfl := Option.some.inj H
                                    have p295 : 0 ≤ (t274 : Int) := of_decide_eq_true (by first | (with_reducible assumption) | assumption)
                                    have q295 : t274 < (l2.length : Int) := of_decide_eq_true (by first | (with_reducible assumption) | assumption)
                                    obtain ⟨ad295, e295, hx295_0, hx295_1, hx295_2⟩ := at_T30 HR2.out t274 p295 q295
                                    cases e295
                                    replace hx295_0 := (HB.out.cell (World.block_lt_of_cell? w _ hx295_0)).trans hx295_0
                                    replace hx295_1 := (HB.out.cell (World.block_lt_of_cell? w _ hx295_1)).trans hx295_1
                                    replace hx295_2 := (HB.out.cell (World.block_lt_of_cell? w _ hx295_2)).trans hx295_2
                                    replace p295 := eq_true p295
                                    replace q295 := eq_true q295
                                    obtain ⟨Ao41, co41, eo41⟩ := Kd.R_slice HO_10.out
                                    subst eo41
                                    go_wp2_with (first | ((with_reducible refine gate_callee (f := 13) rfl ?_); refine goesL_ (some 98) rfl rfl Try.func13 (by kernel_rfl) rfl #[.slice Ao41 t273.length co41, .int .i64 a1, .agg #[.bool ((rd_T30 l2 t274).f0), .int .u64 ((rd_T30 l2 t274).f1), .int .i64 ((rd_T30 l2 t274).f2)]] rfl (by (try simp only [List.map_toArray, List.map_cons, List.map_nil]); first | done | rfl | (simp only [List.length_drop, List.length_take]; rfl)) ?_; (with_reducible refine (lifo_Do.calls _ _ t273 a1 ((rd_T30 l2 t274).f0) ((rd_T30 l2 t274).f1) ((rd_T30 l2 t274).f2) t296 false _ ?side1 ?side2 A39.out).mono ?_); (case side1 => repeat (first | exact (Kd.R_reads' HO_10.out).2.2 | (with_reducible refine Kd.C_alloc ?_ _) | (with_reducible refine Kd.C_drewN ?_ _) | (with_reducible refine Kd.C_drew ?_))); (case side2 => exact (Kd.R_reads' HO_10.out).2.1); rintro e w42 ⟨v297, rfl, ho0, hb⟩; refine ⟨_, rfl, ?_⟩; have n0_ := Aside0.mk (Kd.R_elder' (by (with_reducible repeat (first | apply Kd.R_alloc | apply Kd.R_drewN | apply Kd.R_drew)); exact HO_10.out) (Kd.R_base ho0) hb); have n1_ := Aside0.mk (Kd.R_lower (Kd.R_new' ho0 (Kd.R_lt (by (with_reducible repeat (first | apply Kd.R_alloc | apply Kd.R_drewN | apply Kd.R_drew)); exact HO_10.out))) (below_size (by repeat (first | (with_reducible first | exact HB.out | apply below_alloc | apply pw_below_drewN | apply below_drew1) | exact HB.out)))); have n2_ := Aside0.mk (below_step (by repeat (first | (with_reducible first | exact HB.out | apply below_alloc | apply pw_below_drewN | apply below_drew1) | exact HB.out)) hb); clear HO_10; clear HB; have HO_10 := n0_; have HO298 := n1_; have HB := n2_; clear n0_ n1_ n2_; (try clear hb); (try clear hb2); (try clear hk); (try clear hi); (try clear ho0); obtain ⟨Ao43, co43, eo43⟩ := Kd.R_slice HO298.out; subst eo43))
                                    go_ret
                                    exact ⟨by first | rfl | (simp [errW_none, errW_some] <;> rfl) | (simp [*, errW_none, errW_some] <;> rfl), by repeat (first | (with_reducible first | exact HB.out | apply below_alloc | apply pw_below_drewN | apply below_drew1) | exact HB.out)⟩
                                · rw [if_neg c38] at H
                                  exact absurd H (by simp)
                              · rw [if_neg c37] at H
                                exact absurd H (by simp)
                    · rw [if_neg c22] at H
                      exact absurd H (by simp)
                  · rw [if_neg c21] at H
                    exact absurd H (by simp)
                · rw [if_neg c18] at H
                  exact absurd H (by simp)
              · rw [if_neg c17] at H
                exact absurd H (by simp)

/-- THE ONE PURE STATEMENT of hatstandlaw5_LifoRuns. -/
def hatstandlaw5_LifoRuns.Pure : Prop := ∀ (l0 : List Int) (a1 : Int) (l2 : List (S30)) (a3 : Int), l0.length ≤ maxLen → l0.length * 8 ≤ 140737488351232 → (∀ x ∈ l0, (Lit.int .u64 x).wf = true) → (Lit.int .i64 a1).wf = true → l2.length ≤ maxLen → l2.length * 24 ≤ 140737488351232 → (∀ x ∈ l2, (Lit.int .u64 x.f1).wf = true ∧ (Lit.int .i64 x.f2).wf = true) → (Lit.int .i64 a3).wf = true → ∃ k, hatstandlaw5_LifoRuns.f k l0 a1 l2 a3 = some true
theorem hatstandlaw5_LifoRuns.walk (P : hatstandlaw5_LifoRuns.Pure) (A0 : Option Addr) (c0 : Nat) (l0 : List Int) (a1 : Int) (A2 : Option Addr) (c2 : Nat) (l2 : List (S30)) (a3 : Int) (w : World) (hr0 : Kd.C (Kd.int .u64) w A0 l0.length l0) (hc0 : l0.length ≤ c0) (hr2 : Kd.C k30 w A2 l2.length l2) (hc2 : l2.length ≤ c2) (hm0 : l0.length ≤ maxLen) (y0 : l0.length * 8 ≤ 140737488351232) (hw0 : (∀ x ∈ l0, (Lit.int .u64 x).wf = true)) (hw1 : (Lit.int .i64 a1).wf = true) (hm2 : l2.length ≤ maxLen) (y2 : l2.length * 24 ≤ 140737488351232) (hw2 : (∀ x ∈ l2, (Lit.int .u64 x.f1).wf = true ∧ (Lit.int .i64 x.f2).wf = true)) (hw3 : (Lit.int .i64 a3).wf = true) :
    Calls Try.prog 5 #[.slice A0 l0.length c0, .int .i64 a1, .slice A2 l2.length c2, .int .i64 a3] w fun e w' => e = .returned (.bool true) ∧ Below w.heap.size w w' := by
  obtain ⟨k, h⟩ := P l0 a1 l2 a3 hm0 y0 hw0 hw1 hm2 y2 hw2 hw3
  refine (hatstandlaw5_LifoRuns.calls k A0 c0 l0 a1 A2 c2 l2 a3 true w hr0 hc0 hr2 hc2 h rfl).mono ?_
  rintro e w' ⟨rfl, hd⟩
  exact ⟨rfl, hd⟩

end Go.Proofs.Ytoafkejmdlcnpaa.P
