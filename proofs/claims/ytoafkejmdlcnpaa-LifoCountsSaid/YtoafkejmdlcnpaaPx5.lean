/- Walks, written by a program for this claim: each Go function that the laws reach comes to what its Lean function says. -/
import Derived.Test.YtoafkejmdlcnpaaPx0
import Derived.Test.YtoafkejmdlcnpaaPx1
import Derived.Test.YtoafkejmdlcnpaaPx2
import Derived.Test.YtoafkejmdlcnpaaPx3
import Derived.Test.YtoafkejmdlcnpaaPx4
namespace Go.Proofs.Ytoafkejmdlcnpaa.P
open Go.RowKit Go.Proofs.YtoafkejmdlcnpaaW.PrintWords Go.Proofs.YtoafkejmdlcnpaaW.PrintLast Go.Proofs.YtoafkejmdlcnpaaW.PrintMore
attribute [local go_sem] max2_int min2_int max_two min_two max_three min_three max_four min_four   -- for this text's walks alone
set_option linter.unusedVariables false
set_option linter.unusedSimpArgs false

/-! ### hatstandlaw5_LifoTells: function 3 -/
mutual
def hatstandlaw5_LifoTells.j0 : Nat → List Int → Int → List (S30) → Bool → Bool → Option (Bool)
  | 0, _, _, _, _, _ => none
  | k + 1, x0, x1, x2, x7, x39 => if x39 = true then (some x7) else (hatstandlaw5_LifoTells.l0 k x0 x1 x2 0)
def hatstandlaw5_LifoTells.l0 : Nat → List Int → Int → List (S30) → Int → Option (Bool)
  | 0, _, _, _, _ => none
  | k + 1, x0, x1, x2, x8 => if x8 < (x2.length : Int) then (if 0 ≤ x8 then ((lifo_Push.f x0 x1 ((rd_T30 x2 x8).f1)).bind fun bt199 => ((hatstandref5_Push.f x0 x1 ((rd_T30 x2 x8).f1)).bind fun bt204 => ((lifo_Do.f x0 x1 ((rd_T30 x2 x8).f0) ((rd_T30 x2 x8).f1) ((rd_T30 x2 x8).f2)).bind fun bt209 => ((hatstandlaw5_as.f k x2).bind fun t213 => (if x8 < (t213.length : Int) then ((hatstandref5_Do.f x0 x1 ((rd_T34 t213 x8).f0) ((rd_T34 t213 x8).f1) ((rd_T34 t213 x8).f2)).bind fun bt217 => ((hatstandref5_Same.f k bt199.1 bt204.1).bind fun t221 => (if t221 = true then (if bt199.2 = bt204.2 then ((hatstandref5_Same.f k bt209.1 bt217.1).bind fun t222 => (if t222 = true then (if (bt209.2 != bt217.2) = true then (some false) else (hatstandlaw5_LifoTells.l0 k x0 x1 x2 (wrap64 (x8 + 1)))) else (some false))) else (some false)) else (some false)))) else (none)))))) else (none)) else ((lifo_Pop.f x0).bind fun bt223 => ((hatstandref5_Pop.f x0).bind fun bt228 => ((lifo_Run.f k x0 x1 x2).bind fun bt233 => ((hatstandlaw5_as.f k x2).bind fun t237 => ((hatstandref5_Run.f k x0 x1 t237).bind fun bt240 => ((hatstandref5_Same.f k bt223.1 bt228.1).bind fun t244 => (if t244 = true then (if bt223.2.1 = bt228.2.1 then (if bt223.2.2 = bt228.2.2 then ((hatstandref5_Same.f k bt233.1 bt240.1).bind fun t245 => (if t245 = true then (some (bt233.2 == bt240.2)) else (some false))) else (some false)) else (some false)) else (some false))))))))
end
def hatstandlaw5_LifoTells.f (k : Nat) (l0 : List Int) (a1 : Int) (l2 : List (S30)) : Option (Bool) := (hatstandlaw5_shown.f k).bind fun t197 => (if t197 = true then (if (l0.length : Int) > 300 then (hatstandlaw5_LifoTells.j0 k l0 a1 l2 t197 true) else (hatstandlaw5_LifoTells.j0 k l0 a1 l2 t197 (decide ((l2.length : Int) > 300)))) else (hatstandlaw5_LifoTells.j0 k l0 a1 l2 t197 true))
theorem hatstandlaw5_LifoTells.mono_l : ∀ k, (∀ y0 y1 y2 y3 y4, LeO (hatstandlaw5_LifoTells.j0 k y0 y1 y2 y3 y4) (hatstandlaw5_LifoTells.j0 (k + 1) y0 y1 y2 y3 y4)) ∧ (∀ y0 y1 y2 y3, LeO (hatstandlaw5_LifoTells.l0 k y0 y1 y2 y3) (hatstandlaw5_LifoTells.l0 (k + 1) y0 y1 y2 y3))
  | 0 => ⟨fun _ _ _ _ _ r h => by simp [hatstandlaw5_LifoTells.j0] at h, fun _ _ _ _ r h => by simp [hatstandlaw5_LifoTells.l0] at h⟩
  | k + 1 => by
    obtain ⟨ih0, ih1⟩ := hatstandlaw5_LifoTells.mono_l k
    refine ⟨?_, ?_⟩
    · intro y0 y1 y2 y3 y4
      unfold hatstandlaw5_LifoTells.j0
      repeat' first
      | (with_reducible exact ih0 _ _ _ _ _)
      | (with_reducible exact ih1 _ _ _ _)
      | (with_reducible exact hatstandlaw5_as.mono _ _)
      | (with_reducible exact hatstandlaw5_shown.mono _)
      | (with_reducible exact hatstandref5_Run.mono _ _ _ _)
      | (with_reducible exact hatstandref5_Same.mono _ _ _)
      | (with_reducible exact lifo_Run.mono _ _ _ _)
      | (with_reducible exact LeO.refl _)
      | (with_reducible exact LeO.none _)
      | (with_reducible refine LeO.ite ?_ ?_)
      | (with_reducible refine LeO.bind ?_ (fun _ => ?_))
      | exact ih0 _ _ _ _ _
      | exact ih1 _ _ _ _
      | exact hatstandlaw5_as.mono _ _
      | exact hatstandlaw5_shown.mono _
      | exact hatstandref5_Run.mono _ _ _ _
      | exact hatstandref5_Same.mono _ _ _
      | exact lifo_Run.mono _ _ _ _
      | exact LeO.none _
      | refine LeO.ite ?_ ?_
      | refine LeO.bind ?_ (fun _ => ?_)
    · intro y0 y1 y2 y3
      unfold hatstandlaw5_LifoTells.l0
      repeat' first
      | (with_reducible exact ih0 _ _ _ _ _)
      | (with_reducible exact ih1 _ _ _ _)
      | (with_reducible exact hatstandlaw5_as.mono _ _)
      | (with_reducible exact hatstandlaw5_shown.mono _)
      | (with_reducible exact hatstandref5_Run.mono _ _ _ _)
      | (with_reducible exact hatstandref5_Same.mono _ _ _)
      | (with_reducible exact lifo_Run.mono _ _ _ _)
      | (with_reducible exact LeO.refl _)
      | (with_reducible exact LeO.none _)
      | (with_reducible refine LeO.ite ?_ ?_)
      | (with_reducible refine LeO.bind ?_ (fun _ => ?_))
      | exact ih0 _ _ _ _ _
      | exact ih1 _ _ _ _
      | exact hatstandlaw5_as.mono _ _
      | exact hatstandlaw5_shown.mono _
      | exact hatstandref5_Run.mono _ _ _ _
      | exact hatstandref5_Same.mono _ _ _
      | exact lifo_Run.mono _ _ _ _
      | exact LeO.none _
      | refine LeO.ite ?_ ?_
      | refine LeO.bind ?_ (fun _ => ?_)
theorem hatstandlaw5_LifoTells.mono : ∀ a0 a1 a2 k, LeO (hatstandlaw5_LifoTells.f k a0 a1 a2) (hatstandlaw5_LifoTells.f (k + 1) a0 a1 a2) := by
  intro a0 a1 a2 k
  obtain ⟨ih0, ih1⟩ := hatstandlaw5_LifoTells.mono_l k
  unfold hatstandlaw5_LifoTells.f
  repeat' first
      | (with_reducible exact ih0 _ _ _ _ _)
      | (with_reducible exact ih1 _ _ _ _)
      | (with_reducible exact hatstandlaw5_as.mono _ _)
      | (with_reducible exact hatstandlaw5_shown.mono _)
      | (with_reducible exact hatstandref5_Run.mono _ _ _ _)
      | (with_reducible exact hatstandref5_Same.mono _ _ _)
      | (with_reducible exact lifo_Run.mono _ _ _ _)
      | (with_reducible exact LeO.refl _)
      | (with_reducible exact LeO.none _)
      | (with_reducible refine LeO.ite ?_ ?_)
      | (with_reducible refine LeO.bind ?_ (fun _ => ?_))
      | exact ih0 _ _ _ _ _
      | exact ih1 _ _ _ _
      | exact hatstandlaw5_as.mono _ _
      | exact hatstandlaw5_shown.mono _
      | exact hatstandref5_Run.mono _ _ _ _
      | exact hatstandref5_Same.mono _ _ _
      | exact lifo_Run.mono _ _ _ _
      | exact LeO.none _
      | refine LeO.ite ?_ ?_
      | refine LeO.bind ?_ (fun _ => ?_)
set_option maxHeartbeats 8000000 in
set_option maxRecDepth 100000 in
theorem hatstandlaw5_LifoTells.calls (k : Nat) (A0 : Option Addr) (c0 : Nat) (l0 : List Int) (a1 : Int) (A2 : Option Addr) (c2 : Nat) (l2 : List (S30)) (r : Bool) (w : World) (hr0 : Kd.C (Kd.int .u64) w A0 l0.length l0) (hc0 : l0.length ≤ c0) (hr2 : Kd.C k30 w A2 l2.length l2) (hc2 : l2.length ≤ c2) (h : hatstandlaw5_LifoTells.f k l0 a1 l2 = some r) (ht_ : r = true) :
    Calls Try.prog 3 #[.slice A0 l0.length c0, .int .i64 a1, .slice A2 l2.length c2] w fun e w' => e = .returned (.bool r) ∧ Below w.heap.size w w' := by
  have hu30 := Try.underlying30
  have hu34 := Try.underlying34
  have HR0 := Aside0.mk hr0
  have HC0 := Aside0.mk hc0
  clear hr0 hc0
  have HR2 := Aside0.mk hr2
  have HC2 := Aside0.mk hc2
  clear hr2 hc2
  have HB := Aside0.mk (Below.refl w.heap.size w)
  have HT0 := Aside0.mk ht_
  clear ht_
  have H : ((hatstandlaw5_shown.f k).bind fun t197 => (if t197 = true then (if (l0.length : Int) > 300 then (hatstandlaw5_LifoTells.j0 k l0 a1 l2 t197 true) else (hatstandlaw5_LifoTells.j0 k l0 a1 l2 t197 (decide ((l2.length : Int) > 300)))) else (hatstandlaw5_LifoTells.j0 k l0 a1 l2 t197 true))) = some r := h
  clear h
  replace H := Option.bind_eq_some_iff.mp H
  obtain ⟨t197, A40, H⟩ := H
  replace H : (if t197 = true then (if (l0.length : Int) > 300 then (hatstandlaw5_LifoTells.j0 k l0 a1 l2 t197 true) else (hatstandlaw5_LifoTells.j0 k l0 a1 l2 t197 (decide ((l2.length : Int) > 300)))) else (hatstandlaw5_LifoTells.j0 k l0 a1 l2 t197 true)) = some r := H
  have A4 := Aside0.mk A40
  clear A40
  have HC5 := Aside0.mk H
  clear H
  go_enter Try.func3, Try.ntmps3
  go_upto_region 2 with (first | ((with_reducible refine gate_callee (f := 10) rfl ?_); refine goesL_ (some 27) rfl rfl Try.func10 (by kernel_rfl) rfl #[] rfl (by (try simp only [List.map_toArray, List.map_cons, List.map_nil]); first | done | rfl | (simp only [List.length_drop, List.length_take]; rfl)) ?_; (with_reducible refine (hatstandlaw5_shown.calls k  t197 _ A4.out).mono ?_); rintro e w6 ⟨rfl, hb⟩; refine ⟨_, rfl, ?_⟩; have n0_ := Aside0.mk (below_step (by repeat (first | (with_reducible first | exact HB.out | apply below_alloc | apply pw_below_drewN | apply below_drew1) | exact HB.out)) hb); clear HB; have HB := n0_; clear n0_; (try clear hb); (try clear hb2); (try clear hk); (try clear hi)))
  (try simp only [Act.put, List.setIfInBounds_toArray, List.set_cons_zero, List.set_cons_succ])
  go_cut [39] (fun v39 wc => ∃ (kq : Nat) (x39_4 : Bool), v39 = .bool x39_4 ∧ Aside0 (hatstandlaw5_LifoTells.j0 kq l0 a1 l2 t197 x39_4 = some r) ∧ Aside0 (kq ≤ k) ∧ Aside0 (Below w.heap.size w wc))
  case first =>
    have H := HC5.out
    clear HC5
    by_cases c7 : t197 = true
    · subst c7
      have H1 : (if (l0.length : Int) > 300 then (hatstandlaw5_LifoTells.j0 k l0 a1 l2 true true) else (hatstandlaw5_LifoTells.j0 k l0 a1 l2 true (decide ((l2.length : Int) > 300)))) = some r := by rw [if_pos rfl] at H; exact H
      clear H
      have H := H1
      clear H1
      by_cases c8 : (l0.length : Int) > 300
      · rw [if_pos c8] at H
        have c8b0 : decide (300 < (l0.length : Int)) = true := decide_eq_true c8
        have c8b1 : decide (300 < l0.length) = true := decide_eq_true (by omega)
        clear c8
        (first | rw [c8b0] | (simp only [i64_w, i32_w, Go.IntKind.wrap_u32]; rw [c8b0]) | skip)
        have H' := Aside0.mk H
        clear H
        go_wp2
        go_meet
        case rel => exact ⟨_, (true), (by first | rfl | (simp; done) | (simp [*]; done)), H', ⟨by first | omega | exact Nat.le_refl _⟩, ⟨by repeat (first | (with_reducible first | exact HB.out | apply below_alloc | apply pw_below_drewN | apply below_drew1) | exact HB.out)⟩⟩
      · rw [if_neg c8] at H
        have c8b0 : decide (300 < (l0.length : Int)) = false := decide_eq_false c8
        have c8b1 : decide (300 < l0.length) = false := decide_eq_false (by omega)
        clear c8
        (first | rw [c8b0] | (simp only [i64_w, i32_w, Go.IntKind.wrap_u32]; rw [c8b0]) | skip)
        have H' := Aside0.mk H
        clear H
        go_wp2
        go_meet
        case rel => exact ⟨_, (decide ((l2.length : Int) > 300)), (by first | rfl | (simp; done) | (simp [*]; done)), H', ⟨by first | omega | exact Nat.le_refl _⟩, ⟨by repeat (first | (with_reducible first | exact HB.out | apply below_alloc | apply pw_below_drewN | apply below_drew1) | exact HB.out)⟩⟩
    · replace c7 := Bool.eq_false_iff.mpr c7
      subst c7
      have H1 : (hatstandlaw5_LifoTells.j0 k l0 a1 l2 false true) = some r := by rw [if_neg (show ¬ (false = true) by decide)] at H; exact H
      clear H
      have H := H1
      clear H1
      have H' := Aside0.mk H
      clear H
      go_wp2
      go_meet
      case rel => exact ⟨_, (true), (by first | rfl | (simp; done) | (simp [*]; done)), H', ⟨by first | omega | exact Nat.le_refl _⟩, ⟨by repeat (first | (with_reducible first | exact HB.out | apply below_alloc | apply pw_below_drewN | apply below_drew1) | exact HB.out)⟩⟩
  case rest =>
    clear HC5
    try clear c1
    try clear c2
    try clear p2
    try clear c3
    try clear c7
    try clear c8
    try clear c8b0
    try clear c8b1
    obtain ⟨kq, x39_4, rfl, HA, HJ4, HB⟩ := hcut
    cases kq with
    | zero => exact absurd HA.out (by simp [hatstandlaw5_LifoTells.j0])
    | succ kj4 =>
      have H := HA.out
      clear HA
      simp only [hatstandlaw5_LifoTells.j0] at H
      by_cases c9 : x39_4 = true
      · subst c9
        have H1 : (some t197) = some r := by rw [if_pos rfl] at H; exact H
        clear H
        have H := H1
        clear H1
        obtain rfl := Option.some.inj H
        go_wp2
        go_ret
        exact ⟨by first | rfl | (simp [errW_none, errW_some] <;> rfl) | (simp [*, errW_none, errW_some] <;> rfl), by repeat (first | (with_reducible first | exact HB.out | apply below_alloc | apply pw_below_drewN | apply below_drew1) | exact HB.out)⟩
      · replace c9 := Bool.eq_false_iff.mpr c9
        subst c9
        have H1 : (hatstandlaw5_LifoTells.l0 kj4 l0 a1 l2 0) = some r := by rw [if_neg (show ¬ (false = true) by decide)] at H; exact H
        clear H
        have H := H1
        clear H1
        have H' := Aside0.mk H
        clear H
        go_wp2
        go_loopg [8] kj4 (fun kq v8 w' => ∃ (x8_2 : Int), v8 = .int .i64 x8_2 ∧ Aside0 (hatstandlaw5_LifoTells.l0 kq l0 a1 l2 x8_2 = some r) ∧ Aside0 (kq ≤ kj4) ∧ Aside0 (Below w.heap.size w w'))
        case atStart => exact ⟨(0), (by first | rfl | (simp; done) | (simp [*]; done)), H', ⟨Nat.le_refl _⟩, ⟨by repeat (first | (with_reducible first | exact HB.out | apply below_alloc | apply pw_below_drewN | apply below_drew1) | exact HB.out)⟩⟩
        case round =>
          clear H'
          try clear c1
          try clear c2
          try clear p2
          try clear c3
          try clear c7
          try clear c8
          try clear c8b0
          try clear c8b1
          try clear c9
          try clear p2
          obtain ⟨x8_2, rfl, HA, HK2, HB⟩ := hrel
          cases gk with
          | zero => exact absurd HA.out (by simp [hatstandlaw5_LifoTells.l0])
          | succ k2 =>
            have H := HA.out
            clear HA
            simp only [hatstandlaw5_LifoTells.l0] at H
            by_cases c10 : x8_2 < (l2.length : Int)
            · rw [if_pos c10] at H
              have c10b0 : decide (x8_2 < (l2.length : Int)) = true := decide_eq_true c10
              clear c10
              by_cases c11 : 0 ≤ x8_2
              · rw [if_pos c11] at H
                have c11b0 : decide (0 ≤ x8_2) = true := decide_eq_true c11
                clear c11
                replace H := Option.bind_eq_some_iff.mp H
                obtain ⟨⟨t199, t200⟩, A120, H⟩ := H
                replace H : ((hatstandref5_Push.f l0 a1 ((rd_T30 l2 x8_2).f1)).bind fun bt204 => ((lifo_Do.f l0 a1 ((rd_T30 l2 x8_2).f0) ((rd_T30 l2 x8_2).f1) ((rd_T30 l2 x8_2).f2)).bind fun bt209 => ((hatstandlaw5_as.f k2 l2).bind fun t213 => (if x8_2 < (t213.length : Int) then ((hatstandref5_Do.f l0 a1 ((rd_T34 t213 x8_2).f0) ((rd_T34 t213 x8_2).f1) ((rd_T34 t213 x8_2).f2)).bind fun bt217 => ((hatstandref5_Same.f k2 t199 bt204.1).bind fun t221 => (if t221 = true then (if t200 = bt204.2 then ((hatstandref5_Same.f k2 bt209.1 bt217.1).bind fun t222 => (if t222 = true then (if (bt209.2 != bt217.2) = true then (some false) else (hatstandlaw5_LifoTells.l0 k2 l0 a1 l2 (wrap64 (x8_2 + 1)))) else (some false))) else (some false)) else (some false)))) else (none))))) = some r := H
                have A12 := Aside0.mk A120
                clear A120
                replace H := Option.bind_eq_some_iff.mp H
                obtain ⟨⟨t204, t205⟩, A130, H⟩ := H
                replace H : ((lifo_Do.f l0 a1 ((rd_T30 l2 x8_2).f0) ((rd_T30 l2 x8_2).f1) ((rd_T30 l2 x8_2).f2)).bind fun bt209 => ((hatstandlaw5_as.f k2 l2).bind fun t213 => (if x8_2 < (t213.length : Int) then ((hatstandref5_Do.f l0 a1 ((rd_T34 t213 x8_2).f0) ((rd_T34 t213 x8_2).f1) ((rd_T34 t213 x8_2).f2)).bind fun bt217 => ((hatstandref5_Same.f k2 t199 t204).bind fun t221 => (if t221 = true then (if t200 = t205 then ((hatstandref5_Same.f k2 bt209.1 bt217.1).bind fun t222 => (if t222 = true then (if (bt209.2 != bt217.2) = true then (some false) else (hatstandlaw5_LifoTells.l0 k2 l0 a1 l2 (wrap64 (x8_2 + 1)))) else (some false))) else (some false)) else (some false)))) else (none)))) = some r := H
                have A13 := Aside0.mk A130
                clear A130
                replace H := Option.bind_eq_some_iff.mp H
                obtain ⟨⟨t209, t212⟩, A140, H⟩ := H
                replace H : ((hatstandlaw5_as.f k2 l2).bind fun t213 => (if x8_2 < (t213.length : Int) then ((hatstandref5_Do.f l0 a1 ((rd_T34 t213 x8_2).f0) ((rd_T34 t213 x8_2).f1) ((rd_T34 t213 x8_2).f2)).bind fun bt217 => ((hatstandref5_Same.f k2 t199 t204).bind fun t221 => (if t221 = true then (if t200 = t205 then ((hatstandref5_Same.f k2 t209 bt217.1).bind fun t222 => (if t222 = true then (if (t212 != bt217.2) = true then (some false) else (hatstandlaw5_LifoTells.l0 k2 l0 a1 l2 (wrap64 (x8_2 + 1)))) else (some false))) else (some false)) else (some false)))) else (none))) = some r := H
                have A14 := Aside0.mk A140
                clear A140
                replace H := Option.bind_eq_some_iff.mp H
                obtain ⟨t213, A150, H⟩ := H
                replace H : (if x8_2 < (t213.length : Int) then ((hatstandref5_Do.f l0 a1 ((rd_T34 t213 x8_2).f0) ((rd_T34 t213 x8_2).f1) ((rd_T34 t213 x8_2).f2)).bind fun bt217 => ((hatstandref5_Same.f k2 t199 t204).bind fun t221 => (if t221 = true then (if t200 = t205 then ((hatstandref5_Same.f k2 t209 bt217.1).bind fun t222 => (if t222 = true then (if (t212 != bt217.2) = true then (some false) else (hatstandlaw5_LifoTells.l0 k2 l0 a1 l2 (wrap64 (x8_2 + 1)))) else (some false))) else (some false)) else (some false)))) else (none)) = some r := H
                have A15 := Aside0.mk A150
                clear A150
                by_cases c16 : x8_2 < (t213.length : Int)
                · rw [if_pos c16] at H
                  have c16b0 : decide (x8_2 < (t213.length : Int)) = true := decide_eq_true c16
                  clear c16
                  replace H := Option.bind_eq_some_iff.mp H
                  obtain ⟨⟨t217, t220⟩, A170, H⟩ := H
                  replace H : ((hatstandref5_Same.f k2 t199 t204).bind fun t221 => (if t221 = true then (if t200 = t205 then ((hatstandref5_Same.f k2 t209 t217).bind fun t222 => (if t222 = true then (if (t212 != t220) = true then (some false) else (hatstandlaw5_LifoTells.l0 k2 l0 a1 l2 (wrap64 (x8_2 + 1)))) else (some false))) else (some false)) else (some false))) = some r := H
                  have A17 := Aside0.mk A170
                  clear A170
                  replace H := Option.bind_eq_some_iff.mp H
                  obtain ⟨t221, A180, H⟩ := H
                  replace H : (if t221 = true then (if t200 = t205 then ((hatstandref5_Same.f k2 t209 t217).bind fun t222 => (if t222 = true then (if (t212 != t220) = true then (some false) else (hatstandlaw5_LifoTells.l0 k2 l0 a1 l2 (wrap64 (x8_2 + 1)))) else (some false))) else (some false)) else (some false)) = some r := H
                  have A18 := Aside0.mk A180
                  clear A180
                  by_cases c19 : t221 = true
                  · subst c19
                    have H1 : (if t200 = t205 then ((hatstandref5_Same.f k2 t209 t217).bind fun t222 => (if t222 = true then (if (t212 != t220) = true then (some false) else (hatstandlaw5_LifoTells.l0 k2 l0 a1 l2 (wrap64 (x8_2 + 1)))) else (some false))) else (some false)) = some r := by rw [if_pos rfl] at H; exact H
                    clear H
                    have H := H1
                    clear H1
                    by_cases c20 : t200 = t205
                    · rw [if_pos c20] at H
                      have c20b0 : (t200 == t205) = true := beq_iff_eq.mpr c20
                      have c20b1 : (t200 != t205) = false := bne_eq_false_iff_eq.mpr c20
                      clear c20
                      replace H := Option.bind_eq_some_iff.mp H
                      obtain ⟨t222, A210, H⟩ := H
                      replace H : (if t222 = true then (if (t212 != t220) = true then (some false) else (hatstandlaw5_LifoTells.l0 k2 l0 a1 l2 (wrap64 (x8_2 + 1)))) else (some false)) = some r := H
                      have A21 := Aside0.mk A210
                      clear A210
                      by_cases c22 : t222 = true
                      · subst c22
                        have H1 : (if (t212 != t220) = true then (some false) else (hatstandlaw5_LifoTells.l0 k2 l0 a1 l2 (wrap64 (x8_2 + 1)))) = some r := by rw [if_pos rfl] at H; exact H
                        clear H
                        have H := H1
                        clear H1
                        by_cases c23 : (t212 != t220) = true
                        · rw [if_pos c23] at H
                          have c23b0 : (t212 != t220) = true := c23
                          (try (have c23b1 : decide (t212 = t220) = false := by simpa using c23))
                          (try (have c23b2 : (t212 == t220) = false := by simpa using c23))
                          (try (have c23b3 : ¬ (t212 = t220) := by simpa using c23))
                          clear c23
                          exact absurd ((Option.some.inj H).trans HT0.out) (by decide)
                        · rw [if_neg c23] at H
                          have c23b0 : (t212 != t220) = false := by simpa using c23
                          (try (have c23b1 : decide (t212 = t220) = true := by simpa using c23))
                          (try (have c23b2 : (t212 == t220) = true := by simpa using c23))
                          clear c23
                          have H' := Aside0.mk H
                          clear H
                          have p198 : 0 ≤ (x8_2 : Int) := of_decide_eq_true (by first | (with_reducible assumption) | assumption)
                          have q198 : x8_2 < (l2.length : Int) := of_decide_eq_true (by first | (with_reducible assumption) | assumption)
                          obtain ⟨ad198, e198, hx198_0, hx198_1, hx198_2⟩ := at_T30 HR2.out x8_2 p198 q198
                          cases e198
                          replace hx198_0 := (HB.out.cell (World.block_lt_of_cell? w _ hx198_0)).trans hx198_0
                          replace hx198_1 := (HB.out.cell (World.block_lt_of_cell? w _ hx198_1)).trans hx198_1
                          replace hx198_2 := (HB.out.cell (World.block_lt_of_cell? w _ hx198_2)).trans hx198_2
                          replace p198 := eq_true p198
                          replace q198 := eq_true q198
                          go_wp2_with (first | ((with_reducible refine gate_callee (f := 11) rfl ?_); refine goesL_ (some 55) rfl rfl Try.func11 (by kernel_rfl) rfl #[.slice A0 l0.length c0, .int .i64 a1, .int .u64 ((rd_T30 l2 x8_2).f1)] rfl (by (try simp only [List.map_toArray, List.map_cons, List.map_nil]); first | done | rfl | (simp only [List.length_drop, List.length_take]; rfl)) ?_; (with_reducible refine (lifo_Push.calls _ _ l0 a1 ((rd_T30 l2 x8_2).f1) t199 t200 _ ?side1 ?side2 A12.out).mono ?_); (case side1 => repeat (first | exact (Kd.C_below HR0.out HB.out) | (with_reducible refine Kd.C_alloc ?_ _) | (with_reducible refine Kd.C_drewN ?_ _) | (with_reducible refine Kd.C_drew ?_))); (case side2 => exact HC0.out); rintro e w24 ⟨v201, rfl, ho0, hb⟩; refine ⟨_, rfl, ?_⟩; have n0_ := Aside0.mk (Kd.R_lower ho0 (below_size (by repeat (first | (with_reducible first | exact HB.out | apply below_alloc | apply pw_below_drewN | apply below_drew1) | exact HB.out)))); have n1_ := Aside0.mk (below_step (by repeat (first | (with_reducible first | exact HB.out | apply below_alloc | apply pw_below_drewN | apply below_drew1) | exact HB.out)) hb); clear HB; have HO202 := n0_; have HB := n1_; clear n0_ n1_; (try clear hb); (try clear hb2); (try clear hk); (try clear hi); (try clear ho0); have p203 : 0 ≤ (x8_2 : Int) := of_decide_eq_true (by first | (with_reducible assumption) | assumption); have q203 : x8_2 < (l2.length : Int) := of_decide_eq_true (by first | (with_reducible assumption) | assumption); obtain ⟨ad203, e203, hx203_0, hx203_1, hx203_2⟩ := at_T30 HR2.out x8_2 p203 q203; obtain rfl : ad198 = ad203 := (by injection e203); replace hx203_0 := (HB.out.cell (World.block_lt_of_cell? w _ hx203_0)).trans hx203_0; replace hx203_1 := (HB.out.cell (World.block_lt_of_cell? w _ hx203_1)).trans hx203_1; replace hx203_2 := (HB.out.cell (World.block_lt_of_cell? w _ hx203_2)).trans hx203_2; replace p203 := eq_true p203; replace q203 := eq_true q203) | ((with_reducible refine gate_callee (f := 12) rfl ?_); refine goesL_ (some 66) rfl rfl Try.func12 (by kernel_rfl) rfl #[.slice A0 l0.length c0, .int .i64 a1, .int .u64 ((rd_T30 l2 x8_2).f1)] rfl (by (try simp only [List.map_toArray, List.map_cons, List.map_nil]); first | done | rfl | (simp only [List.length_drop, List.length_take]; rfl)) ?_; (with_reducible refine (hatstandref5_Push.calls _ _ l0 a1 ((rd_T30 l2 x8_2).f1) t204 t205 _ ?side1 ?side2 A13.out).mono ?_); (case side1 => repeat (first | exact (Kd.C_below HR0.out HB.out) | (with_reducible refine Kd.C_alloc ?_ _) | (with_reducible refine Kd.C_drewN ?_ _) | (with_reducible refine Kd.C_drew ?_))); (case side2 => exact HC0.out); rintro e w25 ⟨v206, rfl, ho0, hb⟩; refine ⟨_, rfl, ?_⟩; have n0_ := Aside0.mk (Kd.R_elder' (by (with_reducible repeat (first | apply Kd.R_alloc | apply Kd.R_drewN | apply Kd.R_drew)); exact HO202.out) (Kd.R_base ho0) hb); have n1_ := Aside0.mk (Kd.R_lower (Kd.R_new' ho0 (Kd.R_lt (by (with_reducible repeat (first | apply Kd.R_alloc | apply Kd.R_drewN | apply Kd.R_drew)); exact HO202.out))) (below_size (by repeat (first | (with_reducible first | exact HB.out | apply below_alloc | apply pw_below_drewN | apply below_drew1) | exact HB.out)))); have n2_ := Aside0.mk (below_step (by repeat (first | (with_reducible first | exact HB.out | apply below_alloc | apply pw_below_drewN | apply below_drew1) | exact HB.out)) hb); clear HO202; clear HB; have HO202 := n0_; have HO207 := n1_; have HB := n2_; clear n0_ n1_ n2_; (try clear hb); (try clear hb2); (try clear hk); (try clear hi); (try clear ho0); have p208 : 0 ≤ (x8_2 : Int) := of_decide_eq_true (by first | (with_reducible assumption) | assumption); have q208 : x8_2 < (l2.length : Int) := of_decide_eq_true (by first | (with_reducible assumption) | assumption); obtain ⟨ad208, e208, hx208_0, hx208_1, hx208_2⟩ := at_T30 HR2.out x8_2 p208 q208; obtain rfl : ad198 = ad208 := (by injection e208); replace hx208_0 := (HB.out.cell (World.block_lt_of_cell? w _ hx208_0)).trans hx208_0; replace hx208_1 := (HB.out.cell (World.block_lt_of_cell? w _ hx208_1)).trans hx208_1; replace hx208_2 := (HB.out.cell (World.block_lt_of_cell? w _ hx208_2)).trans hx208_2; replace p208 := eq_true p208; replace q208 := eq_true q208) | ((with_reducible refine gate_callee (f := 13) rfl ?_); refine goesL_ (some 76) rfl rfl Try.func13 (by kernel_rfl) rfl #[.slice A0 l0.length c0, .int .i64 a1, .agg #[.bool ((rd_T30 l2 x8_2).f0), .int .u64 ((rd_T30 l2 x8_2).f1), .int .i64 ((rd_T30 l2 x8_2).f2)]] rfl (by (try simp only [List.map_toArray, List.map_cons, List.map_nil]); first | done | rfl | (simp only [List.length_drop, List.length_take]; rfl)) ?_; (with_reducible refine (lifo_Do.calls _ _ l0 a1 ((rd_T30 l2 x8_2).f0) ((rd_T30 l2 x8_2).f1) ((rd_T30 l2 x8_2).f2) t209 t212 _ ?side1 ?side2 A14.out).mono ?_); (case side1 => repeat (first | exact (Kd.C_below HR0.out HB.out) | (with_reducible refine Kd.C_alloc ?_ _) | (with_reducible refine Kd.C_drewN ?_ _) | (with_reducible refine Kd.C_drew ?_))); (case side2 => exact HC0.out); rintro e w26 ⟨v210, rfl, ho0, hb⟩; refine ⟨_, rfl, ?_⟩; have n0_ := Aside0.mk (Kd.R_elder' (by (with_reducible repeat (first | apply Kd.R_alloc | apply Kd.R_drewN | apply Kd.R_drew)); exact HO202.out) (Kd.R_base ho0) hb); have n1_ := Aside0.mk (Kd.R_elder' (by (with_reducible repeat (first | apply Kd.R_alloc | apply Kd.R_drewN | apply Kd.R_drew)); exact HO207.out) (Kd.R_base ho0) hb); have n2_ := Aside0.mk (Kd.R_lower (Kd.R_new' (Kd.R_new' ho0 (Kd.R_lt (by (with_reducible repeat (first | apply Kd.R_alloc | apply Kd.R_drewN | apply Kd.R_drew)); exact HO202.out))) (Kd.R_lt (by (with_reducible repeat (first | apply Kd.R_alloc | apply Kd.R_drewN | apply Kd.R_drew)); exact HO207.out))) (below_size (by repeat (first | (with_reducible first | exact HB.out | apply below_alloc | apply pw_below_drewN | apply below_drew1) | exact HB.out)))); have n3_ := Aside0.mk (below_step (by repeat (first | (with_reducible first | exact HB.out | apply below_alloc | apply pw_below_drewN | apply below_drew1) | exact HB.out)) hb); clear HO202; clear HO207; clear HB; have HO202 := n0_; have HO207 := n1_; have HO211 := n2_; have HB := n3_; clear n0_ n1_ n2_ n3_; (try clear hb); (try clear hb2); (try clear hk); (try clear hi); (try clear ho0)) | ((with_reducible refine gate_callee (f := 15) rfl ?_); refine goesL_ (some 83) rfl rfl Try.func15 (by kernel_rfl) rfl #[.slice (some ad198) l2.length c2] rfl (by (try simp only [List.map_toArray, List.map_cons, List.map_nil]); first | done | rfl | (simp only [List.length_drop, List.length_take]; rfl)) ?_; (with_reducible refine (hatstandlaw5_as.calls k2 _ _ l2 t213 _ ?side1 ?side2 A15.out).mono ?_); (case side1 => repeat (first | exact (Kd.C_below HR2.out HB.out) | (with_reducible refine Kd.C_alloc ?_ _) | (with_reducible refine Kd.C_drewN ?_ _) | (with_reducible refine Kd.C_drew ?_))); (case side2 => exact HC2.out); rintro e w27 ⟨v214, rfl, ho0, hb⟩; refine ⟨_, rfl, ?_⟩; have n0_ := Aside0.mk (Kd.R_below (by (with_reducible repeat (first | apply Kd.R_alloc | apply Kd.R_drewN | apply Kd.R_drew)); exact HO202.out) hb); have n1_ := Aside0.mk (Kd.R_below (by (with_reducible repeat (first | apply Kd.R_alloc | apply Kd.R_drewN | apply Kd.R_drew)); exact HO207.out) hb); have n2_ := Aside0.mk (Kd.R_below (by (with_reducible repeat (first | apply Kd.R_alloc | apply Kd.R_drewN | apply Kd.R_drew)); exact HO211.out) hb); have n3_ := Aside0.mk (Kd.R_lower ho0 (below_size (by repeat (first | (with_reducible first | exact HB.out | apply below_alloc | apply pw_below_drewN | apply below_drew1) | exact HB.out)))); have n4_ := Aside0.mk (below_step (by repeat (first | (with_reducible first | exact HB.out | apply below_alloc | apply pw_below_drewN | apply below_drew1) | exact HB.out)) hb); clear HO202; clear HO207; clear HO211; clear HB; have HO202 := n0_; have HO207 := n1_; have HO211 := n2_; have HO215 := n3_; have HB := n4_; clear n0_ n1_ n2_ n3_ n4_; (try clear hb); (try clear hb2); (try clear hk); (try clear hi); (try clear ho0); obtain ⟨Ao28, co28, eo28⟩ := Kd.R_slice HO215.out; subst eo28; have p216 : 0 ≤ (x8_2 : Int) := of_decide_eq_true (by first | (with_reducible assumption) | assumption); have q216 : x8_2 < (t213.length : Int) := of_decide_eq_true (by first | (with_reducible assumption) | assumption); obtain ⟨ad216, e216, hx216_0, hx216_1, hx216_2⟩ := at_T34 (Kd.R_reads' HO215.out).2.2 x8_2 p216 q216; cases e216; replace p216 := eq_true p216; replace q216 := eq_true q216) | ((with_reducible refine gate_callee (f := 14) rfl ?_); refine goesL_ (some 87) rfl rfl Try.func14 (by kernel_rfl) rfl #[.slice A0 l0.length c0, .int .i64 a1, .agg #[.bool ((rd_T34 t213 x8_2).f0), .int .u64 ((rd_T34 t213 x8_2).f1), .int .i64 ((rd_T34 t213 x8_2).f2)]] rfl (by (try simp only [List.map_toArray, List.map_cons, List.map_nil]); first | done | rfl | (simp only [List.length_drop, List.length_take]; rfl)) ?_; (with_reducible refine (hatstandref5_Do.calls _ _ l0 a1 ((rd_T34 t213 x8_2).f0) ((rd_T34 t213 x8_2).f1) ((rd_T34 t213 x8_2).f2) t217 t220 _ ?side1 ?side2 A17.out).mono ?_); (case side1 => repeat (first | exact (Kd.C_below HR0.out HB.out) | (with_reducible refine Kd.C_alloc ?_ _) | (with_reducible refine Kd.C_drewN ?_ _) | (with_reducible refine Kd.C_drew ?_))); (case side2 => exact HC0.out); rintro e w29 ⟨v218, rfl, ho0, hb⟩; refine ⟨_, rfl, ?_⟩; have n0_ := Aside0.mk (Kd.R_elder' (by (with_reducible repeat (first | apply Kd.R_alloc | apply Kd.R_drewN | apply Kd.R_drew)); exact HO202.out) (Kd.R_base ho0) hb); have n1_ := Aside0.mk (Kd.R_elder' (by (with_reducible repeat (first | apply Kd.R_alloc | apply Kd.R_drewN | apply Kd.R_drew)); exact HO207.out) (Kd.R_base ho0) hb); have n2_ := Aside0.mk (Kd.R_elder' (by (with_reducible repeat (first | apply Kd.R_alloc | apply Kd.R_drewN | apply Kd.R_drew)); exact HO211.out) (Kd.R_base ho0) hb); have n3_ := Aside0.mk (Kd.R_below (by (with_reducible repeat (first | apply Kd.R_alloc | apply Kd.R_drewN | apply Kd.R_drew)); exact HO215.out) hb); have n4_ := Aside0.mk (Kd.R_lower (Kd.R_new' (Kd.R_new' (Kd.R_new' ho0 (Kd.R_lt (by (with_reducible repeat (first | apply Kd.R_alloc | apply Kd.R_drewN | apply Kd.R_drew)); exact HO202.out))) (Kd.R_lt (by (with_reducible repeat (first | apply Kd.R_alloc | apply Kd.R_drewN | apply Kd.R_drew)); exact HO207.out))) (Kd.R_lt (by (with_reducible repeat (first | apply Kd.R_alloc | apply Kd.R_drewN | apply Kd.R_drew)); exact HO211.out))) (below_size (by repeat (first | (with_reducible first | exact HB.out | apply below_alloc | apply pw_below_drewN | apply below_drew1) | exact HB.out)))); have n5_ := Aside0.mk (below_step (by repeat (first | (with_reducible first | exact HB.out | apply below_alloc | apply pw_below_drewN | apply below_drew1) | exact HB.out)) hb); clear HO202; clear HO207; clear HO211; clear HO215; clear HB; have HO202 := n0_; have HO207 := n1_; have HO211 := n2_; have HO215 := n3_; have HO219 := n4_; have HB := n5_; clear n0_ n1_ n2_ n3_ n4_ n5_; (try clear hb); (try clear hb2); (try clear hk); (try clear hi); (try clear ho0); obtain ⟨Ao30, co30, eo30⟩ := Kd.R_slice HO202.out; subst eo30; obtain ⟨Ao31, co31, eo31⟩ := Kd.R_slice HO207.out; subst eo31) | ((with_reducible refine gate_callee (f := 16) rfl ?_); refine goesL_ (some 92) rfl rfl Try.func16 (by kernel_rfl) rfl #[.slice Ao30 t199.length co30, .slice Ao31 t204.length co31] rfl (by (try simp only [List.map_toArray, List.map_cons, List.map_nil]); first | done | rfl | (simp only [List.length_drop, List.length_take]; rfl)) ?_; (with_reducible refine (hatstandref5_Same.calls k2 _ _ t199 _ _ t204 true _ ?side1 ?side2 ?side3 ?side4 A18.out).mono ?_); (case side1 => repeat (first | exact (Kd.R_reads' HO202.out).2.2 | (with_reducible refine Kd.C_alloc ?_ _) | (with_reducible refine Kd.C_drewN ?_ _) | (with_reducible refine Kd.C_drew ?_))); (case side2 => exact (Kd.R_reads' HO202.out).2.1); (case side3 => repeat (first | exact (Kd.R_reads' HO207.out).2.2 | (with_reducible refine Kd.C_alloc ?_ _) | (with_reducible refine Kd.C_drewN ?_ _) | (with_reducible refine Kd.C_drew ?_))); (case side4 => exact (Kd.R_reads' HO207.out).2.1); rintro e w' ⟨rfl, ⟨nd, rfl⟩⟩; refine ⟨_, rfl, ?_⟩; obtain ⟨Ao32, co32, eo32⟩ := Kd.R_slice HO211.out; subst eo32; obtain ⟨Ao33, co33, eo33⟩ := Kd.R_slice HO219.out; subst eo33) | (go_at_call 16; (with_reducible refine (hatstandref5_Same.calls k2 _ _ t209 _ _ t217 true _ ?side1 ?side2 ?side3 ?side4 A21.out).mono ?_); (case side1 => repeat (first | exact (Kd.R_reads' HO211.out).2.2 | (with_reducible refine Kd.C_alloc ?_ _) | (with_reducible refine Kd.C_drewN ?_ _) | (with_reducible refine Kd.C_drew ?_))); (case side2 => exact (Kd.R_reads' HO211.out).2.1); (case side3 => repeat (first | exact (Kd.R_reads' HO219.out).2.2 | (with_reducible refine Kd.C_alloc ?_ _) | (with_reducible refine Kd.C_drewN ?_ _) | (with_reducible refine Kd.C_drew ?_))); (case side4 => exact (Kd.R_reads' HO219.out).2.1); rintro e w' ⟨rfl, ⟨nd, rfl⟩⟩))
                          go_roundg k2
                          case measure => have := HJ4.out; have := HK2.out; omega
                          case rel => exact ⟨(wrap64 (x8_2 + 1)), (by first | rfl | (simp; done) | (simp [*]; done)), H', ⟨by have := HJ4.out; have := HK2.out; omega⟩, ⟨by repeat (first | (with_reducible first | exact HB.out | apply below_alloc | apply pw_below_drewN | apply below_drew1) | exact HB.out)⟩⟩
                      · replace c22 := Bool.eq_false_iff.mpr c22
                        subst c22
                        have H1 : (some false) = some r := by rw [if_neg (show ¬ (false = true) by decide)] at H; exact H
                        clear H
                        have H := H1
                        clear H1
                        exact absurd ((Option.some.inj H).trans HT0.out) (by decide)
                    · rw [if_neg c20] at H
                      have c20b0 : (t200 == t205) = false := beq_eq_false_iff_ne.mpr c20
                      have c20b1 : (t200 != t205) = true := bne_iff_ne.mpr c20
                      exact absurd ((Option.some.inj H).trans HT0.out) (by decide)
                  · replace c19 := Bool.eq_false_iff.mpr c19
                    subst c19
                    have H1 : (some false) = some r := by rw [if_neg (show ¬ (false = true) by decide)] at H; exact H
                    clear H
                    have H := H1
                    clear H1
                    exact absurd ((Option.some.inj H).trans HT0.out) (by decide)
                · rw [if_neg c16] at H
                  exact absurd H (by simp)
              · rw [if_neg c11] at H
                exact absurd H (by simp)
            · rw [if_neg c10] at H
              have c10b0 : decide (x8_2 < (l2.length : Int)) = false := decide_eq_false c10
              clear c10
              replace H := Option.bind_eq_some_iff.mp H
              obtain ⟨⟨t223, t224, t225⟩, A340, H⟩ := H
              replace H : ((hatstandref5_Pop.f l0).bind fun bt228 => ((lifo_Run.f k2 l0 a1 l2).bind fun bt233 => ((hatstandlaw5_as.f k2 l2).bind fun t237 => ((hatstandref5_Run.f k2 l0 a1 t237).bind fun bt240 => ((hatstandref5_Same.f k2 t223 bt228.1).bind fun t244 => (if t244 = true then (if t224 = bt228.2.1 then (if t225 = bt228.2.2 then ((hatstandref5_Same.f k2 bt233.1 bt240.1).bind fun t245 => (if t245 = true then (some (bt233.2 == bt240.2)) else (some false))) else (some false)) else (some false)) else (some false))))))) = some r := H
              have A34 := Aside0.mk A340
              clear A340
              replace H := Option.bind_eq_some_iff.mp H
              obtain ⟨⟨t228, t229, t230⟩, A350, H⟩ := H
              replace H : ((lifo_Run.f k2 l0 a1 l2).bind fun bt233 => ((hatstandlaw5_as.f k2 l2).bind fun t237 => ((hatstandref5_Run.f k2 l0 a1 t237).bind fun bt240 => ((hatstandref5_Same.f k2 t223 t228).bind fun t244 => (if t244 = true then (if t224 = t229 then (if t225 = t230 then ((hatstandref5_Same.f k2 bt233.1 bt240.1).bind fun t245 => (if t245 = true then (some (bt233.2 == bt240.2)) else (some false))) else (some false)) else (some false)) else (some false)))))) = some r := H
              have A35 := Aside0.mk A350
              clear A350
              replace H := Option.bind_eq_some_iff.mp H
              obtain ⟨⟨t233, t234⟩, A360, H⟩ := H
              replace H : ((hatstandlaw5_as.f k2 l2).bind fun t237 => ((hatstandref5_Run.f k2 l0 a1 t237).bind fun bt240 => ((hatstandref5_Same.f k2 t223 t228).bind fun t244 => (if t244 = true then (if t224 = t229 then (if t225 = t230 then ((hatstandref5_Same.f k2 t233 bt240.1).bind fun t245 => (if t245 = true then (some (t234 == bt240.2)) else (some false))) else (some false)) else (some false)) else (some false))))) = some r := H
              have A36 := Aside0.mk A360
              clear A360
              replace H := Option.bind_eq_some_iff.mp H
              obtain ⟨t237, A370, H⟩ := H
              replace H : ((hatstandref5_Run.f k2 l0 a1 t237).bind fun bt240 => ((hatstandref5_Same.f k2 t223 t228).bind fun t244 => (if t244 = true then (if t224 = t229 then (if t225 = t230 then ((hatstandref5_Same.f k2 t233 bt240.1).bind fun t245 => (if t245 = true then (some (t234 == bt240.2)) else (some false))) else (some false)) else (some false)) else (some false)))) = some r := H
              have A37 := Aside0.mk A370
              clear A370
              replace H := Option.bind_eq_some_iff.mp H
              obtain ⟨⟨t240, t241⟩, A380, H⟩ := H
              replace H : ((hatstandref5_Same.f k2 t223 t228).bind fun t244 => (if t244 = true then (if t224 = t229 then (if t225 = t230 then ((hatstandref5_Same.f k2 t233 t240).bind fun t245 => (if t245 = true then (some (t234 == t241)) else (some false))) else (some false)) else (some false)) else (some false))) = some r := H
              have A38 := Aside0.mk A380
              clear A380
              replace H := Option.bind_eq_some_iff.mp H
              obtain ⟨t244, A390, H⟩ := H
              replace H : (if t244 = true then (if t224 = t229 then (if t225 = t230 then ((hatstandref5_Same.f k2 t233 t240).bind fun t245 => (if t245 = true then (some (t234 == t241)) else (some false))) else (some false)) else (some false)) else (some false)) = some r := H
              have A39 := Aside0.mk A390
              clear A390
              by_cases c40 : t244 = true
              · subst c40
                have H1 : (if t224 = t229 then (if t225 = t230 then ((hatstandref5_Same.f k2 t233 t240).bind fun t245 => (if t245 = true then (some (t234 == t241)) else (some false))) else (some false)) else (some false)) = some r := by rw [if_pos rfl] at H; exact H
                clear H
                have H := H1
                clear H1
                by_cases c41 : t224 = t229
                · rw [if_pos c41] at H
                  have c41b0 : (t224 == t229) = true := beq_iff_eq.mpr c41
                  have c41b1 : (t224 != t229) = false := bne_eq_false_iff_eq.mpr c41
                  clear c41
                  by_cases c42 : t225 = t230
                  · rw [if_pos c42] at H
                    have c42b0 : (t225 == t230) = true := beq_iff_eq.mpr c42
                    have c42b1 : (t225 != t230) = false := bne_eq_false_iff_eq.mpr c42
                    clear c42
                    replace H := Option.bind_eq_some_iff.mp H
                    obtain ⟨t245, A430, H⟩ := H
                    replace H : (if t245 = true then (some (t234 == t241)) else (some false)) = some r := H
                    have A43 := Aside0.mk A430
                    clear A430
                    by_cases c44 : t245 = true
                    · subst c44
                      have H1 : (some (t234 == t241)) = some r := by rw [if_pos rfl] at H; exact H
                      clear H
                      have H := H1
                      clear H1
                      obtain rfl := Option.some.inj H
                      go_wp2_with (first | ((with_reducible refine gate_callee (f := 17) rfl ?_); refine goesL_ (some 112) rfl rfl Try.func17 (by kernel_rfl) rfl #[.slice A0 l0.length c0] rfl (by (try simp only [List.map_toArray, List.map_cons, List.map_nil]); first | done | rfl | (simp only [List.length_drop, List.length_take]; rfl)) ?_; (with_reducible refine (lifo_Pop.calls _ _ l0 t223 t224 t225 _ ?side1 ?side2 A34.out).mono ?_); (case side1 => repeat (first | exact (Kd.C_below HR0.out HB.out) | (with_reducible refine Kd.C_alloc ?_ _) | (with_reducible refine Kd.C_drewN ?_ _) | (with_reducible refine Kd.C_drew ?_))); (case side2 => exact HC0.out); rintro e w45 ⟨v226, rfl, ho0, hb⟩; refine ⟨_, rfl, ?_⟩; have n0_ := Aside0.mk (Kd.R_lower ho0 (below_size (by repeat (first | (with_reducible first | exact HB.out | apply below_alloc | apply pw_below_drewN | apply below_drew1) | exact HB.out)))); have n1_ := Aside0.mk (below_step (by repeat (first | (with_reducible first | exact HB.out | apply below_alloc | apply pw_below_drewN | apply below_drew1) | exact HB.out)) hb); clear HB; have HO227 := n0_; have HB := n1_; clear n0_ n1_; (try clear hb); (try clear hb2); (try clear hk); (try clear hi); (try clear ho0)) | ((with_reducible refine gate_callee (f := 18) rfl ?_); refine goesL_ (some 118) rfl rfl Try.func18 (by kernel_rfl) rfl #[.slice A0 l0.length c0] rfl (by (try simp only [List.map_toArray, List.map_cons, List.map_nil]); first | done | rfl | (simp only [List.length_drop, List.length_take]; rfl)) ?_; (with_reducible refine (hatstandref5_Pop.calls _ _ l0 t228 t229 t230 _ ?side1 ?side2 A35.out).mono ?_); (case side1 => repeat (first | exact (Kd.C_below HR0.out HB.out) | (with_reducible refine Kd.C_alloc ?_ _) | (with_reducible refine Kd.C_drewN ?_ _) | (with_reducible refine Kd.C_drew ?_))); (case side2 => exact HC0.out); rintro e w46 ⟨v231, rfl, ho0, hb⟩; refine ⟨_, rfl, ?_⟩; have n0_ := Aside0.mk (Kd.R_elder' (by (with_reducible repeat (first | apply Kd.R_alloc | apply Kd.R_drewN | apply Kd.R_drew)); exact HO227.out) (Kd.R_base ho0) hb); have n1_ := Aside0.mk (Kd.R_lower (Kd.R_new' ho0 (Kd.R_lt (by (with_reducible repeat (first | apply Kd.R_alloc | apply Kd.R_drewN | apply Kd.R_drew)); exact HO227.out))) (below_size (by repeat (first | (with_reducible first | exact HB.out | apply below_alloc | apply pw_below_drewN | apply below_drew1) | exact HB.out)))); have n2_ := Aside0.mk (below_step (by repeat (first | (with_reducible first | exact HB.out | apply below_alloc | apply pw_below_drewN | apply below_drew1) | exact HB.out)) hb); clear HO227; clear HB; have HO227 := n0_; have HO232 := n1_; have HB := n2_; clear n0_ n1_ n2_; (try clear hb); (try clear hb2); (try clear hk); (try clear hi); (try clear ho0)) | ((with_reducible refine gate_callee (f := 19) rfl ?_); refine goesL_ (some 126) rfl rfl Try.func19 (by kernel_rfl) rfl #[.slice A0 l0.length c0, .int .i64 a1, .slice A2 l2.length c2] rfl (by (try simp only [List.map_toArray, List.map_cons, List.map_nil]); first | done | rfl | (simp only [List.length_drop, List.length_take]; rfl)) ?_; (with_reducible refine (lifo_Run.calls k2 _ _ l0 a1 _ _ l2 t233 t234 _ ?side1 ?side2 ?side3 ?side4 A36.out).mono ?_); (case side1 => repeat (first | exact (Kd.C_below HR0.out HB.out) | (with_reducible refine Kd.C_alloc ?_ _) | (with_reducible refine Kd.C_drewN ?_ _) | (with_reducible refine Kd.C_drew ?_))); (case side2 => exact HC0.out); (case side3 => repeat (first | exact (Kd.C_below HR2.out HB.out) | (with_reducible refine Kd.C_alloc ?_ _) | (with_reducible refine Kd.C_drewN ?_ _) | (with_reducible refine Kd.C_drew ?_))); (case side4 => exact HC2.out); rintro e w47 ⟨v235, rfl, ho0, hb⟩; refine ⟨_, rfl, ?_⟩; have n0_ := Aside0.mk (Kd.R_elder' (by (with_reducible repeat (first | apply Kd.R_alloc | apply Kd.R_drewN | apply Kd.R_drew)); exact HO227.out) (Kd.R_base ho0) hb); have n1_ := Aside0.mk (Kd.R_elder' (by (with_reducible repeat (first | apply Kd.R_alloc | apply Kd.R_drewN | apply Kd.R_drew)); exact HO232.out) (Kd.R_base ho0) hb); have n2_ := Aside0.mk (Kd.R_lower (Kd.R_new' (Kd.R_new' ho0 (Kd.R_lt (by (with_reducible repeat (first | apply Kd.R_alloc | apply Kd.R_drewN | apply Kd.R_drew)); exact HO227.out))) (Kd.R_lt (by (with_reducible repeat (first | apply Kd.R_alloc | apply Kd.R_drewN | apply Kd.R_drew)); exact HO232.out))) (below_size (by repeat (first | (with_reducible first | exact HB.out | apply below_alloc | apply pw_below_drewN | apply below_drew1) | exact HB.out)))); have n3_ := Aside0.mk (below_step (by repeat (first | (with_reducible first | exact HB.out | apply below_alloc | apply pw_below_drewN | apply below_drew1) | exact HB.out)) hb); clear HO227; clear HO232; clear HB; have HO227 := n0_; have HO232 := n1_; have HO236 := n2_; have HB := n3_; clear n0_ n1_ n2_ n3_; (try clear hb); (try clear hb2); (try clear hk); (try clear hi); (try clear ho0)) | ((with_reducible refine gate_callee (f := 15) rfl ?_); refine goesL_ (some 133) rfl rfl Try.func15 (by kernel_rfl) rfl #[.slice A2 l2.length c2] rfl (by (try simp only [List.map_toArray, List.map_cons, List.map_nil]); first | done | rfl | (simp only [List.length_drop, List.length_take]; rfl)) ?_; (with_reducible refine (hatstandlaw5_as.calls k2 _ _ l2 t237 _ ?side1 ?side2 A37.out).mono ?_); (case side1 => repeat (first | exact (Kd.C_below HR2.out HB.out) | (with_reducible refine Kd.C_alloc ?_ _) | (with_reducible refine Kd.C_drewN ?_ _) | (with_reducible refine Kd.C_drew ?_))); (case side2 => exact HC2.out); rintro e w48 ⟨v238, rfl, ho0, hb⟩; refine ⟨_, rfl, ?_⟩; have n0_ := Aside0.mk (Kd.R_below (by (with_reducible repeat (first | apply Kd.R_alloc | apply Kd.R_drewN | apply Kd.R_drew)); exact HO227.out) hb); have n1_ := Aside0.mk (Kd.R_below (by (with_reducible repeat (first | apply Kd.R_alloc | apply Kd.R_drewN | apply Kd.R_drew)); exact HO232.out) hb); have n2_ := Aside0.mk (Kd.R_below (by (with_reducible repeat (first | apply Kd.R_alloc | apply Kd.R_drewN | apply Kd.R_drew)); exact HO236.out) hb); have n3_ := Aside0.mk (Kd.R_lower ho0 (below_size (by repeat (first | (with_reducible first | exact HB.out | apply below_alloc | apply pw_below_drewN | apply below_drew1) | exact HB.out)))); have n4_ := Aside0.mk (below_step (by repeat (first | (with_reducible first | exact HB.out | apply below_alloc | apply pw_below_drewN | apply below_drew1) | exact HB.out)) hb); clear HO227; clear HO232; clear HO236; clear HB; have HO227 := n0_; have HO232 := n1_; have HO236 := n2_; have HO239 := n3_; have HB := n4_; clear n0_ n1_ n2_ n3_ n4_; (try clear hb); (try clear hb2); (try clear hk); (try clear hi); (try clear ho0); obtain ⟨Ao49, co49, eo49⟩ := Kd.R_slice HO239.out; subst eo49) | ((with_reducible refine gate_callee (f := 20) rfl ?_); refine goesL_ (some 134) rfl rfl Try.func20 (by kernel_rfl) rfl #[.slice A0 l0.length c0, .int .i64 a1, .slice Ao49 t237.length co49] rfl (by (try simp only [List.map_toArray, List.map_cons, List.map_nil]); first | done | rfl | (simp only [List.length_drop, List.length_take]; rfl)) ?_; (with_reducible refine (hatstandref5_Run.calls k2 _ _ l0 a1 _ _ t237 t240 t241 _ ?side1 ?side2 ?side3 ?side4 A38.out).mono ?_); (case side1 => repeat (first | exact (Kd.C_below HR0.out HB.out) | (with_reducible refine Kd.C_alloc ?_ _) | (with_reducible refine Kd.C_drewN ?_ _) | (with_reducible refine Kd.C_drew ?_))); (case side2 => exact HC0.out); (case side3 => repeat (first | exact (Kd.R_reads' HO239.out).2.2 | (with_reducible refine Kd.C_alloc ?_ _) | (with_reducible refine Kd.C_drewN ?_ _) | (with_reducible refine Kd.C_drew ?_))); (case side4 => exact (Kd.R_reads' HO239.out).2.1); rintro e w50 ⟨v242, rfl, ho0, hb⟩; refine ⟨_, rfl, ?_⟩; have n0_ := Aside0.mk (Kd.R_elder' (by (with_reducible repeat (first | apply Kd.R_alloc | apply Kd.R_drewN | apply Kd.R_drew)); exact HO227.out) (Kd.R_base ho0) hb); have n1_ := Aside0.mk (Kd.R_elder' (by (with_reducible repeat (first | apply Kd.R_alloc | apply Kd.R_drewN | apply Kd.R_drew)); exact HO232.out) (Kd.R_base ho0) hb); have n2_ := Aside0.mk (Kd.R_elder' (by (with_reducible repeat (first | apply Kd.R_alloc | apply Kd.R_drewN | apply Kd.R_drew)); exact HO236.out) (Kd.R_base ho0) hb); have n3_ := Aside0.mk (Kd.R_below (by (with_reducible repeat (first | apply Kd.R_alloc | apply Kd.R_drewN | apply Kd.R_drew)); exact HO239.out) hb); have n4_ := Aside0.mk (Kd.R_lower (Kd.R_new' (Kd.R_new' (Kd.R_new' ho0 (Kd.R_lt (by (with_reducible repeat (first | apply Kd.R_alloc | apply Kd.R_drewN | apply Kd.R_drew)); exact HO227.out))) (Kd.R_lt (by (with_reducible repeat (first | apply Kd.R_alloc | apply Kd.R_drewN | apply Kd.R_drew)); exact HO232.out))) (Kd.R_lt (by (with_reducible repeat (first | apply Kd.R_alloc | apply Kd.R_drewN | apply Kd.R_drew)); exact HO236.out))) (below_size (by repeat (first | (with_reducible first | exact HB.out | apply below_alloc | apply pw_below_drewN | apply below_drew1) | exact HB.out)))); have n5_ := Aside0.mk (below_step (by repeat (first | (with_reducible first | exact HB.out | apply below_alloc | apply pw_below_drewN | apply below_drew1) | exact HB.out)) hb); clear HO227; clear HO232; clear HO236; clear HO239; clear HB; have HO227 := n0_; have HO232 := n1_; have HO236 := n2_; have HO239 := n3_; have HO243 := n4_; have HB := n5_; clear n0_ n1_ n2_ n3_ n4_ n5_; (try clear hb); (try clear hb2); (try clear hk); (try clear hi); (try clear ho0); obtain ⟨Ao51, co51, eo51⟩ := Kd.R_slice HO227.out; subst eo51; obtain ⟨Ao52, co52, eo52⟩ := Kd.R_slice HO232.out; subst eo52) | ((with_reducible refine gate_callee (f := 16) rfl ?_); refine goesL_ (some 139) rfl rfl Try.func16 (by kernel_rfl) rfl #[.slice Ao51 t223.length co51, .slice Ao52 t228.length co52] rfl (by (try simp only [List.map_toArray, List.map_cons, List.map_nil]); first | done | rfl | (simp only [List.length_drop, List.length_take]; rfl)) ?_; (with_reducible refine (hatstandref5_Same.calls k2 _ _ t223 _ _ t228 true _ ?side1 ?side2 ?side3 ?side4 A39.out).mono ?_); (case side1 => repeat (first | exact (Kd.R_reads' HO227.out).2.2 | (with_reducible refine Kd.C_alloc ?_ _) | (with_reducible refine Kd.C_drewN ?_ _) | (with_reducible refine Kd.C_drew ?_))); (case side2 => exact (Kd.R_reads' HO227.out).2.1); (case side3 => repeat (first | exact (Kd.R_reads' HO232.out).2.2 | (with_reducible refine Kd.C_alloc ?_ _) | (with_reducible refine Kd.C_drewN ?_ _) | (with_reducible refine Kd.C_drew ?_))); (case side4 => exact (Kd.R_reads' HO232.out).2.1); rintro e w' ⟨rfl, ⟨nd, rfl⟩⟩; refine ⟨_, rfl, ?_⟩; obtain ⟨Ao53, co53, eo53⟩ := Kd.R_slice HO236.out; subst eo53; obtain ⟨Ao54, co54, eo54⟩ := Kd.R_slice HO243.out; subst eo54) | (go_at_call 16; (with_reducible refine (hatstandref5_Same.calls k2 _ _ t233 _ _ t240 true _ ?side1 ?side2 ?side3 ?side4 A43.out).mono ?_); (case side1 => repeat (first | exact (Kd.R_reads' HO236.out).2.2 | (with_reducible refine Kd.C_alloc ?_ _) | (with_reducible refine Kd.C_drewN ?_ _) | (with_reducible refine Kd.C_drew ?_))); (case side2 => exact (Kd.R_reads' HO236.out).2.1); (case side3 => repeat (first | exact (Kd.R_reads' HO243.out).2.2 | (with_reducible refine Kd.C_alloc ?_ _) | (with_reducible refine Kd.C_drewN ?_ _) | (with_reducible refine Kd.C_drew ?_))); (case side4 => exact (Kd.R_reads' HO243.out).2.1); rintro e w' ⟨rfl, ⟨nd, rfl⟩⟩))
                      go_ret
                      exact ⟨by first | rfl | (simp [errW_none, errW_some] <;> rfl) | (simp [*, errW_none, errW_some] <;> rfl), by repeat (first | (with_reducible first | exact HB.out | apply below_alloc | apply pw_below_drewN | apply below_drew1) | exact HB.out)⟩
                    · replace c44 := Bool.eq_false_iff.mpr c44
                      subst c44
                      have H1 : (some false) = some r := by rw [if_neg (show ¬ (false = true) by decide)] at H; exact H
                      clear H
                      have H := H1
                      clear H1
                      exact absurd ((Option.some.inj H).trans HT0.out) (by decide)
                  · rw [if_neg c42] at H
                    have c42b0 : (t225 == t230) = false := beq_eq_false_iff_ne.mpr c42
                    have c42b1 : (t225 != t230) = true := bne_iff_ne.mpr c42
                    exact absurd ((Option.some.inj H).trans HT0.out) (by decide)
                · rw [if_neg c41] at H
                  have c41b0 : (t224 == t229) = false := beq_eq_false_iff_ne.mpr c41
                  have c41b1 : (t224 != t229) = true := bne_iff_ne.mpr c41
                  exact absurd ((Option.some.inj H).trans HT0.out) (by decide)
              · replace c40 := Bool.eq_false_iff.mpr c40
                subst c40
                have H1 : (some false) = some r := by rw [if_neg (show ¬ (false = true) by decide)] at H; exact H
                clear H
                have H := H1
                clear H1
                exact absurd ((Option.some.inj H).trans HT0.out) (by decide)

/-- THE ONE PURE STATEMENT of hatstandlaw5_LifoTells. -/
def hatstandlaw5_LifoTells.Pure : Prop := ∀ (l0 : List Int) (a1 : Int) (l2 : List (S30)), l0.length ≤ maxLen → l0.length * 8 ≤ 140737488351232 → (∀ x ∈ l0, (Lit.int .u64 x).wf = true) → (Lit.int .i64 a1).wf = true → l2.length ≤ maxLen → l2.length * 24 ≤ 140737488351232 → (∀ x ∈ l2, (Lit.int .u64 x.f1).wf = true ∧ (Lit.int .i64 x.f2).wf = true) → ∃ k, hatstandlaw5_LifoTells.f k l0 a1 l2 = some true
theorem hatstandlaw5_LifoTells.walk (P : hatstandlaw5_LifoTells.Pure) (A0 : Option Addr) (c0 : Nat) (l0 : List Int) (a1 : Int) (A2 : Option Addr) (c2 : Nat) (l2 : List (S30)) (w : World) (hr0 : Kd.C (Kd.int .u64) w A0 l0.length l0) (hc0 : l0.length ≤ c0) (hr2 : Kd.C k30 w A2 l2.length l2) (hc2 : l2.length ≤ c2) (hm0 : l0.length ≤ maxLen) (y0 : l0.length * 8 ≤ 140737488351232) (hw0 : (∀ x ∈ l0, (Lit.int .u64 x).wf = true)) (hw1 : (Lit.int .i64 a1).wf = true) (hm2 : l2.length ≤ maxLen) (y2 : l2.length * 24 ≤ 140737488351232) (hw2 : (∀ x ∈ l2, (Lit.int .u64 x.f1).wf = true ∧ (Lit.int .i64 x.f2).wf = true)) :
    Calls Try.prog 3 #[.slice A0 l0.length c0, .int .i64 a1, .slice A2 l2.length c2] w fun e w' => e = .returned (.bool true) ∧ Below w.heap.size w w' := by
  obtain ⟨k, h⟩ := P l0 a1 l2 hm0 y0 hw0 hw1 hm2 y2 hw2
  refine (hatstandlaw5_LifoTells.calls k A0 c0 l0 a1 A2 c2 l2 true w hr0 hc0 hr2 hc2 h rfl).mono ?_
  rintro e w' ⟨rfl, hd⟩
  exact ⟨rfl, hd⟩

/-! ### hatstandlaw5_pick: function 21 -/
def hatstandlaw5_pick.f (a0 : Int) (a1 : Int) : Option (Int) := if a0 < 0 then (if a1 = 0 then (none) else (some (Int.tmod (wrap64 (-(wrap64 (a0 + 1)))) a1))) else (if a1 = 0 then (none) else (some (Int.tmod a0 a1)))
set_option maxHeartbeats 8000000 in
set_option maxRecDepth 100000 in
theorem hatstandlaw5_pick.calls (a0 : Int) (a1 : Int) (r : Int) (w : World) (h : hatstandlaw5_pick.f a0 a1 = some r) :
    Calls Try.prog 21 #[.int .i64 a0, .int .i64 a1] w fun e w' => e = .returned (.int .i64 r) ∧ Drawn0 w w' := by
  have H : (if a0 < 0 then (if a1 = 0 then (none) else (some (Int.tmod (wrap64 (-(wrap64 (a0 + 1)))) a1))) else (if a1 = 0 then (none) else (some (Int.tmod a0 a1)))) = some r := h
  clear h
  by_cases c3 : a0 < 0
  · rw [if_pos c3] at H
    have c3b0 : decide (a0 < 0) = true := decide_eq_true c3
    clear c3
    by_cases c4 : a1 = 0
    · rw [if_pos c4] at H
      exact absurd H (by simp)
    · rw [if_neg c4] at H
      have c4b0 : (a1 == 0) = false := beq_eq_false_iff_ne.mpr c4
      have c4b1 : (a1 != 0) = true := bne_iff_ne.mpr c4
      obtain rfl := Option.some.inj H
      go_enter Try.func21, Try.ntmps21
      go_wp2
      go_ret
      exact ⟨by first | rfl | (simp; done) | (simp [*]; done), by repeat (first | exact Drawn0.refl _ | apply Drawn0.step)⟩
  · rw [if_neg c3] at H
    have c3b0 : decide (a0 < 0) = false := decide_eq_false c3
    clear c3
    by_cases c5 : a1 = 0
    · rw [if_pos c5] at H
      exact absurd H (by simp)
    · rw [if_neg c5] at H
      have c5b0 : (a1 == 0) = false := beq_eq_false_iff_ne.mpr c5
      have c5b1 : (a1 != 0) = true := bne_iff_ne.mpr c5
      obtain rfl := Option.some.inj H
      go_enter Try.func21, Try.ntmps21
      go_wp2
      go_ret
      exact ⟨by first | rfl | (simp; done) | (simp [*]; done), by repeat (first | exact Drawn0.refl _ | apply Drawn0.step)⟩

end Go.Proofs.Ytoafkejmdlcnpaa.P
