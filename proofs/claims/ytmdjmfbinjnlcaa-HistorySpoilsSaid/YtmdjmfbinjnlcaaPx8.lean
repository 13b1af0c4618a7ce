/- Walks, written by a program for this claim: each Go function that the laws reach comes to what its Lean function says. -/
import Derived.Test.YtmdjmfbinjnlcaaPx0
import Derived.Test.YtmdjmfbinjnlcaaPx4
import Derived.Test.YtmdjmfbinjnlcaaPx6
import Derived.Test.YtmdjmfbinjnlcaaPx7
namespace Go.Proofs.Ytmdjmfbinjnlcaa.P
open Go.RowKit Go.Proofs.YtmdjmfbinjnlcaaW.PrintWords Go.Proofs.YtmdjmfbinjnlcaaW.PrintLast Go.Proofs.YtmdjmfbinjnlcaaW.PrintMore
attribute [local go_sem] max2_int min2_int max_two min_two max_three min_three max_four min_four   -- for this text's walks alone
set_option linter.unusedVariables false
set_option linter.unusedSimpArgs false

/-! ### hatstandlaw14_HistorySpoils: function 5 -/
mutual
def hatstandlaw14_HistorySpoils.j0 : Nat → List (S61) → Int → Int → Bool → Bool → Option (Bool)
  | 0, _, _, _, _, _ => none
  | k + 1, x0, x1, x2, x7, x29 => if x29 = true then (some x7) else ((hatstandlaw14_events.f k x0).bind fun t177 => ((hatstandlaw14_pick.f x1 (t177.length : Int)).bind fun t180 => ((hatstandlaw14_pick.f x2 5).bind fun t181 => (if t181 = 0 then (if 0 ≤ t180 then (if t180 < (t177.length : Int) then (hatstandlaw14_HistorySpoils.j1 k (t177.set (t180 : Int).toNat (⟨8, (rd_T47 t177 t180).f1, (rd_T47 t177 t180).f2, (rd_T47 t177 t180).f3, (rd_T47 t177 t180).f4⟩ : S47)) t180 4) else (none)) else (none)) else (if t181 = 1 then (if 0 ≤ t180 then (if t180 < (t177.length : Int) then (hatstandlaw14_HistorySpoils.j1 k (t177.set (t180 : Int).toNat (⟨(-1), (rd_T47 t177 t180).f1, (rd_T47 t177 t180).f2, (rd_T47 t177 t180).f3, (rd_T47 t177 t180).f4⟩ : S47)) t180 4) else (none)) else (none)) else (if t181 = 2 then (if 0 ≤ t180 then (if t180 < (t177.length : Int) then ((some (t177.set (t180 : Int).toNat (⟨(rd_T47 t177 t180).f0, !((rd_T47 t177 t180).f1), (rd_T47 t177 t180).f2, (rd_T47 t177 t180).f3, (rd_T47 t177 t180).f4⟩ : S47) : List (S47))).bind fun y185 => (if (rd_T47 y185 t180).f1 = true then (hatstandlaw14_HistorySpoils.j1 k y185 t180 6) else (hatstandlaw14_HistorySpoils.j1 k y185 t180 5))) else (none)) else (none)) else (if t181 = 3 then (if 0 ≤ t180 then (if t180 < (t177.length : Int) then (hatstandlaw14_HistorySpoils.j1 k (t177.set (t180 : Int).toNat (⟨(rd_T47 t177 t180).f0, (rd_T47 t177 t180).f1, (rd_T47 t177 t180).f2, (rd_T47 t177 t180).f3, 5⟩ : S47)) t180 3) else (none)) else (none)) else (if 0 ≤ t180 then (if t180 < (t177.length : Int) then (if (((rd_T47 t177 t180).f2) == ((rd_T47 t177 t180).f1)) = true then (hatstandlaw14_HistorySpoils.j1 k (t177.set (t180 : Int).toNat (⟨(rd_T47 t177 t180).f0, (rd_T47 t177 t180).f1, (rd_T47 t177 t180).f2, 9, (rd_T47 t177 t180).f4⟩ : S47)) t180 3) else (hatstandlaw14_HistorySpoils.j1 k (t177.set (t180 : Int).toNat (⟨(rd_T47 t177 t180).f0, (rd_T47 t177 t180).f1, (rd_T47 t177 t180).f2, (rd_T47 t177 t180).f3, 3⟩ : S47)) t180 3)) else (none)) else (none)))))))))
def hatstandlaw14_HistorySpoils.j1 : Nat → List (S47) → Int → Int → Option (Bool)
  | 0, _, _, _ => none
  | k + 1, x8, x9, x10 => (history_Check.f x8).bind fun bt192 => ((history_Calls.f x8).bind fun bt194 => (if 0 ≤ x9 then (if x9 ≤ (x8.length : Int) then ((history_Check.f (x8.take (x9 : Int).toNat)).bind fun bt202 => (if bt192.1 = x9 then (if bt192.2 = x10 then (if bt194.2 = x10 then (if (bt194.1.length : Int) = 0 then (if bt202.1 = x9 then (some (bt202.2 == 0)) else (some false)) else (some false)) else (some false)) else (some false)) else (some false))) else (none)) else (none)))
end
def hatstandlaw14_HistorySpoils.f (k : Nat) (l0 : List (S61)) (a1 : Int) (a2 : Int) : Option (Bool) := (hatstandlaw14_shown.f k).bind fun t176 => (if t176 = true then (if (l0.length : Int) = 0 then (hatstandlaw14_HistorySpoils.j0 k l0 a1 a2 t176 true) else (hatstandlaw14_HistorySpoils.j0 k l0 a1 a2 t176 (decide ((l0.length : Int) > 100)))) else (hatstandlaw14_HistorySpoils.j0 k l0 a1 a2 t176 true))
theorem hatstandlaw14_HistorySpoils.mono_l : ∀ k, (∀ y0 y1 y2 y3 y4, LeO (hatstandlaw14_HistorySpoils.j0 k y0 y1 y2 y3 y4) (hatstandlaw14_HistorySpoils.j0 (k + 1) y0 y1 y2 y3 y4)) ∧ (∀ y0 y1 y2, LeO (hatstandlaw14_HistorySpoils.j1 k y0 y1 y2) (hatstandlaw14_HistorySpoils.j1 (k + 1) y0 y1 y2))
  | 0 => ⟨fun _ _ _ _ _ r h => by simp [hatstandlaw14_HistorySpoils.j0] at h, fun _ _ _ r h => by simp [hatstandlaw14_HistorySpoils.j1] at h⟩
  | k + 1 => by
    obtain ⟨ih0, ih1⟩ := hatstandlaw14_HistorySpoils.mono_l k
    refine ⟨?_, ?_⟩
    · intro y0 y1 y2 y3 y4
      unfold hatstandlaw14_HistorySpoils.j0
      repeat' first
      | (with_reducible exact ih0 _ _ _ _ _)
      | (with_reducible exact ih1 _ _ _)
      | (with_reducible exact hatstandlaw14_events.mono _ _)
      | (with_reducible exact hatstandlaw14_shown.mono _)
      | (with_reducible exact LeO.refl _)
      | (with_reducible exact LeO.none _)
      | (with_reducible refine LeO.ite ?_ ?_)
      | (with_reducible refine LeO.bind ?_ (fun _ => ?_))
      | exact ih0 _ _ _ _ _
      | exact ih1 _ _ _
      | exact hatstandlaw14_events.mono _ _
      | exact hatstandlaw14_shown.mono _
      | exact LeO.none _
      | refine LeO.ite ?_ ?_
      | refine LeO.bind ?_ (fun _ => ?_)
    · intro y0 y1 y2
      unfold hatstandlaw14_HistorySpoils.j1
      repeat' first
      | (with_reducible exact ih0 _ _ _ _ _)
      | (with_reducible exact ih1 _ _ _)
      | (with_reducible exact hatstandlaw14_events.mono _ _)
      | (with_reducible exact hatstandlaw14_shown.mono _)
      | (with_reducible exact LeO.refl _)
      | (with_reducible exact LeO.none _)
      | (with_reducible refine LeO.ite ?_ ?_)
      | (with_reducible refine LeO.bind ?_ (fun _ => ?_))
      | exact ih0 _ _ _ _ _
      | exact ih1 _ _ _
      | exact hatstandlaw14_events.mono _ _
      | exact hatstandlaw14_shown.mono _
      | exact LeO.none _
      | refine LeO.ite ?_ ?_
      | refine LeO.bind ?_ (fun _ => ?_)
theorem hatstandlaw14_HistorySpoils.mono : ∀ a0 a1 a2 k, LeO (hatstandlaw14_HistorySpoils.f k a0 a1 a2) (hatstandlaw14_HistorySpoils.f (k + 1) a0 a1 a2) := by
  intro a0 a1 a2 k
  obtain ⟨ih0, ih1⟩ := hatstandlaw14_HistorySpoils.mono_l k
  unfold hatstandlaw14_HistorySpoils.f
  repeat' first
      | (with_reducible exact ih0 _ _ _ _ _)
      | (with_reducible exact ih1 _ _ _)
      | (with_reducible exact hatstandlaw14_events.mono _ _)
      | (with_reducible exact hatstandlaw14_shown.mono _)
      | (with_reducible exact LeO.refl _)
      | (with_reducible exact LeO.none _)
      | (with_reducible refine LeO.ite ?_ ?_)
      | (with_reducible refine LeO.bind ?_ (fun _ => ?_))
      | exact ih0 _ _ _ _ _
      | exact ih1 _ _ _
      | exact hatstandlaw14_events.mono _ _
      | exact hatstandlaw14_shown.mono _
      | exact LeO.none _
      | refine LeO.ite ?_ ?_
      | refine LeO.bind ?_ (fun _ => ?_)
set_option maxHeartbeats 8000000 in
set_option maxRecDepth 100000 in
theorem hatstandlaw14_HistorySpoils.calls (k : Nat) (A0 : Option Addr) (c0 : Nat) (l0 : List (S61)) (a1 : Int) (a2 : Int) (r : Bool) (w : World) (hr0 : Kd.C k61 w A0 l0.length l0) (hc0 : l0.length ≤ c0) (h : hatstandlaw14_HistorySpoils.f k l0 a1 a2 = some r) (ht_ : r = true) :
    Calls Try.prog 5 #[.slice A0 l0.length c0, .int .i64 a1, .int .i64 a2] w fun e w' => e = .returned (.bool r) ∧ Below w.heap.size w w' := by
  have HR0 := Aside0.mk hr0
  have HC0 := Aside0.mk hc0
  clear hr0 hc0
  have HB := Aside0.mk (Below.refl w.heap.size w)
  have HT0 := Aside0.mk ht_
  clear ht_
  have H : ((hatstandlaw14_shown.f k).bind fun t176 => (if t176 = true then (if (l0.length : Int) = 0 then (hatstandlaw14_HistorySpoils.j0 k l0 a1 a2 t176 true) else (hatstandlaw14_HistorySpoils.j0 k l0 a1 a2 t176 (decide ((l0.length : Int) > 100)))) else (hatstandlaw14_HistorySpoils.j0 k l0 a1 a2 t176 true))) = some r := h
  clear h
  replace H := Option.bind_eq_some_iff.mp H
  obtain ⟨t176, A40, H⟩ := H
  replace H : (if t176 = true then (if (l0.length : Int) = 0 then (hatstandlaw14_HistorySpoils.j0 k l0 a1 a2 t176 true) else (hatstandlaw14_HistorySpoils.j0 k l0 a1 a2 t176 (decide ((l0.length : Int) > 100)))) else (hatstandlaw14_HistorySpoils.j0 k l0 a1 a2 t176 true)) = some r := H
  have A4 := Aside0.mk A40
  clear A40
  have HC5 := Aside0.mk H
  clear H
  go_enter Try.func5, Try.ntmps5
  go_upto_region 2 with (first | (go_at_call 9; (with_reducible refine (hatstandlaw14_shown.calls k  t176 _ A4.out).mono ?_); rintro e w6 ⟨rfl, hb⟩; have n0_ := Aside0.mk (below_step (by repeat (first | (with_reducible first | exact HB.out | apply below_alloc | apply pw_below_drewN | apply below_drew1) | exact HB.out)) hb); clear HB; have HB := n0_; clear n0_; (try clear hb); (try clear hb2); (try clear hk); (try clear hi)))
  repeat (go_quiet (first | (go_at_call 9; (with_reducible refine (hatstandlaw14_shown.calls k  t176 _ A4.out).mono ?_); rintro e w6 ⟨rfl, hb⟩; have n0_ := Aside0.mk (below_step (by repeat (first | (with_reducible first | exact HB.out | apply below_alloc | apply pw_below_drewN | apply below_drew1) | exact HB.out)) hb); clear HB; have HB := n0_; clear n0_; (try clear hb); (try clear hb2); (try clear hk); (try clear hi))); go_upto_region 2 with (first | (go_at_call 9; (with_reducible refine (hatstandlaw14_shown.calls k  t176 _ A4.out).mono ?_); rintro e w6 ⟨rfl, hb⟩; have n0_ := Aside0.mk (below_step (by repeat (first | (with_reducible first | exact HB.out | apply below_alloc | apply pw_below_drewN | apply below_drew1) | exact HB.out)) hb); clear HB; have HB := n0_; clear n0_; (try clear hb); (try clear hb2); (try clear hk); (try clear hi))))
  (try simp only [Act.put, List.setIfInBounds_toArray, List.set_cons_zero, List.set_cons_succ])
  go_cut [29] (fun v29 wc => ∃ (kq : Nat) (x29_4 : Bool), v29 = .bool x29_4 ∧ Aside0 (hatstandlaw14_HistorySpoils.j0 kq l0 a1 a2 t176 x29_4 = some r) ∧ Aside0 (kq ≤ k) ∧ Aside0 (Below w.heap.size w wc))
  case first =>
    have H := HC5.out
    clear HC5
    by_cases c7 : t176 = true
    · subst c7
      have H1 : (if (l0.length : Int) = 0 then (hatstandlaw14_HistorySpoils.j0 k l0 a1 a2 true true) else (hatstandlaw14_HistorySpoils.j0 k l0 a1 a2 true (decide ((l0.length : Int) > 100)))) = some r := by rw [if_pos rfl] at H; exact H
      clear H
      have H := H1
      clear H1
      by_cases c8 : (l0.length : Int) = 0
      · rw [if_pos c8] at H
        have c8b0 : ((l0.length : Int) == 0) = true := beq_iff_eq.mpr c8
        have c8b1 : ((l0.length : Int) != 0) = false := bne_eq_false_iff_eq.mpr c8
        clear c8
        (first | rw [c8b0] | (simp only [i64_w, i32_w, Go.IntKind.wrap_u32]; rw [c8b0]) | skip)
        have H' := Aside0.mk H
        clear H
        go_wp2
        repeat (go_quiet (fail); try go_wp2)
        go_meet
        case rel => exact ⟨_, (true), (by first | rfl | (simp; done) | (simp [*]; done)), H', ⟨by first | omega | exact Nat.le_refl _⟩, ⟨by repeat (first | (with_reducible first | exact HB.out | apply below_alloc | apply pw_below_drewN | apply below_drew1) | exact HB.out)⟩⟩
      · rw [if_neg c8] at H
        have c8b0 : ((l0.length : Int) == 0) = false := beq_eq_false_iff_ne.mpr c8
        have c8b1 : ((l0.length : Int) != 0) = true := bne_iff_ne.mpr c8
        have c8b2 : ¬ (l0 = []) := fun h_ => c8 (by rw [h_]; rfl)
        (first | rw [c8b0] | (simp only [i64_w, i32_w, Go.IntKind.wrap_u32]; rw [c8b0]) | skip)
        have H' := Aside0.mk H
        clear H
        go_wp2
        repeat (go_quiet (fail); try go_wp2)
        go_meet
        case rel => exact ⟨_, (decide ((l0.length : Int) > 100)), (by first | rfl | (simp; done) | (simp [*]; done)), H', ⟨by first | omega | exact Nat.le_refl _⟩, ⟨by repeat (first | (with_reducible first | exact HB.out | apply below_alloc | apply pw_below_drewN | apply below_drew1) | exact HB.out)⟩⟩
    · replace c7 := Bool.eq_false_iff.mpr c7
      subst c7
      have H1 : (hatstandlaw14_HistorySpoils.j0 k l0 a1 a2 false true) = some r := by rw [if_neg (show ¬ (false = true) by decide)] at H; exact H
      clear H
      have H := H1
      clear H1
      have H' := Aside0.mk H
      clear H
      go_wp2
      repeat (go_quiet (fail); try go_wp2)
      go_meet
      case rel => exact ⟨_, (true), (by first | rfl | (simp; done) | (simp [*]; done)), H', ⟨by first | omega | exact Nat.le_refl _⟩, ⟨by repeat (first | (with_reducible first | exact HB.out | apply below_alloc | apply pw_below_drewN | apply below_drew1) | exact HB.out)⟩⟩
  case rest =>
    clear HC5
    try clear p2
    try clear c5
    try clear c7
    try clear c8
    try clear c8b0
    try clear c8b1
    try clear c8b2
    obtain ⟨kq, x29_4, rfl, HA, HJ4, HB⟩ := hcut
    cases kq with
    | zero => exact absurd HA.out (by simp [hatstandlaw14_HistorySpoils.j0])
    | succ kj4 =>
      have H := HA.out
      clear HA
      simp only [hatstandlaw14_HistorySpoils.j0] at H
      by_cases c9 : x29_4 = true
      · subst c9
        have H1 : (some t176) = some r := by rw [if_pos rfl] at H; exact H
        clear H
        have H := H1
        clear H1
        obtain rfl := Option.some.inj H
        go_wp2
        repeat (go_quiet (fail); try go_wp2)
        go_ret
        exact ⟨by first | rfl | (simp [errW_none, errW_some] <;> rfl) | (simp [*, errW_none, errW_some] <;> rfl), by repeat (first | (with_reducible first | exact HB.out | apply below_alloc | apply pw_below_drewN | apply below_drew1) | exact HB.out)⟩
      · replace c9 := Bool.eq_false_iff.mpr c9
        subst c9
        have H1 : ((hatstandlaw14_events.f kj4 l0).bind fun t177 => ((hatstandlaw14_pick.f a1 (t177.length : Int)).bind fun t180 => ((hatstandlaw14_pick.f a2 5).bind fun t181 => (if t181 = 0 then (if 0 ≤ t180 then (if t180 < (t177.length : Int) then (hatstandlaw14_HistorySpoils.j1 kj4 (t177.set (t180 : Int).toNat (⟨8, (rd_T47 t177 t180).f1, (rd_T47 t177 t180).f2, (rd_T47 t177 t180).f3, (rd_T47 t177 t180).f4⟩ : S47)) t180 4) else (none)) else (none)) else (if t181 = 1 then (if 0 ≤ t180 then (if t180 < (t177.length : Int) then (hatstandlaw14_HistorySpoils.j1 kj4 (t177.set (t180 : Int).toNat (⟨(-1), (rd_T47 t177 t180).f1, (rd_T47 t177 t180).f2, (rd_T47 t177 t180).f3, (rd_T47 t177 t180).f4⟩ : S47)) t180 4) else (none)) else (none)) else (if t181 = 2 then (if 0 ≤ t180 then (if t180 < (t177.length : Int) then ((some (t177.set (t180 : Int).toNat (⟨(rd_T47 t177 t180).f0, !((rd_T47 t177 t180).f1), (rd_T47 t177 t180).f2, (rd_T47 t177 t180).f3, (rd_T47 t177 t180).f4⟩ : S47) : List (S47))).bind fun y185 => (if (rd_T47 y185 t180).f1 = true then (hatstandlaw14_HistorySpoils.j1 kj4 y185 t180 6) else (hatstandlaw14_HistorySpoils.j1 kj4 y185 t180 5))) else (none)) else (none)) else (if t181 = 3 then (if 0 ≤ t180 then (if t180 < (t177.length : Int) then (hatstandlaw14_HistorySpoils.j1 kj4 (t177.set (t180 : Int).toNat (⟨(rd_T47 t177 t180).f0, (rd_T47 t177 t180).f1, (rd_T47 t177 t180).f2, (rd_T47 t177 t180).f3, 5⟩ : S47)) t180 3) else (none)) else (none)) else (if 0 ≤ t180 then (if t180 < (t177.length : Int) then (if (((rd_T47 t177 t180).f2) == ((rd_T47 t177 t180).f1)) = true then (hatstandlaw14_HistorySpoils.j1 kj4 (t177.set (t180 : Int).toNat (⟨(rd_T47 t177 t180).f0, (rd_T47 t177 t180).f1, (rd_T47 t177 t180).f2, 9, (rd_T47 t177 t180).f4⟩ : S47)) t180 3) else (hatstandlaw14_HistorySpoils.j1 kj4 (t177.set (t180 : Int).toNat (⟨(rd_T47 t177 t180).f0, (rd_T47 t177 t180).f1, (rd_T47 t177 t180).f2, (rd_T47 t177 t180).f3, 3⟩ : S47)) t180 3)) else (none)) else (none))))))))) = some r := by rw [if_neg (show ¬ (false = true) by decide)] at H; exact H
        clear H
        have H := H1
        clear H1
        replace H := Option.bind_eq_some_iff.mp H
        obtain ⟨t177, A100, H⟩ := H
        replace H : ((hatstandlaw14_pick.f a1 (t177.length : Int)).bind fun t180 => ((hatstandlaw14_pick.f a2 5).bind fun t181 => (if t181 = 0 then (if 0 ≤ t180 then (if t180 < (t177.length : Int) then (hatstandlaw14_HistorySpoils.j1 kj4 (t177.set (t180 : Int).toNat (⟨8, (rd_T47 t177 t180).f1, (rd_T47 t177 t180).f2, (rd_T47 t177 t180).f3, (rd_T47 t177 t180).f4⟩ : S47)) t180 4) else (none)) else (none)) else (if t181 = 1 then (if 0 ≤ t180 then (if t180 < (t177.length : Int) then (hatstandlaw14_HistorySpoils.j1 kj4 (t177.set (t180 : Int).toNat (⟨(-1), (rd_T47 t177 t180).f1, (rd_T47 t177 t180).f2, (rd_T47 t177 t180).f3, (rd_T47 t177 t180).f4⟩ : S47)) t180 4) else (none)) else (none)) else (if t181 = 2 then (if 0 ≤ t180 then (if t180 < (t177.length : Int) then ((some (t177.set (t180 : Int).toNat (⟨(rd_T47 t177 t180).f0, !((rd_T47 t177 t180).f1), (rd_T47 t177 t180).f2, (rd_T47 t177 t180).f3, (rd_T47 t177 t180).f4⟩ : S47) : List (S47))).bind fun y185 => (if (rd_T47 y185 t180).f1 = true then (hatstandlaw14_HistorySpoils.j1 kj4 y185 t180 6) else (hatstandlaw14_HistorySpoils.j1 kj4 y185 t180 5))) else (none)) else (none)) else (if t181 = 3 then (if 0 ≤ t180 then (if t180 < (t177.length : Int) then (hatstandlaw14_HistorySpoils.j1 kj4 (t177.set (t180 : Int).toNat (⟨(rd_T47 t177 t180).f0, (rd_T47 t177 t180).f1, (rd_T47 t177 t180).f2, (rd_T47 t177 t180).f3, 5⟩ : S47)) t180 3) else (none)) else (none)) else (if 0 ≤ t180 then (if t180 < (t177.length : Int) then (if (((rd_T47 t177 t180).f2) == ((rd_T47 t177 t180).f1)) = true then (hatstandlaw14_HistorySpoils.j1 kj4 (t177.set (t180 : Int).toNat (⟨(rd_T47 t177 t180).f0, (rd_T47 t177 t180).f1, (rd_T47 t177 t180).f2, 9, (rd_T47 t177 t180).f4⟩ : S47)) t180 3) else (hatstandlaw14_HistorySpoils.j1 kj4 (t177.set (t180 : Int).toNat (⟨(rd_T47 t177 t180).f0, (rd_T47 t177 t180).f1, (rd_T47 t177 t180).f2, (rd_T47 t177 t180).f3, 3⟩ : S47)) t180 3)) else (none)) else (none)))))))) = some r := H
        have A10 := Aside0.mk A100
        clear A100
        replace H := Option.bind_eq_some_iff.mp H
        obtain ⟨t180, A110, H⟩ := H
        replace H : ((hatstandlaw14_pick.f a2 5).bind fun t181 => (if t181 = 0 then (if 0 ≤ t180 then (if t180 < (t177.length : Int) then (hatstandlaw14_HistorySpoils.j1 kj4 (t177.set (t180 : Int).toNat (⟨8, (rd_T47 t177 t180).f1, (rd_T47 t177 t180).f2, (rd_T47 t177 t180).f3, (rd_T47 t177 t180).f4⟩ : S47)) t180 4) else (none)) else (none)) else (if t181 = 1 then (if 0 ≤ t180 then (if t180 < (t177.length : Int) then (hatstandlaw14_HistorySpoils.j1 kj4 (t177.set (t180 : Int).toNat (⟨(-1), (rd_T47 t177 t180).f1, (rd_T47 t177 t180).f2, (rd_T47 t177 t180).f3, (rd_T47 t177 t180).f4⟩ : S47)) t180 4) else (none)) else (none)) else (if t181 = 2 then (if 0 ≤ t180 then (if t180 < (t177.length : Int) then ((some (t177.set (t180 : Int).toNat (⟨(rd_T47 t177 t180).f0, !((rd_T47 t177 t180).f1), (rd_T47 t177 t180).f2, (rd_T47 t177 t180).f3, (rd_T47 t177 t180).f4⟩ : S47) : List (S47))).bind fun y185 => (if (rd_T47 y185 t180).f1 = true then (hatstandlaw14_HistorySpoils.j1 kj4 y185 t180 6) else (hatstandlaw14_HistorySpoils.j1 kj4 y185 t180 5))) else (none)) else (none)) else (if t181 = 3 then (if 0 ≤ t180 then (if t180 < (t177.length : Int) then (hatstandlaw14_HistorySpoils.j1 kj4 (t177.set (t180 : Int).toNat (⟨(rd_T47 t177 t180).f0, (rd_T47 t177 t180).f1, (rd_T47 t177 t180).f2, (rd_T47 t177 t180).f3, 5⟩ : S47)) t180 3) else (none)) else (none)) else (if 0 ≤ t180 then (if t180 < (t177.length : Int) then (if (((rd_T47 t177 t180).f2) == ((rd_T47 t177 t180).f1)) = true then (hatstandlaw14_HistorySpoils.j1 kj4 (t177.set (t180 : Int).toNat (⟨(rd_T47 t177 t180).f0, (rd_T47 t177 t180).f1, (rd_T47 t177 t180).f2, 9, (rd_T47 t177 t180).f4⟩ : S47)) t180 3) else (hatstandlaw14_HistorySpoils.j1 kj4 (t177.set (t180 : Int).toNat (⟨(rd_T47 t177 t180).f0, (rd_T47 t177 t180).f1, (rd_T47 t177 t180).f2, (rd_T47 t177 t180).f3, 3⟩ : S47)) t180 3)) else (none)) else (none))))))) = some r := H
        have A11 := Aside0.mk A110
        clear A110
        replace H := Option.bind_eq_some_iff.mp H
        obtain ⟨t181, A120, H⟩ := H
        replace H : (if t181 = 0 then (if 0 ≤ t180 then (if t180 < (t177.length : Int) then (hatstandlaw14_HistorySpoils.j1 kj4 (t177.set (t180 : Int).toNat (⟨8, (rd_T47 t177 t180).f1, (rd_T47 t177 t180).f2, (rd_T47 t177 t180).f3, (rd_T47 t177 t180).f4⟩ : S47)) t180 4) else (none)) else (none)) else (if t181 = 1 then (if 0 ≤ t180 then (if t180 < (t177.length : Int) then (hatstandlaw14_HistorySpoils.j1 kj4 (t177.set (t180 : Int).toNat (⟨(-1), (rd_T47 t177 t180).f1, (rd_T47 t177 t180).f2, (rd_T47 t177 t180).f3, (rd_T47 t177 t180).f4⟩ : S47)) t180 4) else (none)) else (none)) else (if t181 = 2 then (if 0 ≤ t180 then (if t180 < (t177.length : Int) then ((some (t177.set (t180 : Int).toNat (⟨(rd_T47 t177 t180).f0, !((rd_T47 t177 t180).f1), (rd_T47 t177 t180).f2, (rd_T47 t177 t180).f3, (rd_T47 t177 t180).f4⟩ : S47) : List (S47))).bind fun y185 => (if (rd_T47 y185 t180).f1 = true then (hatstandlaw14_HistorySpoils.j1 kj4 y185 t180 6) else (hatstandlaw14_HistorySpoils.j1 kj4 y185 t180 5))) else (none)) else (none)) else (if t181 = 3 then (if 0 ≤ t180 then (if t180 < (t177.length : Int) then (hatstandlaw14_HistorySpoils.j1 kj4 (t177.set (t180 : Int).toNat (⟨(rd_T47 t177 t180).f0, (rd_T47 t177 t180).f1, (rd_T47 t177 t180).f2, (rd_T47 t177 t180).f3, 5⟩ : S47)) t180 3) else (none)) else (none)) else (if 0 ≤ t180 then (if t180 < (t177.length : Int) then (if (((rd_T47 t177 t180).f2) == ((rd_T47 t177 t180).f1)) = true then (hatstandlaw14_HistorySpoils.j1 kj4 (t177.set (t180 : Int).toNat (⟨(rd_T47 t177 t180).f0, (rd_T47 t177 t180).f1, (rd_T47 t177 t180).f2, 9, (rd_T47 t177 t180).f4⟩ : S47)) t180 3) else (hatstandlaw14_HistorySpoils.j1 kj4 (t177.set (t180 : Int).toNat (⟨(rd_T47 t177 t180).f0, (rd_T47 t177 t180).f1, (rd_T47 t177 t180).f2, (rd_T47 t177 t180).f3, 3⟩ : S47)) t180 3)) else (none)) else (none)))))) = some r := H
        have A12 := Aside0.mk A120
        clear A120
        have HC13 := Aside0.mk H
        clear H
        go_upto_block 0 with (first | (go_at_call 17; (with_reducible refine (hatstandlaw14_events.calls kj4 _ _ l0 t177 _ ?side1 ?side2 A10.out).mono ?_); (case side1 => repeat (first | exact (Kd.C_below HR0.out HB.out) | (with_reducible refine Kd.C_alloc ?_ _) | (with_reducible refine Kd.C_drewN ?_ _) | (with_reducible refine Kd.C_drew ?_))); (case side2 => exact HC0.out); rintro e w14 ⟨v178, rfl, ho0, hb⟩; have n0_ := Aside0.mk (Kd.R_lower ho0 (below_size (by repeat (first | (with_reducible first | exact HB.out | apply below_alloc | apply pw_below_drewN | apply below_drew1) | exact HB.out)))); have n1_ := Aside0.mk (below_step (by repeat (first | (with_reducible first | exact HB.out | apply below_alloc | apply pw_below_drewN | apply below_drew1) | exact HB.out)) hb); clear HB; have HO179 := n0_; have HB := n1_; clear n0_ n1_; (try clear hb); (try clear hb2); (try clear hk); (try clear hi); (try clear ho0); obtain ⟨Ao15, co15, eo15⟩ := Kd.R_slice HO179.out; subst eo15) | (go_at_call 18; (with_reducible refine (hatstandlaw14_pick.calls a1 (t177.length : Int) t180 _ A11.out).mono ?_); rintro e w' ⟨rfl, ⟨nd, rfl⟩⟩; (try first | exact ⟨rfl, _, World.drewN_drewN _ _ _⟩ | exact ⟨rfl, _, Eq.trans (World.drewN_drewN _ _ _) (congrArg (World.drewN _) (Nat.add_assoc _ _ _))⟩)) | (go_at_call 18; (with_reducible refine (hatstandlaw14_pick.calls a2 5 t181 _ A12.out).mono ?_); rintro e w' ⟨rfl, ⟨nd, rfl⟩⟩; (try first | exact ⟨rfl, _, World.drewN_drewN _ _ _⟩ | exact ⟨rfl, _, Eq.trans (World.drewN_drewN _ _ _) (congrArg (World.drewN _) (Nat.add_assoc _ _ _))⟩)))
        repeat (go_quiet (first | (go_at_call 17; (with_reducible refine (hatstandlaw14_events.calls kj4 _ _ l0 t177 _ ?side1 ?side2 A10.out).mono ?_); (case side1 => repeat (first | exact (Kd.C_below HR0.out HB.out) | (with_reducible refine Kd.C_alloc ?_ _) | (with_reducible refine Kd.C_drewN ?_ _) | (with_reducible refine Kd.C_drew ?_))); (case side2 => exact HC0.out); rintro e w14 ⟨v178, rfl, ho0, hb⟩; have n0_ := Aside0.mk (Kd.R_lower ho0 (below_size (by repeat (first | (with_reducible first | exact HB.out | apply below_alloc | apply pw_below_drewN | apply below_drew1) | exact HB.out)))); have n1_ := Aside0.mk (below_step (by repeat (first | (with_reducible first | exact HB.out | apply below_alloc | apply pw_below_drewN | apply below_drew1) | exact HB.out)) hb); clear HB; have HO179 := n0_; have HB := n1_; clear n0_ n1_; (try clear hb); (try clear hb2); (try clear hk); (try clear hi); (try clear ho0); obtain ⟨Ao15, co15, eo15⟩ := Kd.R_slice HO179.out; subst eo15) | (go_at_call 18; (with_reducible refine (hatstandlaw14_pick.calls a1 (t177.length : Int) t180 _ A11.out).mono ?_); rintro e w' ⟨rfl, ⟨nd, rfl⟩⟩; (try first | exact ⟨rfl, _, World.drewN_drewN _ _ _⟩ | exact ⟨rfl, _, Eq.trans (World.drewN_drewN _ _ _) (congrArg (World.drewN _) (Nat.add_assoc _ _ _))⟩)) | (go_at_call 18; (with_reducible refine (hatstandlaw14_pick.calls a2 5 t181 _ A12.out).mono ?_); rintro e w' ⟨rfl, ⟨nd, rfl⟩⟩; (try first | exact ⟨rfl, _, World.drewN_drewN _ _ _⟩ | exact ⟨rfl, _, Eq.trans (World.drewN_drewN _ _ _) (congrArg (World.drewN _) (Nat.add_assoc _ _ _))⟩))); go_upto_block 0 with (first | (go_at_call 17; (with_reducible refine (hatstandlaw14_events.calls kj4 _ _ l0 t177 _ ?side1 ?side2 A10.out).mono ?_); (case side1 => repeat (first | exact (Kd.C_below HR0.out HB.out) | (with_reducible refine Kd.C_alloc ?_ _) | (with_reducible refine Kd.C_drewN ?_ _) | (with_reducible refine Kd.C_drew ?_))); (case side2 => exact HC0.out); rintro e w14 ⟨v178, rfl, ho0, hb⟩; have n0_ := Aside0.mk (Kd.R_lower ho0 (below_size (by repeat (first | (with_reducible first | exact HB.out | apply below_alloc | apply pw_below_drewN | apply below_drew1) | exact HB.out)))); have n1_ := Aside0.mk (below_step (by repeat (first | (with_reducible first | exact HB.out | apply below_alloc | apply pw_below_drewN | apply below_drew1) | exact HB.out)) hb); clear HB; have HO179 := n0_; have HB := n1_; clear n0_ n1_; (try clear hb); (try clear hb2); (try clear hk); (try clear hi); (try clear ho0); obtain ⟨Ao15, co15, eo15⟩ := Kd.R_slice HO179.out; subst eo15) | (go_at_call 18; (with_reducible refine (hatstandlaw14_pick.calls a1 (t177.length : Int) t180 _ A11.out).mono ?_); rintro e w' ⟨rfl, ⟨nd, rfl⟩⟩; (try first | exact ⟨rfl, _, World.drewN_drewN _ _ _⟩ | exact ⟨rfl, _, Eq.trans (World.drewN_drewN _ _ _) (congrArg (World.drewN _) (Nat.add_assoc _ _ _))⟩)) | (go_at_call 18; (with_reducible refine (hatstandlaw14_pick.calls a2 5 t181 _ A12.out).mono ?_); rintro e w' ⟨rfl, ⟨nd, rfl⟩⟩; (try first | exact ⟨rfl, _, World.drewN_drewN _ _ _⟩ | exact ⟨rfl, _, Eq.trans (World.drewN_drewN _ _ _) (congrArg (World.drewN _) (Nat.add_assoc _ _ _))⟩))))
        (try simp only [Act.put, List.setIfInBounds_toArray, List.set_cons_zero, List.set_cons_succ])
        go_cut [10] (fun v10 wc => ∃ (kq : Nat) (x8_12 : List (S47)) (x10_12 : Int), v10 = .int .i64 x10_12 ∧ Aside0 (hatstandlaw14_HistorySpoils.j1 kq x8_12 t180 x10_12 = some r) ∧ Aside0 (kq ≤ kj4) ∧ Aside0 (Kd.R k47 47 wc w.heap.size (fun _ => True) (.slice Ao15 t177.length co15) x8_12) ∧ Aside0 (Below w.heap.size w wc))
        case first =>
          have H := HC13.out
          clear HC13
          by_cases c16 : t181 = 0
          · rw [if_pos c16] at H
            have c16b0 : (t181 == 0) = true := beq_iff_eq.mpr c16
            have c16b1 : (t181 != 0) = false := bne_eq_false_iff_eq.mpr c16
            clear c16
            (first | rw [c16b0] | (simp only [i64_w, i32_w, Go.IntKind.wrap_u32]; rw [c16b0]) | skip)
            by_cases c17 : 0 ≤ t180
            · rw [if_pos c17] at H
              have c17b0 : decide (0 ≤ t180) = true := decide_eq_true c17
              clear c17
              by_cases c18 : t180 < (t177.length : Int)
              · rw [if_pos c18] at H
                have c18b0 : decide (t180 < (t177.length : Int)) = true := decide_eq_true c18
                clear c18
                obtain ⟨y182, hy182⟩ : ∃ y_ : List (S47), y_ = (t177.set (t180 : Int).toNat (⟨8, (rd_T47 t177 t180).f1, (rd_T47 t177 t180).f2, (rd_T47 t177 t180).f3, (rd_T47 t177 t180).f4⟩ : S47)) := ⟨_, rfl⟩
                replace H : (hatstandlaw14_HistorySpoils.j1 kj4 y182 t180 4) = some r := by first | (rw [hy182]; with_reducible exact H) | (have H2_ := (Option.bind_some _ _).symm.trans H; rw [hy182]; with_reducible exact H2_) | (have H2_ := (Option.bind_some _ _).symm.trans H; with_reducible exact H2_) | with_reducible exact H | (rw [hy182]; exact H) | exact H
                have Ny182 := Aside0.mk hy182
                clear hy182
                have H' := Aside0.mk H
                clear H
                have p19 : 0 ≤ (t180 : Int) := of_decide_eq_true (by first | (with_reducible assumption) | assumption)
                have q19 : (t180 : Int) < ((t177.length : Int) : Int) := of_decide_eq_true (by first | (with_reducible assumption) | assumption)
                obtain ⟨go19, co19, eo19, gb19, gl19, cl19, HG19⟩ := Kd.R_form HO179.out (by omega)
                (first | cases eo19 | (injection eo19 with ea_ en_ ec_; (first | subst ea_ | (injection ea_ with ea_; subst ea_)); subst ec_; clear en_))
                have GB19 := Aside0.mk gb19
                have GG19 := Aside0.mk HG19
                clear gb19 gl19 HG19
                obtain ⟨ce19, hcl19, hM19, hcc19, hfr19⟩ := Kd.R_elem HO179.out z47 (t180 : Int) p19 q19
                obtain rfl := k47_openM hM19
                have hx19_0 : w14.cell? ⟨go19, (t180 : Int).toNat * 5, none⟩ = some (.int .i64 ((rd_T47 t177 t180).f0)) := hcc19 0 _ rfl
                have hx19_1 : w14.cell? ⟨go19, (t180 : Int).toNat * 5 + 1, none⟩ = some (.bool ((rd_T47 t177 t180).f1)) := hcc19 1 _ rfl
                have hx19_2 : w14.cell? ⟨go19, (t180 : Int).toNat * 5 + 2, none⟩ = some (.bool ((rd_T47 t177 t180).f2)) := hcc19 2 _ rfl
                have hx19_3 : w14.cell? ⟨go19, (t180 : Int).toNat * 5 + 3, none⟩ = some (.int .u64 ((rd_T47 t177 t180).f3)) := hcc19 3 _ rfl
                have hx19_4 : w14.cell? ⟨go19, (t180 : Int).toNat * 5 + 4, none⟩ = some (.int .i64 ((rd_T47 t177 t180).f4)) := hcc19 4 _ rfl
                have hf19_0 : w14.frozen? ⟨go19, (t180 : Int).toNat * 5, none⟩ = false := hfr19 0
                have hf19_1 : w14.frozen? ⟨go19, (t180 : Int).toNat * 5 + 1, none⟩ = false := hfr19 1
                have hf19_2 : w14.frozen? ⟨go19, (t180 : Int).toNat * 5 + 2, none⟩ = false := hfr19 2
                have hf19_3 : w14.frozen? ⟨go19, (t180 : Int).toNat * 5 + 3, none⟩ = false := hfr19 3
                have hf19_4 : w14.frozen? ⟨go19, (t180 : Int).toNat * 5 + 4, none⟩ = false := hfr19 4
                clear hcl19 hcc19 hfr19 hM19
                replace p19 := eq_true p19
                replace q19 := eq_true q19
                have HX20 := Aside0.mk (show Kd.R k47 47 w14 w.heap.size (fun _ => True) (.slice (some ⟨go19, 0, none⟩) t177.length co15) t177 from (by (with_reducible repeat (first | apply Kd.R_alloc | apply Kd.R_drewN | apply Kd.R_drew)); exact HO179.out))
                obtain ⟨ce20, hcl20, hM20, hcc20, hfr20⟩ := Kd.R_elem HX20.out z47 (t180 : Int) (of_decide_eq_true (by first | (with_reducible assumption) | assumption)) (by have h_ : (t180 : Int) < ((t177.length : Int) : Int) := of_decide_eq_true (by first | (with_reducible assumption) | assumption); first | exact h_ | (have e_ := (Kd.R_reads' HO179.out).1; omega) | simpa using h_)
                obtain rfl := k47_openM hM20
                have HP20 := Kd.R_seg HX20.out (t180 : Int) (of_decide_eq_true (by first | (with_reducible assumption) | assumption)) (by have h_ : (t180 : Int) < ((t177.length : Int) : Int) := of_decide_eq_true (by first | (with_reducible assumption) | assumption); first | exact h_ | (have e_ := (Kd.R_reads' HO179.out).1; omega) | simpa using h_) (seg := [.int .i64 8]) (j := 0) hcl20 hcc20 (show 1 ≤ 5 from by decide) (x' := (⟨8, (rd_T47 t177 t180).f1, (rd_T47 t177 t180).f2, (rd_T47 t177 t180).f3, (rd_T47 t177 t180).f4⟩ : S47)) (k47_mkM _ _ _ (⟨8, (rd_T47 t177 t180).f1, (rd_T47 t177 t180).f2, (rd_T47 t177 t180).f3, (rd_T47 t177 t180).f4⟩ : S47) ) (fun _ hk => hk)
                have hx20_0 := hcc20 0 _ rfl
                (try simp only [show (k47).sz = 5 from rfl, Nat.mul_one, Nat.add_zero] at hx20_0)
                have hf20_0 := hfr20 0
                (try simp only [show (k47).sz = 5 from rfl, Nat.mul_one, Nat.add_zero] at hf20_0)
                clear hcl20 hcc20 hfr20 hM20
                go_wp2_with (first | ((with_reducible refine gate_store (t := 3) (p := 63) rfl ?_); (try (rw [drewN_self w14]; generalize hq_ : World.drewN w14 _ = w14; have n0_ := Aside0.mk (Kd.R_at hq_ HO179.out); have n1_ := Aside0.mk (below_at hq_ HB.out); clear hq_ HO179 HB; have HO179 := n0_; have HB := n1_; clear n0_ n1_; (try (have HX20 := Aside0.mk (show Kd.R k47 47 w14 w.heap.size (fun _ => True) (.slice (some ⟨go19, 0, none⟩) t177.length co15) t177 from (by (with_reducible repeat (first | apply Kd.R_alloc | apply Kd.R_drewN | apply Kd.R_drew)); exact HO179.out)))); (try (obtain ⟨ce20, hcl20, hM20, hcc20, hfr20⟩ := Kd.R_elem HX20.out z47 (t180 : Int) (of_decide_eq_true (by first | (with_reducible assumption) | assumption)) (by have h_ : (t180 : Int) < ((t177.length : Int) : Int) := of_decide_eq_true (by first | (with_reducible assumption) | assumption); first | exact h_ | (have e_ := (Kd.R_reads' HO179.out).1; omega) | simpa using h_))); (try (obtain rfl := k47_openM hM20)); (try (have HP20 := Kd.R_seg HX20.out (t180 : Int) (of_decide_eq_true (by first | (with_reducible assumption) | assumption)) (by have h_ : (t180 : Int) < ((t177.length : Int) : Int) := of_decide_eq_true (by first | (with_reducible assumption) | assumption); first | exact h_ | (have e_ := (Kd.R_reads' HO179.out).1; omega) | simpa using h_) (seg := [.int .i64 8]) (j := 0) hcl20 hcc20 (show 1 ≤ 5 from by decide) (x' := (⟨8, (rd_T47 t177 t180).f1, (rd_T47 t177 t180).f2, (rd_T47 t177 t180).f3, (rd_T47 t177 t180).f4⟩ : S47)) (k47_mkM _ _ _ (⟨8, (rd_T47 t177 t180).f1, (rd_T47 t177 t180).f2, (rd_T47 t177 t180).f3, (rd_T47 t177 t180).f4⟩ : S47) ) (fun _ hk => hk))); (try (have hx20_0 := hcc20 0 _ rfl)); (try (try simp only [show (k47).sz = 5 from rfl, Nat.mul_one, Nat.add_zero] at hx20_0)); (try (have hf20_0 := hfr20 0)); (try (try simp only [show (k47).sz = 5 from rfl, Nat.mul_one, Nat.add_zero] at hf20_0)); (try (clear hcl20 hcc20 hfr20 hM20)))); refine store_event (t := 3) (p := 63) (v := ?vo_w21) (w1 := (w14.setCell ⟨go19, (t180 : Int).toNat * 5, none⟩ (.int .i64 8))) ?hg ?ho ?hn ?hr ?_; (case ho => rfl); (case hg => rfl); (case hn => rfl); (case hr => first | (go_simp; done) | (go_simp; rfl)); intro w21 hw; have hg : w14.grownBy w21 (some go19) := (by rw [hw]; exact HP20.2); have hp_ : Kd.R k47 47 w21 w.heap.size (fun _ => True) (.slice (some ⟨go19, 0, none⟩) t177.length co15) y182 := (by rw [hw, Ny182.out]; exact HP20.1); clear HP20; have n0_ := Aside0.mk (hp_); have n1_ := Aside0.mk ((by rw [hw]; exact below_set (HB.out) GB19.out : Below w.heap.size w w21)); clear HO179; clear HB; have HO179 := n0_; have HB := n1_; clear n0_ n1_; clear hg hw hp_))
                repeat (go_quiet (first | ((with_reducible refine gate_store (t := 3) (p := 63) rfl ?_); (try (rw [drewN_self w14]; generalize hq_ : World.drewN w14 _ = w14; have n0_ := Aside0.mk (Kd.R_at hq_ HO179.out); have n1_ := Aside0.mk (below_at hq_ HB.out); clear hq_ HO179 HB; have HO179 := n0_; have HB := n1_; clear n0_ n1_; (try (have HX20 := Aside0.mk (show Kd.R k47 47 w14 w.heap.size (fun _ => True) (.slice (some ⟨go19, 0, none⟩) t177.length co15) t177 from (by (with_reducible repeat (first | apply Kd.R_alloc | apply Kd.R_drewN | apply Kd.R_drew)); exact HO179.out)))); (try (obtain ⟨ce20, hcl20, hM20, hcc20, hfr20⟩ := Kd.R_elem HX20.out z47 (t180 : Int) (of_decide_eq_true (by first | (with_reducible assumption) | assumption)) (by have h_ : (t180 : Int) < ((t177.length : Int) : Int) := of_decide_eq_true (by first | (with_reducible assumption) | assumption); first | exact h_ | (have e_ := (Kd.R_reads' HO179.out).1; omega) | simpa using h_))); (try (obtain rfl := k47_openM hM20)); (try (have HP20 := Kd.R_seg HX20.out (t180 : Int) (of_decide_eq_true (by first | (with_reducible assumption) | assumption)) (by have h_ : (t180 : Int) < ((t177.length : Int) : Int) := of_decide_eq_true (by first | (with_reducible assumption) | assumption); first | exact h_ | (have e_ := (Kd.R_reads' HO179.out).1; omega) | simpa using h_) (seg := [.int .i64 8]) (j := 0) hcl20 hcc20 (show 1 ≤ 5 from by decide) (x' := (⟨8, (rd_T47 t177 t180).f1, (rd_T47 t177 t180).f2, (rd_T47 t177 t180).f3, (rd_T47 t177 t180).f4⟩ : S47)) (k47_mkM _ _ _ (⟨8, (rd_T47 t177 t180).f1, (rd_T47 t177 t180).f2, (rd_T47 t177 t180).f3, (rd_T47 t177 t180).f4⟩ : S47) ) (fun _ hk => hk))); (try (have hx20_0 := hcc20 0 _ rfl)); (try (try simp only [show (k47).sz = 5 from rfl, Nat.mul_one, Nat.add_zero] at hx20_0)); (try (have hf20_0 := hfr20 0)); (try (try simp only [show (k47).sz = 5 from rfl, Nat.mul_one, Nat.add_zero] at hf20_0)); (try (clear hcl20 hcc20 hfr20 hM20)))); refine store_event (t := 3) (p := 63) (v := ?vo_w21) (w1 := (w14.setCell ⟨go19, (t180 : Int).toNat * 5, none⟩ (.int .i64 8))) ?hg ?ho ?hn ?hr ?_; (case ho => rfl); (case hg => rfl); (case hn => rfl); (case hr => first | (go_simp; done) | (go_simp; rfl)); intro w21 hw; have hg : w14.grownBy w21 (some go19) := (by rw [hw]; exact HP20.2); have hp_ : Kd.R k47 47 w21 w.heap.size (fun _ => True) (.slice (some ⟨go19, 0, none⟩) t177.length co15) y182 := (by rw [hw, Ny182.out]; exact HP20.1); clear HP20; have n0_ := Aside0.mk (hp_); have n1_ := Aside0.mk ((by rw [hw]; exact below_set (HB.out) GB19.out : Below w.heap.size w w21)); clear HO179; clear HB; have HO179 := n0_; have HB := n1_; clear n0_ n1_; clear hg hw hp_)); try go_wp2_with (first | ((with_reducible refine gate_store (t := 3) (p := 63) rfl ?_); (try (rw [drewN_self w14]; generalize hq_ : World.drewN w14 _ = w14; have n0_ := Aside0.mk (Kd.R_at hq_ HO179.out); have n1_ := Aside0.mk (below_at hq_ HB.out); clear hq_ HO179 HB; have HO179 := n0_; have HB := n1_; clear n0_ n1_; (try (have HX20 := Aside0.mk (show Kd.R k47 47 w14 w.heap.size (fun _ => True) (.slice (some ⟨go19, 0, none⟩) t177.length co15) t177 from (by (with_reducible repeat (first | apply Kd.R_alloc | apply Kd.R_drewN | apply Kd.R_drew)); exact HO179.out)))); (try (obtain ⟨ce20, hcl20, hM20, hcc20, hfr20⟩ := Kd.R_elem HX20.out z47 (t180 : Int) (of_decide_eq_true (by first | (with_reducible assumption) | assumption)) (by have h_ : (t180 : Int) < ((t177.length : Int) : Int) := of_decide_eq_true (by first | (with_reducible assumption) | assumption); first | exact h_ | (have e_ := (Kd.R_reads' HO179.out).1; omega) | simpa using h_))); (try (obtain rfl := k47_openM hM20)); (try (have HP20 := Kd.R_seg HX20.out (t180 : Int) (of_decide_eq_true (by first | (with_reducible assumption) | assumption)) (by have h_ : (t180 : Int) < ((t177.length : Int) : Int) := of_decide_eq_true (by first | (with_reducible assumption) | assumption); first | exact h_ | (have e_ := (Kd.R_reads' HO179.out).1; omega) | simpa using h_) (seg := [.int .i64 8]) (j := 0) hcl20 hcc20 (show 1 ≤ 5 from by decide) (x' := (⟨8, (rd_T47 t177 t180).f1, (rd_T47 t177 t180).f2, (rd_T47 t177 t180).f3, (rd_T47 t177 t180).f4⟩ : S47)) (k47_mkM _ _ _ (⟨8, (rd_T47 t177 t180).f1, (rd_T47 t177 t180).f2, (rd_T47 t177 t180).f3, (rd_T47 t177 t180).f4⟩ : S47) ) (fun _ hk => hk))); (try (have hx20_0 := hcc20 0 _ rfl)); (try (try simp only [show (k47).sz = 5 from rfl, Nat.mul_one, Nat.add_zero] at hx20_0)); (try (have hf20_0 := hfr20 0)); (try (try simp only [show (k47).sz = 5 from rfl, Nat.mul_one, Nat.add_zero] at hf20_0)); (try (clear hcl20 hcc20 hfr20 hM20)))); refine store_event (t := 3) (p := 63) (v := ?vo_w21) (w1 := (w14.setCell ⟨go19, (t180 : Int).toNat * 5, none⟩ (.int .i64 8))) ?hg ?ho ?hn ?hr ?_; (case ho => rfl); (case hg => rfl); (case hn => rfl); (case hr => first | (go_simp; done) | (go_simp; rfl)); intro w21 hw; have hg : w14.grownBy w21 (some go19) := (by rw [hw]; exact HP20.2); have hp_ : Kd.R k47 47 w21 w.heap.size (fun _ => True) (.slice (some ⟨go19, 0, none⟩) t177.length co15) y182 := (by rw [hw, Ny182.out]; exact HP20.1); clear HP20; have n0_ := Aside0.mk (hp_); have n1_ := Aside0.mk ((by rw [hw]; exact below_set (HB.out) GB19.out : Below w.heap.size w w21)); clear HO179; clear HB; have HO179 := n0_; have HB := n1_; clear n0_ n1_; clear hg hw hp_)))
                go_meet
                case rel => exact ⟨_, (y182), (4), (by first | rfl | (simp; done) | (simp [*]; done)), H', ⟨by have := HJ4.out; first | omega | exact Nat.le_refl _⟩, ⟨by (with_reducible repeat (first | apply Kd.R_alloc | apply Kd.R_drewN | apply Kd.R_drew)); exact HO179.out⟩, ⟨by repeat (first | (with_reducible first | exact HB.out | apply below_alloc | apply pw_below_drewN | apply below_drew1) | exact HB.out)⟩⟩
              · rw [if_neg c18] at H
                exact absurd H (by simp)
            · rw [if_neg c17] at H
              exact absurd H (by simp)
          · rw [if_neg c16] at H
            have c16b0 : (t181 == 0) = false := beq_eq_false_iff_ne.mpr c16
            have c16b1 : (t181 != 0) = true := bne_iff_ne.mpr c16
            (first | rw [c16b0] | (simp only [i64_w, i32_w, Go.IntKind.wrap_u32]; rw [c16b0]) | skip)
            by_cases c22 : t181 = 1
            · rw [if_pos c22] at H
              have c22b0 : (t181 == 1) = true := beq_iff_eq.mpr c22
              have c22b1 : (t181 != 1) = false := bne_eq_false_iff_eq.mpr c22
              clear c22
              by_cases c23 : 0 ≤ t180
              · rw [if_pos c23] at H
                have c23b0 : decide (0 ≤ t180) = true := decide_eq_true c23
                clear c23
                by_cases c24 : t180 < (t177.length : Int)
                · rw [if_pos c24] at H
                  have c24b0 : decide (t180 < (t177.length : Int)) = true := decide_eq_true c24
                  clear c24
                  obtain ⟨y183, hy183⟩ : ∃ y_ : List (S47), y_ = (t177.set (t180 : Int).toNat (⟨(-1), (rd_T47 t177 t180).f1, (rd_T47 t177 t180).f2, (rd_T47 t177 t180).f3, (rd_T47 t177 t180).f4⟩ : S47)) := ⟨_, rfl⟩
                  replace H : (hatstandlaw14_HistorySpoils.j1 kj4 y183 t180 4) = some r := by first | (rw [hy183]; with_reducible exact H) | (have H2_ := (Option.bind_some _ _).symm.trans H; rw [hy183]; with_reducible exact H2_) | (have H2_ := (Option.bind_some _ _).symm.trans H; with_reducible exact H2_) | with_reducible exact H | (rw [hy183]; exact H) | exact H
                  have Ny183 := Aside0.mk hy183
                  clear hy183
                  have H' := Aside0.mk H
                  clear H
                  have p25 : 0 ≤ (t180 : Int) := of_decide_eq_true (by first | (with_reducible assumption) | assumption)
                  have q25 : (t180 : Int) < ((t177.length : Int) : Int) := of_decide_eq_true (by first | (with_reducible assumption) | assumption)
                  obtain ⟨go25, co25, eo25, gb25, gl25, cl25, HG25⟩ := Kd.R_form HO179.out (by omega)
                  (first | cases eo25 | (injection eo25 with ea_ en_ ec_; (first | subst ea_ | (injection ea_ with ea_; subst ea_)); subst ec_; clear en_))
                  have GB25 := Aside0.mk gb25
                  have GG25 := Aside0.mk HG25
                  clear gb25 gl25 HG25
                  obtain ⟨ce25, hcl25, hM25, hcc25, hfr25⟩ := Kd.R_elem HO179.out z47 (t180 : Int) p25 q25
                  obtain rfl := k47_openM hM25
                  have hx25_0 : w14.cell? ⟨go25, (t180 : Int).toNat * 5, none⟩ = some (.int .i64 ((rd_T47 t177 t180).f0)) := hcc25 0 _ rfl
                  have hx25_1 : w14.cell? ⟨go25, (t180 : Int).toNat * 5 + 1, none⟩ = some (.bool ((rd_T47 t177 t180).f1)) := hcc25 1 _ rfl
                  have hx25_2 : w14.cell? ⟨go25, (t180 : Int).toNat * 5 + 2, none⟩ = some (.bool ((rd_T47 t177 t180).f2)) := hcc25 2 _ rfl
                  have hx25_3 : w14.cell? ⟨go25, (t180 : Int).toNat * 5 + 3, none⟩ = some (.int .u64 ((rd_T47 t177 t180).f3)) := hcc25 3 _ rfl
                  have hx25_4 : w14.cell? ⟨go25, (t180 : Int).toNat * 5 + 4, none⟩ = some (.int .i64 ((rd_T47 t177 t180).f4)) := hcc25 4 _ rfl
                  have hf25_0 : w14.frozen? ⟨go25, (t180 : Int).toNat * 5, none⟩ = false := hfr25 0
                  have hf25_1 : w14.frozen? ⟨go25, (t180 : Int).toNat * 5 + 1, none⟩ = false := hfr25 1
                  have hf25_2 : w14.frozen? ⟨go25, (t180 : Int).toNat * 5 + 2, none⟩ = false := hfr25 2
                  have hf25_3 : w14.frozen? ⟨go25, (t180 : Int).toNat * 5 + 3, none⟩ = false := hfr25 3
                  have hf25_4 : w14.frozen? ⟨go25, (t180 : Int).toNat * 5 + 4, none⟩ = false := hfr25 4
                  clear hcl25 hcc25 hfr25 hM25
                  replace p25 := eq_true p25
                  replace q25 := eq_true q25
                  have HX26 := Aside0.mk (show Kd.R k47 47 w14 w.heap.size (fun _ => True) (.slice (some ⟨go25, 0, none⟩) t177.length co15) t177 from (by (with_reducible repeat (first | apply Kd.R_alloc | apply Kd.R_drewN | apply Kd.R_drew)); exact HO179.out))
                  obtain ⟨ce26, hcl26, hM26, hcc26, hfr26⟩ := Kd.R_elem HX26.out z47 (t180 : Int) (of_decide_eq_true (by first | (with_reducible assumption) | assumption)) (by have h_ : (t180 : Int) < ((t177.length : Int) : Int) := of_decide_eq_true (by first | (with_reducible assumption) | assumption); first | exact h_ | (have e_ := (Kd.R_reads' HO179.out).1; omega) | simpa using h_)
                  obtain rfl := k47_openM hM26
                  have HP26 := Kd.R_seg HX26.out (t180 : Int) (of_decide_eq_true (by first | (with_reducible assumption) | assumption)) (by have h_ : (t180 : Int) < ((t177.length : Int) : Int) := of_decide_eq_true (by first | (with_reducible assumption) | assumption); first | exact h_ | (have e_ := (Kd.R_reads' HO179.out).1; omega) | simpa using h_) (seg := [.int .i64 (-1)]) (j := 0) hcl26 hcc26 (show 1 ≤ 5 from by decide) (x' := (⟨(-1), (rd_T47 t177 t180).f1, (rd_T47 t177 t180).f2, (rd_T47 t177 t180).f3, (rd_T47 t177 t180).f4⟩ : S47)) (k47_mkM _ _ _ (⟨(-1), (rd_T47 t177 t180).f1, (rd_T47 t177 t180).f2, (rd_T47 t177 t180).f3, (rd_T47 t177 t180).f4⟩ : S47) ) (fun _ hk => hk)
                  have hx26_0 := hcc26 0 _ rfl
                  (try simp only [show (k47).sz = 5 from rfl, Nat.mul_one, Nat.add_zero] at hx26_0)
                  have hf26_0 := hfr26 0
                  (try simp only [show (k47).sz = 5 from rfl, Nat.mul_one, Nat.add_zero] at hf26_0)
                  clear hcl26 hcc26 hfr26 hM26
                  go_wp2_with (first | ((with_reducible refine gate_store (t := 3) (p := 69) rfl ?_); (try (rw [drewN_self w14]; generalize hq_ : World.drewN w14 _ = w14; have n0_ := Aside0.mk (Kd.R_at hq_ HO179.out); have n1_ := Aside0.mk (below_at hq_ HB.out); clear hq_ HO179 HB; have HO179 := n0_; have HB := n1_; clear n0_ n1_; (try (have HX26 := Aside0.mk (show Kd.R k47 47 w14 w.heap.size (fun _ => True) (.slice (some ⟨go25, 0, none⟩) t177.length co15) t177 from (by (with_reducible repeat (first | apply Kd.R_alloc | apply Kd.R_drewN | apply Kd.R_drew)); exact HO179.out)))); (try (obtain ⟨ce26, hcl26, hM26, hcc26, hfr26⟩ := Kd.R_elem HX26.out z47 (t180 : Int) (of_decide_eq_true (by first | (with_reducible assumption) | assumption)) (by have h_ : (t180 : Int) < ((t177.length : Int) : Int) := of_decide_eq_true (by first | (with_reducible assumption) | assumption); first | exact h_ | (have e_ := (Kd.R_reads' HO179.out).1; omega) | simpa using h_))); (try (obtain rfl := k47_openM hM26)); (try (have HP26 := Kd.R_seg HX26.out (t180 : Int) (of_decide_eq_true (by first | (with_reducible assumption) | assumption)) (by have h_ : (t180 : Int) < ((t177.length : Int) : Int) := of_decide_eq_true (by first | (with_reducible assumption) | assumption); first | exact h_ | (have e_ := (Kd.R_reads' HO179.out).1; omega) | simpa using h_) (seg := [.int .i64 (-1)]) (j := 0) hcl26 hcc26 (show 1 ≤ 5 from by decide) (x' := (⟨(-1), (rd_T47 t177 t180).f1, (rd_T47 t177 t180).f2, (rd_T47 t177 t180).f3, (rd_T47 t177 t180).f4⟩ : S47)) (k47_mkM _ _ _ (⟨(-1), (rd_T47 t177 t180).f1, (rd_T47 t177 t180).f2, (rd_T47 t177 t180).f3, (rd_T47 t177 t180).f4⟩ : S47) ) (fun _ hk => hk))); (try (have hx26_0 := hcc26 0 _ rfl)); (try (try simp only [show (k47).sz = 5 from rfl, Nat.mul_one, Nat.add_zero] at hx26_0)); (try (have hf26_0 := hfr26 0)); (try (try simp only [show (k47).sz = 5 from rfl, Nat.mul_one, Nat.add_zero] at hf26_0)); (try (clear hcl26 hcc26 hfr26 hM26)))); refine store_event (t := 3) (p := 69) (v := ?vo_w27) (w1 := (w14.setCell ⟨go25, (t180 : Int).toNat * 5, none⟩ (.int .i64 (-1)))) ?hg ?ho ?hn ?hr ?_; (case ho => rfl); (case hg => rfl); (case hn => rfl); (case hr => first | (go_simp; done) | (go_simp; rfl)); intro w27 hw; have hg : w14.grownBy w27 (some go25) := (by rw [hw]; exact HP26.2); have hp_ : Kd.R k47 47 w27 w.heap.size (fun _ => True) (.slice (some ⟨go25, 0, none⟩) t177.length co15) y183 := (by rw [hw, Ny183.out]; exact HP26.1); clear HP26; have n0_ := Aside0.mk (hp_); have n1_ := Aside0.mk ((by rw [hw]; exact below_set (HB.out) GB25.out : Below w.heap.size w w27)); clear HO179; clear HB; have HO179 := n0_; have HB := n1_; clear n0_ n1_; clear hg hw hp_))
                  repeat (go_quiet (first | ((with_reducible refine gate_store (t := 3) (p := 69) rfl ?_); (try (rw [drewN_self w14]; generalize hq_ : World.drewN w14 _ = w14; have n0_ := Aside0.mk (Kd.R_at hq_ HO179.out); have n1_ := Aside0.mk (below_at hq_ HB.out); clear hq_ HO179 HB; have HO179 := n0_; have HB := n1_; clear n0_ n1_; (try (have HX26 := Aside0.mk (show Kd.R k47 47 w14 w.heap.size (fun _ => True) (.slice (some ⟨go25, 0, none⟩) t177.length co15) t177 from (by (with_reducible repeat (first | apply Kd.R_alloc | apply Kd.R_drewN | apply Kd.R_drew)); exact HO179.out)))); (try (obtain ⟨ce26, hcl26, hM26, hcc26, hfr26⟩ := Kd.R_elem HX26.out z47 (t180 : Int) (of_decide_eq_true (by first | (with_reducible assumption) | assumption)) (by have h_ : (t180 : Int) < ((t177.length : Int) : Int) := of_decide_eq_true (by first | (with_reducible assumption) | assumption); first | exact h_ | (have e_ := (Kd.R_reads' HO179.out).1; omega) | simpa using h_))); (try (obtain rfl := k47_openM hM26)); (try (have HP26 := Kd.R_seg HX26.out (t180 : Int) (of_decide_eq_true (by first | (with_reducible assumption) | assumption)) (by have h_ : (t180 : Int) < ((t177.length : Int) : Int) := of_decide_eq_true (by first | (with_reducible assumption) | assumption); first | exact h_ | (have e_ := (Kd.R_reads' HO179.out).1; omega) | simpa using h_) (seg := [.int .i64 (-1)]) (j := 0) hcl26 hcc26 (show 1 ≤ 5 from by decide) (x' := (⟨(-1), (rd_T47 t177 t180).f1, (rd_T47 t177 t180).f2, (rd_T47 t177 t180).f3, (rd_T47 t177 t180).f4⟩ : S47)) (k47_mkM _ _ _ (⟨(-1), (rd_T47 t177 t180).f1, (rd_T47 t177 t180).f2, (rd_T47 t177 t180).f3, (rd_T47 t177 t180).f4⟩ : S47) ) (fun _ hk => hk))); (try (have hx26_0 := hcc26 0 _ rfl)); (try (try simp only [show (k47).sz = 5 from rfl, Nat.mul_one, Nat.add_zero] at hx26_0)); (try (have hf26_0 := hfr26 0)); (try (try simp only [show (k47).sz = 5 from rfl, Nat.mul_one, Nat.add_zero] at hf26_0)); (try (clear hcl26 hcc26 hfr26 hM26)))); refine store_event (t := 3) (p := 69) (v := ?vo_w27) (w1 := (w14.setCell ⟨go25, (t180 : Int).toNat * 5, none⟩ (.int .i64 (-1)))) ?hg ?ho ?hn ?hr ?_; (case ho => rfl); (case hg => rfl); (case hn => rfl); (case hr => first | (go_simp; done) | (go_simp; rfl)); intro w27 hw; have hg : w14.grownBy w27 (some go25) := (by rw [hw]; exact HP26.2); have hp_ : Kd.R k47 47 w27 w.heap.size (fun _ => True) (.slice (some ⟨go25, 0, none⟩) t177.length co15) y183 := (by rw [hw, Ny183.out]; exact HP26.1); clear HP26; have n0_ := Aside0.mk (hp_); have n1_ := Aside0.mk ((by rw [hw]; exact below_set (HB.out) GB25.out : Below w.heap.size w w27)); clear HO179; clear HB; have HO179 := n0_; have HB := n1_; clear n0_ n1_; clear hg hw hp_)); try go_wp2_with (first | ((with_reducible refine gate_store (t := 3) (p := 69) rfl ?_); (try (rw [drewN_self w14]; generalize hq_ : World.drewN w14 _ = w14; have n0_ := Aside0.mk (Kd.R_at hq_ HO179.out); have n1_ := Aside0.mk (below_at hq_ HB.out); clear hq_ HO179 HB; have HO179 := n0_; have HB := n1_; clear n0_ n1_; (try (have HX26 := Aside0.mk (show Kd.R k47 47 w14 w.heap.size (fun _ => True) (.slice (some ⟨go25, 0, none⟩) t177.length co15) t177 from (by (with_reducible repeat (first | apply Kd.R_alloc | apply Kd.R_drewN | apply Kd.R_drew)); exact HO179.out)))); (try (obtain ⟨ce26, hcl26, hM26, hcc26, hfr26⟩ := Kd.R_elem HX26.out z47 (t180 : Int) (of_decide_eq_true (by first | (with_reducible assumption) | assumption)) (by have h_ : (t180 : Int) < ((t177.length : Int) : Int) := of_decide_eq_true (by first | (with_reducible assumption) | assumption); first | exact h_ | (have e_ := (Kd.R_reads' HO179.out).1; omega) | simpa using h_))); (try (obtain rfl := k47_openM hM26)); (try (have HP26 := Kd.R_seg HX26.out (t180 : Int) (of_decide_eq_true (by first | (with_reducible assumption) | assumption)) (by have h_ : (t180 : Int) < ((t177.length : Int) : Int) := of_decide_eq_true (by first | (with_reducible assumption) | assumption); first | exact h_ | (have e_ := (Kd.R_reads' HO179.out).1; omega) | simpa using h_) (seg := [.int .i64 (-1)]) (j := 0) hcl26 hcc26 (show 1 ≤ 5 from by decide) (x' := (⟨(-1), (rd_T47 t177 t180).f1, (rd_T47 t177 t180).f2, (rd_T47 t177 t180).f3, (rd_T47 t177 t180).f4⟩ : S47)) (k47_mkM _ _ _ (⟨(-1), (rd_T47 t177 t180).f1, (rd_T47 t177 t180).f2, (rd_T47 t177 t180).f3, (rd_T47 t177 t180).f4⟩ : S47) ) (fun _ hk => hk))); (try (have hx26_0 := hcc26 0 _ rfl)); (try (try simp only [show (k47).sz = 5 from rfl, Nat.mul_one, Nat.add_zero] at hx26_0)); (try (have hf26_0 := hfr26 0)); (try (try simp only [show (k47).sz = 5 from rfl, Nat.mul_one, Nat.add_zero] at hf26_0)); (try (clear hcl26 hcc26 hfr26 hM26)))); refine store_event (t := 3) (p := 69) (v := ?vo_w27) (w1 := (w14.setCell ⟨go25, (t180 : Int).toNat * 5, none⟩ (.int .i64 (-1)))) ?hg ?ho ?hn ?hr ?_; (case ho => rfl); (case hg => rfl); (case hn => rfl); (case hr => first | (go_simp; done) | (go_simp; rfl)); intro w27 hw; have hg : w14.grownBy w27 (some go25) := (by rw [hw]; exact HP26.2); have hp_ : Kd.R k47 47 w27 w.heap.size (fun _ => True) (.slice (some ⟨go25, 0, none⟩) t177.length co15) y183 := (by rw [hw, Ny183.out]; exact HP26.1); clear HP26; have n0_ := Aside0.mk (hp_); have n1_ := Aside0.mk ((by rw [hw]; exact below_set (HB.out) GB25.out : Below w.heap.size w w27)); clear HO179; clear HB; have HO179 := n0_; have HB := n1_; clear n0_ n1_; clear hg hw hp_)))
                  go_meet
                  case rel => exact ⟨_, (y183), (4), (by first | rfl | (simp; done) | (simp [*]; done)), H', ⟨by have := HJ4.out; first | omega | exact Nat.le_refl _⟩, ⟨by (with_reducible repeat (first | apply Kd.R_alloc | apply Kd.R_drewN | apply Kd.R_drew)); exact HO179.out⟩, ⟨by repeat (first | (with_reducible first | exact HB.out | apply below_alloc | apply pw_below_drewN | apply below_drew1) | exact HB.out)⟩⟩
                · rw [if_neg c24] at H
                  exact absurd H (by simp)
              · rw [if_neg c23] at H
                exact absurd H (by simp)
            · rw [if_neg c22] at H
              have c22b0 : (t181 == 1) = false := beq_eq_false_iff_ne.mpr c22
              have c22b1 : (t181 != 1) = true := bne_iff_ne.mpr c22
              by_cases c28 : t181 = 2
              · rw [if_pos c28] at H
                have c28b0 : (t181 == 2) = true := beq_iff_eq.mpr c28
                have c28b1 : (t181 != 2) = false := bne_eq_false_iff_eq.mpr c28
                clear c28
                by_cases c29 : 0 ≤ t180
                · rw [if_pos c29] at H
                  have c29b0 : decide (0 ≤ t180) = true := decide_eq_true c29
                  clear c29
                  by_cases c30 : t180 < (t177.length : Int)
                  · rw [if_pos c30] at H
                    have c30b0 : decide (t180 < (t177.length : Int)) = true := decide_eq_true c30
                    clear c30
                    obtain ⟨y185, hy185⟩ : ∃ y_ : List (S47), y_ = (t177.set (t180 : Int).toNat (⟨(rd_T47 t177 t180).f0, !((rd_T47 t177 t180).f1), (rd_T47 t177 t180).f2, (rd_T47 t177 t180).f3, (rd_T47 t177 t180).f4⟩ : S47)) := ⟨_, rfl⟩
                    replace H : (if (rd_T47 y185 t180).f1 = true then (hatstandlaw14_HistorySpoils.j1 kj4 y185 t180 6) else (hatstandlaw14_HistorySpoils.j1 kj4 y185 t180 5)) = some r := by first | (rw [hy185]; with_reducible exact H) | (have H2_ := (Option.bind_some _ _).symm.trans H; rw [hy185]; with_reducible exact H2_) | (have H2_ := (Option.bind_some _ _).symm.trans H; with_reducible exact H2_) | with_reducible exact H | (rw [hy185]; exact H) | exact H
                    have Ny185 := Aside0.mk hy185
                    clear hy185
                    obtain ⟨bq32, hbq32⟩ : ∃ b_ : Bool, b_ = ((rd_T47 y185 t180).f1) := ⟨_, rfl⟩
                    replace H : (if bq32 = true then (hatstandlaw14_HistorySpoils.j1 kj4 y185 t180 6) else (hatstandlaw14_HistorySpoils.j1 kj4 y185 t180 5)) = some r := by rw [← hbq32] at H; exact H
                    have Nbq32 := Aside0.mk hbq32
                    clear hbq32
                    by_cases c33 : bq32 = true
                    · subst c33
                      have H1 : (hatstandlaw14_HistorySpoils.j1 kj4 y185 t180 6) = some r := by rw [if_pos rfl] at H; exact H
                      clear H
                      have H := H1
                      clear H1
                      have H' := Aside0.mk H
                      clear H
                      have p184 : 0 ≤ (t180 : Int) := of_decide_eq_true (by first | (with_reducible assumption) | assumption)
                      have q184 : t180 < (t177.length : Int) := of_decide_eq_true (by first | (with_reducible assumption) | assumption)
                      obtain ⟨ad184, e184, hx184_0, hx184_1, hx184_2, hx184_3, hx184_4⟩ := at_T47 (Kd.R_reads' HO179.out).2.2 t180 p184 q184
                      (try rw [← Nbq32.out] at hx184_1)
                      (try rw [← Nbq32.out] at hw184_1)
                      (try rw [← Nbq32.out] at hx184_2)
                      (try rw [← Nbq32.out] at hw184_2)
                      cases e184
                      replace p184 := eq_true p184
                      replace q184 := eq_true q184
                      have p31 : 0 ≤ (t180 : Int) := of_decide_eq_true (by first | (with_reducible assumption) | assumption)
                      have q31 : (t180 : Int) < ((t177.length : Int) : Int) := of_decide_eq_true (by first | (with_reducible assumption) | assumption)
                      obtain ⟨go31, co31, eo31, gb31, gl31, cl31, HG31⟩ := Kd.R_form HO179.out (by omega)
                      (first | cases eo31 | (injection eo31 with ea_ en_ ec_; (first | subst ea_ | (injection ea_ with ea_; subst ea_)); subst ec_; clear en_))
                      have GB31 := Aside0.mk gb31
                      have GG31 := Aside0.mk HG31
                      clear gb31 gl31 HG31
                      (first | simp only [add_plain] at hx184_0 | skip)
                      (first | simp only [add_plain] at hx184_1 | skip)
                      (first | simp only [add_plain] at hx184_2 | skip)
                      (first | simp only [add_plain] at hx184_3 | skip)
                      (first | simp only [add_plain] at hx184_4 | skip)
                      obtain ⟨ce31, hcl31, hM31, hcc31, hfr31⟩ := Kd.R_elem HO179.out z47 (t180 : Int) p31 q31
                      obtain rfl := k47_openM hM31
                      have hx31_0 : w14.cell? ⟨go31, (t180 : Int).toNat * 5, none⟩ = some (.int .i64 ((rd_T47 t177 t180).f0)) := hcc31 0 _ rfl
                      have hx31_1 : w14.cell? ⟨go31, (t180 : Int).toNat * 5 + 1, none⟩ = some (.bool ((rd_T47 t177 t180).f1)) := hcc31 1 _ rfl
                      have hx31_2 : w14.cell? ⟨go31, (t180 : Int).toNat * 5 + 2, none⟩ = some (.bool ((rd_T47 t177 t180).f2)) := hcc31 2 _ rfl
                      have hx31_3 : w14.cell? ⟨go31, (t180 : Int).toNat * 5 + 3, none⟩ = some (.int .u64 ((rd_T47 t177 t180).f3)) := hcc31 3 _ rfl
                      have hx31_4 : w14.cell? ⟨go31, (t180 : Int).toNat * 5 + 4, none⟩ = some (.int .i64 ((rd_T47 t177 t180).f4)) := hcc31 4 _ rfl
                      have hf31_0 : w14.frozen? ⟨go31, (t180 : Int).toNat * 5, none⟩ = false := hfr31 0
                      have hf31_1 : w14.frozen? ⟨go31, (t180 : Int).toNat * 5 + 1, none⟩ = false := hfr31 1
                      have hf31_2 : w14.frozen? ⟨go31, (t180 : Int).toNat * 5 + 2, none⟩ = false := hfr31 2
                      have hf31_3 : w14.frozen? ⟨go31, (t180 : Int).toNat * 5 + 3, none⟩ = false := hfr31 3
                      have hf31_4 : w14.frozen? ⟨go31, (t180 : Int).toNat * 5 + 4, none⟩ = false := hfr31 4
                      clear hcl31 hcc31 hfr31 hM31
                      replace p31 := eq_true p31
                      replace q31 := eq_true q31
                      have HX34 := Aside0.mk (show Kd.R k47 47 w14 w.heap.size (fun _ => True) (.slice (some ⟨go31, 0, none⟩) t177.length co15) t177 from (by (with_reducible repeat (first | apply Kd.R_alloc | apply Kd.R_drewN | apply Kd.R_drew)); exact HO179.out))
                      obtain ⟨ce34, hcl34, hM34, hcc34, hfr34⟩ := Kd.R_elem HX34.out z47 (t180 : Int) (of_decide_eq_true (by first | (with_reducible assumption) | assumption)) (by have h_ : (t180 : Int) < ((t177.length : Int) : Int) := of_decide_eq_true (by first | (with_reducible assumption) | assumption); first | exact h_ | (have e_ := (Kd.R_reads' HO179.out).1; omega) | simpa using h_)
                      obtain rfl := k47_openM hM34
                      have HP34 := Kd.R_seg HX34.out (t180 : Int) (of_decide_eq_true (by first | (with_reducible assumption) | assumption)) (by have h_ : (t180 : Int) < ((t177.length : Int) : Int) := of_decide_eq_true (by first | (with_reducible assumption) | assumption); first | exact h_ | (have e_ := (Kd.R_reads' HO179.out).1; omega) | simpa using h_) (seg := [.bool (!((rd_T47 t177 t180).f1))]) (j := 1) hcl34 hcc34 (show 2 ≤ 5 from by decide) (x' := (⟨(rd_T47 t177 t180).f0, !((rd_T47 t177 t180).f1), (rd_T47 t177 t180).f2, (rd_T47 t177 t180).f3, (rd_T47 t177 t180).f4⟩ : S47)) (k47_mkM _ _ _ (⟨(rd_T47 t177 t180).f0, !((rd_T47 t177 t180).f1), (rd_T47 t177 t180).f2, (rd_T47 t177 t180).f3, (rd_T47 t177 t180).f4⟩ : S47) ) (fun _ hk => hk)
                      have hx34_1 := hcc34 1 _ rfl
                      (try simp only [show (k47).sz = 5 from rfl, Nat.mul_one, Nat.add_zero] at hx34_1)
                      have hf34_1 := hfr34 1
                      (try simp only [show (k47).sz = 5 from rfl, Nat.mul_one, Nat.add_zero] at hf34_1)
                      clear hcl34 hcc34 hfr34 hM34
                      go_wp2_with (first | ((with_reducible refine gate_store (t := 4) (p := 81) rfl ?_); (try (rw [drewN_self w14]; generalize hq_ : World.drewN w14 _ = w14; have n0_ := Aside0.mk (Kd.R_at hq_ HO179.out); have n1_ := Aside0.mk (below_at hq_ HB.out); clear hq_ HO179 HB; have HO179 := n0_; have HB := n1_; clear n0_ n1_; (try (have HX34 := Aside0.mk (show Kd.R k47 47 w14 w.heap.size (fun _ => True) (.slice (some ⟨go31, 0, none⟩) t177.length co15) t177 from (by (with_reducible repeat (first | apply Kd.R_alloc | apply Kd.R_drewN | apply Kd.R_drew)); exact HO179.out)))); (try (obtain ⟨ce34, hcl34, hM34, hcc34, hfr34⟩ := Kd.R_elem HX34.out z47 (t180 : Int) (of_decide_eq_true (by first | (with_reducible assumption) | assumption)) (by have h_ : (t180 : Int) < ((t177.length : Int) : Int) := of_decide_eq_true (by first | (with_reducible assumption) | assumption); first | exact h_ | (have e_ := (Kd.R_reads' HO179.out).1; omega) | simpa using h_))); (try (obtain rfl := k47_openM hM34)); (try (have HP34 := Kd.R_seg HX34.out (t180 : Int) (of_decide_eq_true (by first | (with_reducible assumption) | assumption)) (by have h_ : (t180 : Int) < ((t177.length : Int) : Int) := of_decide_eq_true (by first | (with_reducible assumption) | assumption); first | exact h_ | (have e_ := (Kd.R_reads' HO179.out).1; omega) | simpa using h_) (seg := [.bool (!((rd_T47 t177 t180).f1))]) (j := 1) hcl34 hcc34 (show 2 ≤ 5 from by decide) (x' := (⟨(rd_T47 t177 t180).f0, !((rd_T47 t177 t180).f1), (rd_T47 t177 t180).f2, (rd_T47 t177 t180).f3, (rd_T47 t177 t180).f4⟩ : S47)) (k47_mkM _ _ _ (⟨(rd_T47 t177 t180).f0, !((rd_T47 t177 t180).f1), (rd_T47 t177 t180).f2, (rd_T47 t177 t180).f3, (rd_T47 t177 t180).f4⟩ : S47) ) (fun _ hk => hk))); (try (have hx34_1 := hcc34 1 _ rfl)); (try (try simp only [show (k47).sz = 5 from rfl, Nat.mul_one, Nat.add_zero] at hx34_1)); (try (have hf34_1 := hfr34 1)); (try (try simp only [show (k47).sz = 5 from rfl, Nat.mul_one, Nat.add_zero] at hf34_1)); (try (clear hcl34 hcc34 hfr34 hM34)))); refine store_event (t := 4) (p := 81) (v := ?vo_w35) (w1 := (w14.setCell ⟨go31, (t180 : Int).toNat * 5 + 1, none⟩ (.bool (!((rd_T47 t177 t180).f1))))) ?hg ?ho ?hn ?hr ?_; (case ho => rfl); (case hg => rfl); (case hn => rfl); (case hr => first | (go_simp; done) | (go_simp; rfl)); intro w35 hw; have hg : w14.grownBy w35 (some go31) := (by rw [hw]; exact HP34.2); have hp_ : Kd.R k47 47 w35 w.heap.size (fun _ => True) (.slice (some ⟨go31, 0, none⟩) t177.length co15) y185 := (by rw [hw, Ny185.out]; exact HP34.1); clear HP34; have n0_ := Aside0.mk (hp_); have n1_ := Aside0.mk ((by rw [hw]; exact below_set (HB.out) GB31.out : Below w.heap.size w w35)); clear HO179; clear HB; have HO179 := n0_; have HB := n1_; clear n0_ n1_; clear hg hw hp_; have p186 : 0 ≤ (t180 : Int) := of_decide_eq_true (by first | (with_reducible assumption) | assumption); have q186 : t180 < (y185.length : Int) := (by have h_ : (t180 : Int) < ((t177.length : Int) : Int) := of_decide_eq_true (by first | (with_reducible assumption) | assumption); first | (have e_ := (Kd.R_reads' HO179.out).1; omega) | simpa only [Ny185.out, List.length_set] using h_); have ql186 : ((t180 : Int) < ((t177.length : Int) : Int)) = True := eq_true (of_decide_eq_true (by first | (with_reducible assumption) | assumption)); obtain ⟨ad186, e186, hx186_0, hx186_1, hx186_2, hx186_3, hx186_4⟩ := at_T47 (Kd.R_reads' HO179.out).2.2 t180 p186 q186; (try rw [← Nbq32.out] at hx186_1); (try rw [← Nbq32.out] at hw186_1); (try rw [← Nbq32.out] at hx186_2); (try rw [← Nbq32.out] at hw186_2); obtain rfl : (⟨go31, 0, none⟩ : Addr) = ad186 := (by injection e186); (first | simp only [add_plain] at hx186_0 | simp only [add_at] at hx186_0 | simp only [Addr.add, Nat.zero_add] at hx186_0 | skip); (first | simp only [add_plain] at hx186_1 | simp only [add_at] at hx186_1 | simp only [Addr.add, Nat.zero_add] at hx186_1 | skip); (first | simp only [add_plain] at hx186_2 | simp only [add_at] at hx186_2 | simp only [Addr.add, Nat.zero_add] at hx186_2 | skip); (first | simp only [add_plain] at hx186_3 | simp only [add_at] at hx186_3 | simp only [Addr.add, Nat.zero_add] at hx186_3 | skip); (first | simp only [add_plain] at hx186_4 | simp only [add_at] at hx186_4 | simp only [Addr.add, Nat.zero_add] at hx186_4 | skip); replace p186 := eq_true p186; replace q186 := eq_true q186))
                      repeat (go_quiet (first | ((with_reducible refine gate_store (t := 4) (p := 81) rfl ?_); (try (rw [drewN_self w14]; generalize hq_ : World.drewN w14 _ = w14; have n0_ := Aside0.mk (Kd.R_at hq_ HO179.out); have n1_ := Aside0.mk (below_at hq_ HB.out); clear hq_ HO179 HB; have HO179 := n0_; have HB := n1_; clear n0_ n1_; (try (have HX34 := Aside0.mk (show Kd.R k47 47 w14 w.heap.size (fun _ => True) (.slice (some ⟨go31, 0, none⟩) t177.length co15) t177 from (by (with_reducible repeat (first | apply Kd.R_alloc | apply Kd.R_drewN | apply Kd.R_drew)); exact HO179.out)))); (try (obtain ⟨ce34, hcl34, hM34, hcc34, hfr34⟩ := Kd.R_elem HX34.out z47 (t180 : Int) (of_decide_eq_true (by first | (with_reducible assumption) | assumption)) (by have h_ : (t180 : Int) < ((t177.length : Int) : Int) := of_decide_eq_true (by first | (with_reducible assumption) | assumption); first | exact h_ | (have e_ := (Kd.R_reads' HO179.out).1; omega) | simpa using h_))); (try (obtain rfl := k47_openM hM34)); (try (have HP34 := Kd.R_seg HX34.out (t180 : Int) (of_decide_eq_true (by first | (with_reducible assumption) | assumption)) (by have h_ : (t180 : Int) < ((t177.length : Int) : Int) := of_decide_eq_true (by first | (with_reducible assumption) | assumption); first | exact h_ | (have e_ := (Kd.R_reads' HO179.out).1; omega) | simpa using h_) (seg := [.bool (!((rd_T47 t177 t180).f1))]) (j := 1) hcl34 hcc34 (show 2 ≤ 5 from by decide) (x' := (⟨(rd_T47 t177 t180).f0, !((rd_T47 t177 t180).f1), (rd_T47 t177 t180).f2, (rd_T47 t177 t180).f3, (rd_T47 t177 t180).f4⟩ : S47)) (k47_mkM _ _ _ (⟨(rd_T47 t177 t180).f0, !((rd_T47 t177 t180).f1), (rd_T47 t177 t180).f2, (rd_T47 t177 t180).f3, (rd_T47 t177 t180).f4⟩ : S47) ) (fun _ hk => hk))); (try (have hx34_1 := hcc34 1 _ rfl)); (try (try simp only [show (k47).sz = 5 from rfl, Nat.mul_one, Nat.add_zero] at hx34_1)); (try (have hf34_1 := hfr34 1)); (try (try simp only [show (k47).sz = 5 from rfl, Nat.mul_one, Nat.add_zero] at hf34_1)); (try (clear hcl34 hcc34 hfr34 hM34)))); refine store_event (t := 4) (p := 81) (v := ?vo_w35) (w1 := (w14.setCell ⟨go31, (t180 : Int).toNat * 5 + 1, none⟩ (.bool (!((rd_T47 t177 t180).f1))))) ?hg ?ho ?hn ?hr ?_; (case ho => rfl); (case hg => rfl); (case hn => rfl); (case hr => first | (go_simp; done) | (go_simp; rfl)); intro w35 hw; have hg : w14.grownBy w35 (some go31) := (by rw [hw]; exact HP34.2); have hp_ : Kd.R k47 47 w35 w.heap.size (fun _ => True) (.slice (some ⟨go31, 0, none⟩) t177.length co15) y185 := (by rw [hw, Ny185.out]; exact HP34.1); clear HP34; have n0_ := Aside0.mk (hp_); have n1_ := Aside0.mk ((by rw [hw]; exact below_set (HB.out) GB31.out : Below w.heap.size w w35)); clear HO179; clear HB; have HO179 := n0_; have HB := n1_; clear n0_ n1_; clear hg hw hp_; have p186 : 0 ≤ (t180 : Int) := of_decide_eq_true (by first | (with_reducible assumption) | assumption); have q186 : t180 < (y185.length : Int) := (by have h_ : (t180 : Int) < ((t177.length : Int) : Int) := of_decide_eq_true (by first | (with_reducible assumption) | assumption); first | (have e_ := (Kd.R_reads' HO179.out).1; omega) | simpa only [Ny185.out, List.length_set] using h_); have ql186 : ((t180 : Int) < ((t177.length : Int) : Int)) = True := eq_true (of_decide_eq_true (by first | (with_reducible assumption) | assumption)); obtain ⟨ad186, e186, hx186_0, hx186_1, hx186_2, hx186_3, hx186_4⟩ := at_T47 (Kd.R_reads' HO179.out).2.2 t180 p186 q186; (try rw [← Nbq32.out] at hx186_1); (try rw [← Nbq32.out] at hw186_1); (try rw [← Nbq32.out] at hx186_2); (try rw [← Nbq32.out] at hw186_2); obtain rfl : (⟨go31, 0, none⟩ : Addr) = ad186 := (by injection e186); (first | simp only [add_plain] at hx186_0 | simp only [add_at] at hx186_0 | simp only [Addr.add, Nat.zero_add] at hx186_0 | skip); (first | simp only [add_plain] at hx186_1 | simp only [add_at] at hx186_1 | simp only [Addr.add, Nat.zero_add] at hx186_1 | skip); (first | simp only [add_plain] at hx186_2 | simp only [add_at] at hx186_2 | simp only [Addr.add, Nat.zero_add] at hx186_2 | skip); (first | simp only [add_plain] at hx186_3 | simp only [add_at] at hx186_3 | simp only [Addr.add, Nat.zero_add] at hx186_3 | skip); (first | simp only [add_plain] at hx186_4 | simp only [add_at] at hx186_4 | simp only [Addr.add, Nat.zero_add] at hx186_4 | skip); replace p186 := eq_true p186; replace q186 := eq_true q186)); try go_wp2_with (first | ((with_reducible refine gate_store (t := 4) (p := 81) rfl ?_); (try (rw [drewN_self w14]; generalize hq_ : World.drewN w14 _ = w14; have n0_ := Aside0.mk (Kd.R_at hq_ HO179.out); have n1_ := Aside0.mk (below_at hq_ HB.out); clear hq_ HO179 HB; have HO179 := n0_; have HB := n1_; clear n0_ n1_; (try (have HX34 := Aside0.mk (show Kd.R k47 47 w14 w.heap.size (fun _ => True) (.slice (some ⟨go31, 0, none⟩) t177.length co15) t177 from (by (with_reducible repeat (first | apply Kd.R_alloc | apply Kd.R_drewN | apply Kd.R_drew)); exact HO179.out)))); (try (obtain ⟨ce34, hcl34, hM34, hcc34, hfr34⟩ := Kd.R_elem HX34.out z47 (t180 : Int) (of_decide_eq_true (by first | (with_reducible assumption) | assumption)) (by have h_ : (t180 : Int) < ((t177.length : Int) : Int) := of_decide_eq_true (by first | (with_reducible assumption) | assumption); first | exact h_ | (have e_ := (Kd.R_reads' HO179.out).1; omega) | simpa using h_))); (try (obtain rfl := k47_openM hM34)); (try (have HP34 := Kd.R_seg HX34.out (t180 : Int) (of_decide_eq_true (by first | (with_reducible assumption) | assumption)) (by have h_ : (t180 : Int) < ((t177.length : Int) : Int) := of_decide_eq_true (by first | (with_reducible assumption) | assumption); first | exact h_ | (have e_ := (Kd.R_reads' HO179.out).1; omega) | simpa using h_) (seg := [.bool (!((rd_T47 t177 t180).f1))]) (j := 1) hcl34 hcc34 (show 2 ≤ 5 from by decide) (x' := (⟨(rd_T47 t177 t180).f0, !((rd_T47 t177 t180).f1), (rd_T47 t177 t180).f2, (rd_T47 t177 t180).f3, (rd_T47 t177 t180).f4⟩ : S47)) (k47_mkM _ _ _ (⟨(rd_T47 t177 t180).f0, !((rd_T47 t177 t180).f1), (rd_T47 t177 t180).f2, (rd_T47 t177 t180).f3, (rd_T47 t177 t180).f4⟩ : S47) ) (fun _ hk => hk))); (try (have hx34_1 := hcc34 1 _ rfl)); (try (try simp only [show (k47).sz = 5 from rfl, Nat.mul_one, Nat.add_zero] at hx34_1)); (try (have hf34_1 := hfr34 1)); (try (try simp only [show (k47).sz = 5 from rfl, Nat.mul_one, Nat.add_zero] at hf34_1)); (try (clear hcl34 hcc34 hfr34 hM34)))); refine store_event (t := 4) (p := 81) (v := ?vo_w35) (w1 := (w14.setCell ⟨go31, (t180 : Int).toNat * 5 + 1, none⟩ (.bool (!((rd_T47 t177 t180).f1))))) ?hg ?ho ?hn ?hr ?_; (case ho => rfl); (case hg => rfl); (case hn => rfl); (case hr => first | (go_simp; done) | (go_simp; rfl)); intro w35 hw; have hg : w14.grownBy w35 (some go31) := (by rw [hw]; exact HP34.2); have hp_ : Kd.R k47 47 w35 w.heap.size (fun _ => True) (.slice (some ⟨go31, 0, none⟩) t177.length co15) y185 := (by rw [hw, Ny185.out]; exact HP34.1); clear HP34; have n0_ := Aside0.mk (hp_); have n1_ := Aside0.mk ((by rw [hw]; exact below_set (HB.out) GB31.out : Below w.heap.size w w35)); clear HO179; clear HB; have HO179 := n0_; have HB := n1_; clear n0_ n1_; clear hg hw hp_; have p186 : 0 ≤ (t180 : Int) := of_decide_eq_true (by first | (with_reducible assumption) | assumption); have q186 : t180 < (y185.length : Int) := (by have h_ : (t180 : Int) < ((t177.length : Int) : Int) := of_decide_eq_true (by first | (with_reducible assumption) | assumption); first | (have e_ := (Kd.R_reads' HO179.out).1; omega) | simpa only [Ny185.out, List.length_set] using h_); have ql186 : ((t180 : Int) < ((t177.length : Int) : Int)) = True := eq_true (of_decide_eq_true (by first | (with_reducible assumption) | assumption)); obtain ⟨ad186, e186, hx186_0, hx186_1, hx186_2, hx186_3, hx186_4⟩ := at_T47 (Kd.R_reads' HO179.out).2.2 t180 p186 q186; (try rw [← Nbq32.out] at hx186_1); (try rw [← Nbq32.out] at hw186_1); (try rw [← Nbq32.out] at hx186_2); (try rw [← Nbq32.out] at hw186_2); obtain rfl : (⟨go31, 0, none⟩ : Addr) = ad186 := (by injection e186); (first | simp only [add_plain] at hx186_0 | simp only [add_at] at hx186_0 | simp only [Addr.add, Nat.zero_add] at hx186_0 | skip); (first | simp only [add_plain] at hx186_1 | simp only [add_at] at hx186_1 | simp only [Addr.add, Nat.zero_add] at hx186_1 | skip); (first | simp only [add_plain] at hx186_2 | simp only [add_at] at hx186_2 | simp only [Addr.add, Nat.zero_add] at hx186_2 | skip); (first | simp only [add_plain] at hx186_3 | simp only [add_at] at hx186_3 | simp only [Addr.add, Nat.zero_add] at hx186_3 | skip); (first | simp only [add_plain] at hx186_4 | simp only [add_at] at hx186_4 | simp only [Addr.add, Nat.zero_add] at hx186_4 | skip); replace p186 := eq_true p186; replace q186 := eq_true q186)))
                      go_meet
                      case rel => exact ⟨_, (y185), (6), (by first | rfl | (simp; done) | (simp [*]; done)), H', ⟨by have := HJ4.out; first | omega | exact Nat.le_refl _⟩, ⟨by (with_reducible repeat (first | apply Kd.R_alloc | apply Kd.R_drewN | apply Kd.R_drew)); exact HO179.out⟩, ⟨by repeat (first | (with_reducible first | exact HB.out | apply below_alloc | apply pw_below_drewN | apply below_drew1) | exact HB.out)⟩⟩
                    · replace c33 := Bool.eq_false_iff.mpr c33
                      subst c33
                      have H1 : (hatstandlaw14_HistorySpoils.j1 kj4 y185 t180 5) = some r := by rw [if_neg (show ¬ (false = true) by decide)] at H; exact H
                      clear H
                      have H := H1
                      clear H1
                      have H' := Aside0.mk H
                      clear H
                      have p184 : 0 ≤ (t180 : Int) := of_decide_eq_true (by first | (with_reducible assumption) | assumption)
                      have q184 : t180 < (t177.length : Int) := of_decide_eq_true (by first | (with_reducible assumption) | assumption)
                      obtain ⟨ad184, e184, hx184_0, hx184_1, hx184_2, hx184_3, hx184_4⟩ := at_T47 (Kd.R_reads' HO179.out).2.2 t180 p184 q184
                      (try rw [← Nbq32.out] at hx184_1)
                      (try rw [← Nbq32.out] at hw184_1)
                      (try rw [← Nbq32.out] at hx184_2)
                      (try rw [← Nbq32.out] at hw184_2)
                      cases e184
                      replace p184 := eq_true p184
                      replace q184 := eq_true q184
                      have p31 : 0 ≤ (t180 : Int) := of_decide_eq_true (by first | (with_reducible assumption) | assumption)
                      have q31 : (t180 : Int) < ((t177.length : Int) : Int) := of_decide_eq_true (by first | (with_reducible assumption) | assumption)
                      obtain ⟨go31, co31, eo31, gb31, gl31, cl31, HG31⟩ := Kd.R_form HO179.out (by omega)
                      (first | cases eo31 | (injection eo31 with ea_ en_ ec_; (first | subst ea_ | (injection ea_ with ea_; subst ea_)); subst ec_; clear en_))
                      have GB31 := Aside0.mk gb31
                      have GG31 := Aside0.mk HG31
                      clear gb31 gl31 HG31
                      (first | simp only [add_plain] at hx184_0 | skip)
                      (first | simp only [add_plain] at hx184_1 | skip)
                      (first | simp only [add_plain] at hx184_2 | skip)
                      (first | simp only [add_plain] at hx184_3 | skip)
                      (first | simp only [add_plain] at hx184_4 | skip)
                      obtain ⟨ce31, hcl31, hM31, hcc31, hfr31⟩ := Kd.R_elem HO179.out z47 (t180 : Int) p31 q31
                      obtain rfl := k47_openM hM31
                      have hx31_0 : w14.cell? ⟨go31, (t180 : Int).toNat * 5, none⟩ = some (.int .i64 ((rd_T47 t177 t180).f0)) := hcc31 0 _ rfl
                      have hx31_1 : w14.cell? ⟨go31, (t180 : Int).toNat * 5 + 1, none⟩ = some (.bool ((rd_T47 t177 t180).f1)) := hcc31 1 _ rfl
                      have hx31_2 : w14.cell? ⟨go31, (t180 : Int).toNat * 5 + 2, none⟩ = some (.bool ((rd_T47 t177 t180).f2)) := hcc31 2 _ rfl
                      have hx31_3 : w14.cell? ⟨go31, (t180 : Int).toNat * 5 + 3, none⟩ = some (.int .u64 ((rd_T47 t177 t180).f3)) := hcc31 3 _ rfl
                      have hx31_4 : w14.cell? ⟨go31, (t180 : Int).toNat * 5 + 4, none⟩ = some (.int .i64 ((rd_T47 t177 t180).f4)) := hcc31 4 _ rfl
                      have hf31_0 : w14.frozen? ⟨go31, (t180 : Int).toNat * 5, none⟩ = false := hfr31 0
                      have hf31_1 : w14.frozen? ⟨go31, (t180 : Int).toNat * 5 + 1, none⟩ = false := hfr31 1
                      have hf31_2 : w14.frozen? ⟨go31, (t180 : Int).toNat * 5 + 2, none⟩ = false := hfr31 2
                      have hf31_3 : w14.frozen? ⟨go31, (t180 : Int).toNat * 5 + 3, none⟩ = false := hfr31 3
                      have hf31_4 : w14.frozen? ⟨go31, (t180 : Int).toNat * 5 + 4, none⟩ = false := hfr31 4
                      clear hcl31 hcc31 hfr31 hM31
                      replace p31 := eq_true p31
                      replace q31 := eq_true q31
                      have HX36 := Aside0.mk (show Kd.R k47 47 w14 w.heap.size (fun _ => True) (.slice (some ⟨go31, 0, none⟩) t177.length co15) t177 from (by (with_reducible repeat (first | apply Kd.R_alloc | apply Kd.R_drewN | apply Kd.R_drew)); exact HO179.out))
                      obtain ⟨ce36, hcl36, hM36, hcc36, hfr36⟩ := Kd.R_elem HX36.out z47 (t180 : Int) (of_decide_eq_true (by first | (with_reducible assumption) | assumption)) (by have h_ : (t180 : Int) < ((t177.length : Int) : Int) := of_decide_eq_true (by first | (with_reducible assumption) | assumption); first | exact h_ | (have e_ := (Kd.R_reads' HO179.out).1; omega) | simpa using h_)
                      obtain rfl := k47_openM hM36
                      have HP36 := Kd.R_seg HX36.out (t180 : Int) (of_decide_eq_true (by first | (with_reducible assumption) | assumption)) (by have h_ : (t180 : Int) < ((t177.length : Int) : Int) := of_decide_eq_true (by first | (with_reducible assumption) | assumption); first | exact h_ | (have e_ := (Kd.R_reads' HO179.out).1; omega) | simpa using h_) (seg := [.bool (!((rd_T47 t177 t180).f1))]) (j := 1) hcl36 hcc36 (show 2 ≤ 5 from by decide) (x' := (⟨(rd_T47 t177 t180).f0, !((rd_T47 t177 t180).f1), (rd_T47 t177 t180).f2, (rd_T47 t177 t180).f3, (rd_T47 t177 t180).f4⟩ : S47)) (k47_mkM _ _ _ (⟨(rd_T47 t177 t180).f0, !((rd_T47 t177 t180).f1), (rd_T47 t177 t180).f2, (rd_T47 t177 t180).f3, (rd_T47 t177 t180).f4⟩ : S47) ) (fun _ hk => hk)
                      have hx36_1 := hcc36 1 _ rfl
                      (try simp only [show (k47).sz = 5 from rfl, Nat.mul_one, Nat.add_zero] at hx36_1)
                      have hf36_1 := hfr36 1
                      (try simp only [show (k47).sz = 5 from rfl, Nat.mul_one, Nat.add_zero] at hf36_1)
                      clear hcl36 hcc36 hfr36 hM36
                      go_wp2_with (first | ((with_reducible refine gate_store (t := 4) (p := 81) rfl ?_); (try (rw [drewN_self w14]; generalize hq_ : World.drewN w14 _ = w14; have n0_ := Aside0.mk (Kd.R_at hq_ HO179.out); have n1_ := Aside0.mk (below_at hq_ HB.out); clear hq_ HO179 HB; have HO179 := n0_; have HB := n1_; clear n0_ n1_; (try (have HX36 := Aside0.mk (show Kd.R k47 47 w14 w.heap.size (fun _ => True) (.slice (some ⟨go31, 0, none⟩) t177.length co15) t177 from (by (with_reducible repeat (first | apply Kd.R_alloc | apply Kd.R_drewN | apply Kd.R_drew)); exact HO179.out)))); (try (obtain ⟨ce36, hcl36, hM36, hcc36, hfr36⟩ := Kd.R_elem HX36.out z47 (t180 : Int) (of_decide_eq_true (by first | (with_reducible assumption) | assumption)) (by have h_ : (t180 : Int) < ((t177.length : Int) : Int) := of_decide_eq_true (by first | (with_reducible assumption) | assumption); first | exact h_ | (have e_ := (Kd.R_reads' HO179.out).1; omega) | simpa using h_))); (try (obtain rfl := k47_openM hM36)); (try (have HP36 := Kd.R_seg HX36.out (t180 : Int) (of_decide_eq_true (by first | (with_reducible assumption) | assumption)) (by have h_ : (t180 : Int) < ((t177.length : Int) : Int) := of_decide_eq_true (by first | (with_reducible assumption) | assumption); first | exact h_ | (have e_ := (Kd.R_reads' HO179.out).1; omega) | simpa using h_) (seg := [.bool (!((rd_T47 t177 t180).f1))]) (j := 1) hcl36 hcc36 (show 2 ≤ 5 from by decide) (x' := (⟨(rd_T47 t177 t180).f0, !((rd_T47 t177 t180).f1), (rd_T47 t177 t180).f2, (rd_T47 t177 t180).f3, (rd_T47 t177 t180).f4⟩ : S47)) (k47_mkM _ _ _ (⟨(rd_T47 t177 t180).f0, !((rd_T47 t177 t180).f1), (rd_T47 t177 t180).f2, (rd_T47 t177 t180).f3, (rd_T47 t177 t180).f4⟩ : S47) ) (fun _ hk => hk))); (try (have hx36_1 := hcc36 1 _ rfl)); (try (try simp only [show (k47).sz = 5 from rfl, Nat.mul_one, Nat.add_zero] at hx36_1)); (try (have hf36_1 := hfr36 1)); (try (try simp only [show (k47).sz = 5 from rfl, Nat.mul_one, Nat.add_zero] at hf36_1)); (try (clear hcl36 hcc36 hfr36 hM36)))); refine store_event (t := 4) (p := 81) (v := ?vo_w37) (w1 := (w14.setCell ⟨go31, (t180 : Int).toNat * 5 + 1, none⟩ (.bool (!((rd_T47 t177 t180).f1))))) ?hg ?ho ?hn ?hr ?_; (case ho => rfl); (case hg => rfl); (case hn => rfl); (case hr => first | (go_simp; done) | (go_simp; rfl)); intro w37 hw; have hg : w14.grownBy w37 (some go31) := (by rw [hw]; exact HP36.2); have hp_ : Kd.R k47 47 w37 w.heap.size (fun _ => True) (.slice (some ⟨go31, 0, none⟩) t177.length co15) y185 := (by rw [hw, Ny185.out]; exact HP36.1); clear HP36; have n0_ := Aside0.mk (hp_); have n1_ := Aside0.mk ((by rw [hw]; exact below_set (HB.out) GB31.out : Below w.heap.size w w37)); clear HO179; clear HB; have HO179 := n0_; have HB := n1_; clear n0_ n1_; clear hg hw hp_; have p186 : 0 ≤ (t180 : Int) := of_decide_eq_true (by first | (with_reducible assumption) | assumption); have q186 : t180 < (y185.length : Int) := (by have h_ : (t180 : Int) < ((t177.length : Int) : Int) := of_decide_eq_true (by first | (with_reducible assumption) | assumption); first | (have e_ := (Kd.R_reads' HO179.out).1; omega) | simpa only [Ny185.out, List.length_set] using h_); have ql186 : ((t180 : Int) < ((t177.length : Int) : Int)) = True := eq_true (of_decide_eq_true (by first | (with_reducible assumption) | assumption)); obtain ⟨ad186, e186, hx186_0, hx186_1, hx186_2, hx186_3, hx186_4⟩ := at_T47 (Kd.R_reads' HO179.out).2.2 t180 p186 q186; (try rw [← Nbq32.out] at hx186_1); (try rw [← Nbq32.out] at hw186_1); (try rw [← Nbq32.out] at hx186_2); (try rw [← Nbq32.out] at hw186_2); obtain rfl : (⟨go31, 0, none⟩ : Addr) = ad186 := (by injection e186); (first | simp only [add_plain] at hx186_0 | simp only [add_at] at hx186_0 | simp only [Addr.add, Nat.zero_add] at hx186_0 | skip); (first | simp only [add_plain] at hx186_1 | simp only [add_at] at hx186_1 | simp only [Addr.add, Nat.zero_add] at hx186_1 | skip); (first | simp only [add_plain] at hx186_2 | simp only [add_at] at hx186_2 | simp only [Addr.add, Nat.zero_add] at hx186_2 | skip); (first | simp only [add_plain] at hx186_3 | simp only [add_at] at hx186_3 | simp only [Addr.add, Nat.zero_add] at hx186_3 | skip); (first | simp only [add_plain] at hx186_4 | simp only [add_at] at hx186_4 | simp only [Addr.add, Nat.zero_add] at hx186_4 | skip); replace p186 := eq_true p186; replace q186 := eq_true q186))
                      repeat (go_quiet (first | ((with_reducible refine gate_store (t := 4) (p := 81) rfl ?_); (try (rw [drewN_self w14]; generalize hq_ : World.drewN w14 _ = w14; have n0_ := Aside0.mk (Kd.R_at hq_ HO179.out); have n1_ := Aside0.mk (below_at hq_ HB.out); clear hq_ HO179 HB; have HO179 := n0_; have HB := n1_; clear n0_ n1_; (try (have HX36 := Aside0.mk (show Kd.R k47 47 w14 w.heap.size (fun _ => True) (.slice (some ⟨go31, 0, none⟩) t177.length co15) t177 from (by (with_reducible repeat (first | apply Kd.R_alloc | apply Kd.R_drewN | apply Kd.R_drew)); exact HO179.out)))); (try (obtain ⟨ce36, hcl36, hM36, hcc36, hfr36⟩ := Kd.R_elem HX36.out z47 (t180 : Int) (of_decide_eq_true (by first | (with_reducible assumption) | assumption)) (by have h_ : (t180 : Int) < ((t177.length : Int) : Int) := of_decide_eq_true (by first | (with_reducible assumption) | assumption); first | exact h_ | (have e_ := (Kd.R_reads' HO179.out).1; omega) | simpa using h_))); (try (obtain rfl := k47_openM hM36)); (try (have HP36 := Kd.R_seg HX36.out (t180 : Int) (of_decide_eq_true (by first | (with_reducible assumption) | assumption)) (by have h_ : (t180 : Int) < ((t177.length : Int) : Int) := of_decide_eq_true (by first | (with_reducible assumption) | assumption); first | exact h_ | (have e_ := (Kd.R_reads' HO179.out).1; omega) | simpa using h_) (seg := [.bool (!((rd_T47 t177 t180).f1))]) (j := 1) hcl36 hcc36 (show 2 ≤ 5 from by decide) (x' := (⟨(rd_T47 t177 t180).f0, !((rd_T47 t177 t180).f1), (rd_T47 t177 t180).f2, (rd_T47 t177 t180).f3, (rd_T47 t177 t180).f4⟩ : S47)) (k47_mkM _ _ _ (⟨(rd_T47 t177 t180).f0, !((rd_T47 t177 t180).f1), (rd_T47 t177 t180).f2, (rd_T47 t177 t180).f3, (rd_T47 t177 t180).f4⟩ : S47) ) (fun _ hk => hk))); (try (have hx36_1 := hcc36 1 _ rfl)); (try (try simp only [show (k47).sz = 5 from rfl, Nat.mul_one, Nat.add_zero] at hx36_1)); (try (have hf36_1 := hfr36 1)); (try (try simp only [show (k47).sz = 5 from rfl, Nat.mul_one, Nat.add_zero] at hf36_1)); (try (clear hcl36 hcc36 hfr36 hM36)))); refine store_event (t := 4) (p := 81) (v := ?vo_w37) (w1 := (w14.setCell ⟨go31, (t180 : Int).toNat * 5 + 1, none⟩ (.bool (!((rd_T47 t177 t180).f1))))) ?hg ?ho ?hn ?hr ?_; (case ho => rfl); (case hg => rfl); (case hn => rfl); (case hr => first | (go_simp; done) | (go_simp; rfl)); intro w37 hw; have hg : w14.grownBy w37 (some go31) := (by rw [hw]; exact HP36.2); have hp_ : Kd.R k47 47 w37 w.heap.size (fun _ => True) (.slice (some ⟨go31, 0, none⟩) t177.length co15) y185 := (by rw [hw, Ny185.out]; exact HP36.1); clear HP36; have n0_ := Aside0.mk (hp_); have n1_ := Aside0.mk ((by rw [hw]; exact below_set (HB.out) GB31.out : Below w.heap.size w w37)); clear HO179; clear HB; have HO179 := n0_; have HB := n1_; clear n0_ n1_; clear hg hw hp_; have p186 : 0 ≤ (t180 : Int) := of_decide_eq_true (by first | (with_reducible assumption) | assumption); have q186 : t180 < (y185.length : Int) := (by have h_ : (t180 : Int) < ((t177.length : Int) : Int) := of_decide_eq_true (by first | (with_reducible assumption) | assumption); first | (have e_ := (Kd.R_reads' HO179.out).1; omega) | simpa only [Ny185.out, List.length_set] using h_); have ql186 : ((t180 : Int) < ((t177.length : Int) : Int)) = True := eq_true (of_decide_eq_true (by first | (with_reducible assumption) | assumption)); obtain ⟨ad186, e186, hx186_0, hx186_1, hx186_2, hx186_3, hx186_4⟩ := at_T47 (Kd.R_reads' HO179.out).2.2 t180 p186 q186; (try rw [← Nbq32.out] at hx186_1); (try rw [← Nbq32.out] at hw186_1); (try rw [← Nbq32.out] at hx186_2); (try rw [← Nbq32.out] at hw186_2); obtain rfl : (⟨go31, 0, none⟩ : Addr) = ad186 := (by injection e186); (first | simp only [add_plain] at hx186_0 | simp only [add_at] at hx186_0 | simp only [Addr.add, Nat.zero_add] at hx186_0 | skip); (first | simp only [add_plain] at hx186_1 | simp only [add_at] at hx186_1 | simp only [Addr.add, Nat.zero_add] at hx186_1 | skip); (first | simp only [add_plain] at hx186_2 | simp only [add_at] at hx186_2 | simp only [Addr.add, Nat.zero_add] at hx186_2 | skip); (first | simp only [add_plain] at hx186_3 | simp only [add_at] at hx186_3 | simp only [Addr.add, Nat.zero_add] at hx186_3 | skip); (first | simp only [add_plain] at hx186_4 | simp only [add_at] at hx186_4 | simp only [Addr.add, Nat.zero_add] at hx186_4 | skip); replace p186 := eq_true p186; replace q186 := eq_true q186)); try go_wp2_with (first | ((with_reducible refine gate_store (t := 4) (p := 81) rfl ?_); (try (rw [drewN_self w14]; generalize hq_ : World.drewN w14 _ = w14; have n0_ := Aside0.mk (Kd.R_at hq_ HO179.out); have n1_ := Aside0.mk (below_at hq_ HB.out); clear hq_ HO179 HB; have HO179 := n0_; have HB := n1_; clear n0_ n1_; (try (have HX36 := Aside0.mk (show Kd.R k47 47 w14 w.heap.size (fun _ => True) (.slice (some ⟨go31, 0, none⟩) t177.length co15) t177 from (by (with_reducible repeat (first | apply Kd.R_alloc | apply Kd.R_drewN | apply Kd.R_drew)); exact HO179.out)))); (try (obtain ⟨ce36, hcl36, hM36, hcc36, hfr36⟩ := Kd.R_elem HX36.out z47 (t180 : Int) (of_decide_eq_true (by first | (with_reducible assumption) | assumption)) (by have h_ : (t180 : Int) < ((t177.length : Int) : Int) := of_decide_eq_true (by first | (with_reducible assumption) | assumption); first | exact h_ | (have e_ := (Kd.R_reads' HO179.out).1; omega) | simpa using h_))); (try (obtain rfl := k47_openM hM36)); (try (have HP36 := Kd.R_seg HX36.out (t180 : Int) (of_decide_eq_true (by first | (with_reducible assumption) | assumption)) (by have h_ : (t180 : Int) < ((t177.length : Int) : Int) := of_decide_eq_true (by first | (with_reducible assumption) | assumption); first | exact h_ | (have e_ := (Kd.R_reads' HO179.out).1; omega) | simpa using h_) (seg := [.bool (!((rd_T47 t177 t180).f1))]) (j := 1) hcl36 hcc36 (show 2 ≤ 5 from by decide) (x' := (⟨(rd_T47 t177 t180).f0, !((rd_T47 t177 t180).f1), (rd_T47 t177 t180).f2, (rd_T47 t177 t180).f3, (rd_T47 t177 t180).f4⟩ : S47)) (k47_mkM _ _ _ (⟨(rd_T47 t177 t180).f0, !((rd_T47 t177 t180).f1), (rd_T47 t177 t180).f2, (rd_T47 t177 t180).f3, (rd_T47 t177 t180).f4⟩ : S47) ) (fun _ hk => hk))); (try (have hx36_1 := hcc36 1 _ rfl)); (try (try simp only [show (k47).sz = 5 from rfl, Nat.mul_one, Nat.add_zero] at hx36_1)); (try (have hf36_1 := hfr36 1)); (try (try simp only [show (k47).sz = 5 from rfl, Nat.mul_one, Nat.add_zero] at hf36_1)); (try (clear hcl36 hcc36 hfr36 hM36)))); refine store_event (t := 4) (p := 81) (v := ?vo_w37) (w1 := (w14.setCell ⟨go31, (t180 : Int).toNat * 5 + 1, none⟩ (.bool (!((rd_T47 t177 t180).f1))))) ?hg ?ho ?hn ?hr ?_; (case ho => rfl); (case hg => rfl); (case hn => rfl); (case hr => first | (go_simp; done) | (go_simp; rfl)); intro w37 hw; have hg : w14.grownBy w37 (some go31) := (by rw [hw]; exact HP36.2); have hp_ : Kd.R k47 47 w37 w.heap.size (fun _ => True) (.slice (some ⟨go31, 0, none⟩) t177.length co15) y185 := (by rw [hw, Ny185.out]; exact HP36.1); clear HP36; have n0_ := Aside0.mk (hp_); have n1_ := Aside0.mk ((by rw [hw]; exact below_set (HB.out) GB31.out : Below w.heap.size w w37)); clear HO179; clear HB; have HO179 := n0_; have HB := n1_; clear n0_ n1_; clear hg hw hp_; have p186 : 0 ≤ (t180 : Int) := of_decide_eq_true (by first | (with_reducible assumption) | assumption); have q186 : t180 < (y185.length : Int) := (by have h_ : (t180 : Int) < ((t177.length : Int) : Int) := of_decide_eq_true (by first | (with_reducible assumption) | assumption); first | (have e_ := (Kd.R_reads' HO179.out).1; omega) | simpa only [Ny185.out, List.length_set] using h_); have ql186 : ((t180 : Int) < ((t177.length : Int) : Int)) = True := eq_true (of_decide_eq_true (by first | (with_reducible assumption) | assumption)); obtain ⟨ad186, e186, hx186_0, hx186_1, hx186_2, hx186_3, hx186_4⟩ := at_T47 (Kd.R_reads' HO179.out).2.2 t180 p186 q186; (try rw [← Nbq32.out] at hx186_1); (try rw [← Nbq32.out] at hw186_1); (try rw [← Nbq32.out] at hx186_2); (try rw [← Nbq32.out] at hw186_2); obtain rfl : (⟨go31, 0, none⟩ : Addr) = ad186 := (by injection e186); (first | simp only [add_plain] at hx186_0 | simp only [add_at] at hx186_0 | simp only [Addr.add, Nat.zero_add] at hx186_0 | skip); (first | simp only [add_plain] at hx186_1 | simp only [add_at] at hx186_1 | simp only [Addr.add, Nat.zero_add] at hx186_1 | skip); (first | simp only [add_plain] at hx186_2 | simp only [add_at] at hx186_2 | simp only [Addr.add, Nat.zero_add] at hx186_2 | skip); (first | simp only [add_plain] at hx186_3 | simp only [add_at] at hx186_3 | simp only [Addr.add, Nat.zero_add] at hx186_3 | skip); (first | simp only [add_plain] at hx186_4 | simp only [add_at] at hx186_4 | simp only [Addr.add, Nat.zero_add] at hx186_4 | skip); replace p186 := eq_true p186; replace q186 := eq_true q186)))
                      go_meet
                      case rel => exact ⟨_, (y185), (5), (by first | rfl | (simp; done) | (simp [*]; done)), H', ⟨by have := HJ4.out; first | omega | exact Nat.le_refl _⟩, ⟨by (with_reducible repeat (first | apply Kd.R_alloc | apply Kd.R_drewN | apply Kd.R_drew)); exact HO179.out⟩, ⟨by repeat (first | (with_reducible first | exact HB.out | apply below_alloc | apply pw_below_drewN | apply below_drew1) | exact HB.out)⟩⟩
                  · rw [if_neg c30] at H
                    exact absurd H (by simp)
                · rw [if_neg c29] at H
                  exact absurd H (by simp)
              · rw [if_neg c28] at H
                have c28b0 : (t181 == 2) = false := beq_eq_false_iff_ne.mpr c28
                have c28b1 : (t181 != 2) = true := bne_iff_ne.mpr c28
                by_cases c38 : t181 = 3
                · rw [if_pos c38] at H
                  have c38b0 : (t181 == 3) = true := beq_iff_eq.mpr c38
                  have c38b1 : (t181 != 3) = false := bne_eq_false_iff_eq.mpr c38
                  clear c38
                  by_cases c39 : 0 ≤ t180
                  · rw [if_pos c39] at H
                    have c39b0 : decide (0 ≤ t180) = true := decide_eq_true c39
                    clear c39
                    by_cases c40 : t180 < (t177.length : Int)
                    · rw [if_pos c40] at H
                      have c40b0 : decide (t180 < (t177.length : Int)) = true := decide_eq_true c40
                      clear c40
                      obtain ⟨y187, hy187⟩ : ∃ y_ : List (S47), y_ = (t177.set (t180 : Int).toNat (⟨(rd_T47 t177 t180).f0, (rd_T47 t177 t180).f1, (rd_T47 t177 t180).f2, (rd_T47 t177 t180).f3, 5⟩ : S47)) := ⟨_, rfl⟩
                      replace H : (hatstandlaw14_HistorySpoils.j1 kj4 y187 t180 3) = some r := by first | (rw [hy187]; with_reducible exact H) | (have H2_ := (Option.bind_some _ _).symm.trans H; rw [hy187]; with_reducible exact H2_) | (have H2_ := (Option.bind_some _ _).symm.trans H; with_reducible exact H2_) | with_reducible exact H | (rw [hy187]; exact H) | exact H
                      have Ny187 := Aside0.mk hy187
                      clear hy187
                      have H' := Aside0.mk H
                      clear H
                      have p41 : 0 ≤ (t180 : Int) := of_decide_eq_true (by first | (with_reducible assumption) | assumption)
                      have q41 : (t180 : Int) < ((t177.length : Int) : Int) := of_decide_eq_true (by first | (with_reducible assumption) | assumption)
                      obtain ⟨go41, co41, eo41, gb41, gl41, cl41, HG41⟩ := Kd.R_form HO179.out (by omega)
                      (first | cases eo41 | (injection eo41 with ea_ en_ ec_; (first | subst ea_ | (injection ea_ with ea_; subst ea_)); subst ec_; clear en_))
                      have GB41 := Aside0.mk gb41
                      have GG41 := Aside0.mk HG41
                      clear gb41 gl41 HG41
                      obtain ⟨ce41, hcl41, hM41, hcc41, hfr41⟩ := Kd.R_elem HO179.out z47 (t180 : Int) p41 q41
                      obtain rfl := k47_openM hM41
                      have hx41_0 : w14.cell? ⟨go41, (t180 : Int).toNat * 5, none⟩ = some (.int .i64 ((rd_T47 t177 t180).f0)) := hcc41 0 _ rfl
                      have hx41_1 : w14.cell? ⟨go41, (t180 : Int).toNat * 5 + 1, none⟩ = some (.bool ((rd_T47 t177 t180).f1)) := hcc41 1 _ rfl
                      have hx41_2 : w14.cell? ⟨go41, (t180 : Int).toNat * 5 + 2, none⟩ = some (.bool ((rd_T47 t177 t180).f2)) := hcc41 2 _ rfl
                      have hx41_3 : w14.cell? ⟨go41, (t180 : Int).toNat * 5 + 3, none⟩ = some (.int .u64 ((rd_T47 t177 t180).f3)) := hcc41 3 _ rfl
                      have hx41_4 : w14.cell? ⟨go41, (t180 : Int).toNat * 5 + 4, none⟩ = some (.int .i64 ((rd_T47 t177 t180).f4)) := hcc41 4 _ rfl
                      have hf41_0 : w14.frozen? ⟨go41, (t180 : Int).toNat * 5, none⟩ = false := hfr41 0
                      have hf41_1 : w14.frozen? ⟨go41, (t180 : Int).toNat * 5 + 1, none⟩ = false := hfr41 1
                      have hf41_2 : w14.frozen? ⟨go41, (t180 : Int).toNat * 5 + 2, none⟩ = false := hfr41 2
                      have hf41_3 : w14.frozen? ⟨go41, (t180 : Int).toNat * 5 + 3, none⟩ = false := hfr41 3
                      have hf41_4 : w14.frozen? ⟨go41, (t180 : Int).toNat * 5 + 4, none⟩ = false := hfr41 4
                      clear hcl41 hcc41 hfr41 hM41
                      replace p41 := eq_true p41
                      replace q41 := eq_true q41
                      have HX42 := Aside0.mk (show Kd.R k47 47 w14 w.heap.size (fun _ => True) (.slice (some ⟨go41, 0, none⟩) t177.length co15) t177 from (by (with_reducible repeat (first | apply Kd.R_alloc | apply Kd.R_drewN | apply Kd.R_drew)); exact HO179.out))
                      obtain ⟨ce42, hcl42, hM42, hcc42, hfr42⟩ := Kd.R_elem HX42.out z47 (t180 : Int) (of_decide_eq_true (by first | (with_reducible assumption) | assumption)) (by have h_ : (t180 : Int) < ((t177.length : Int) : Int) := of_decide_eq_true (by first | (with_reducible assumption) | assumption); first | exact h_ | (have e_ := (Kd.R_reads' HO179.out).1; omega) | simpa using h_)
                      obtain rfl := k47_openM hM42
                      have HP42 := Kd.R_seg HX42.out (t180 : Int) (of_decide_eq_true (by first | (with_reducible assumption) | assumption)) (by have h_ : (t180 : Int) < ((t177.length : Int) : Int) := of_decide_eq_true (by first | (with_reducible assumption) | assumption); first | exact h_ | (have e_ := (Kd.R_reads' HO179.out).1; omega) | simpa using h_) (seg := [.int .i64 5]) (j := 4) hcl42 hcc42 (show 5 ≤ 5 from by decide) (x' := (⟨(rd_T47 t177 t180).f0, (rd_T47 t177 t180).f1, (rd_T47 t177 t180).f2, (rd_T47 t177 t180).f3, 5⟩ : S47)) (k47_mkM _ _ _ (⟨(rd_T47 t177 t180).f0, (rd_T47 t177 t180).f1, (rd_T47 t177 t180).f2, (rd_T47 t177 t180).f3, 5⟩ : S47) ) (fun _ hk => hk)
                      have hx42_4 := hcc42 4 _ rfl
                      (try simp only [show (k47).sz = 5 from rfl, Nat.mul_one, Nat.add_zero] at hx42_4)
                      have hf42_4 := hfr42 4
                      (try simp only [show (k47).sz = 5 from rfl, Nat.mul_one, Nat.add_zero] at hf42_4)
                      clear hcl42 hcc42 hfr42 hM42
                      go_wp2_with (first | ((with_reducible refine gate_store (t := 43) (p := 92) rfl ?_); (try (rw [drewN_self w14]; generalize hq_ : World.drewN w14 _ = w14; have n0_ := Aside0.mk (Kd.R_at hq_ HO179.out); have n1_ := Aside0.mk (below_at hq_ HB.out); clear hq_ HO179 HB; have HO179 := n0_; have HB := n1_; clear n0_ n1_; (try (have HX42 := Aside0.mk (show Kd.R k47 47 w14 w.heap.size (fun _ => True) (.slice (some ⟨go41, 0, none⟩) t177.length co15) t177 from (by (with_reducible repeat (first | apply Kd.R_alloc | apply Kd.R_drewN | apply Kd.R_drew)); exact HO179.out)))); (try (obtain ⟨ce42, hcl42, hM42, hcc42, hfr42⟩ := Kd.R_elem HX42.out z47 (t180 : Int) (of_decide_eq_true (by first | (with_reducible assumption) | assumption)) (by have h_ : (t180 : Int) < ((t177.length : Int) : Int) := of_decide_eq_true (by first | (with_reducible assumption) | assumption); first | exact h_ | (have e_ := (Kd.R_reads' HO179.out).1; omega) | simpa using h_))); (try (obtain rfl := k47_openM hM42)); (try (have HP42 := Kd.R_seg HX42.out (t180 : Int) (of_decide_eq_true (by first | (with_reducible assumption) | assumption)) (by have h_ : (t180 : Int) < ((t177.length : Int) : Int) := of_decide_eq_true (by first | (with_reducible assumption) | assumption); first | exact h_ | (have e_ := (Kd.R_reads' HO179.out).1; omega) | simpa using h_) (seg := [.int .i64 5]) (j := 4) hcl42 hcc42 (show 5 ≤ 5 from by decide) (x' := (⟨(rd_T47 t177 t180).f0, (rd_T47 t177 t180).f1, (rd_T47 t177 t180).f2, (rd_T47 t177 t180).f3, 5⟩ : S47)) (k47_mkM _ _ _ (⟨(rd_T47 t177 t180).f0, (rd_T47 t177 t180).f1, (rd_T47 t177 t180).f2, (rd_T47 t177 t180).f3, 5⟩ : S47) ) (fun _ hk => hk))); (try (have hx42_4 := hcc42 4 _ rfl)); (try (try simp only [show (k47).sz = 5 from rfl, Nat.mul_one, Nat.add_zero] at hx42_4)); (try (have hf42_4 := hfr42 4)); (try (try simp only [show (k47).sz = 5 from rfl, Nat.mul_one, Nat.add_zero] at hf42_4)); (try (clear hcl42 hcc42 hfr42 hM42)))); refine store_event (t := 43) (p := 92) (v := ?vo_w43) (w1 := (w14.setCell ⟨go41, (t180 : Int).toNat * 5 + 4, none⟩ (.int .i64 5))) ?hg ?ho ?hn ?hr ?_; (case ho => rfl); (case hg => rfl); (case hn => rfl); (case hr => first | (go_simp; done) | (go_simp; rfl)); intro w43 hw; have hg : w14.grownBy w43 (some go41) := (by rw [hw]; exact HP42.2); have hp_ : Kd.R k47 47 w43 w.heap.size (fun _ => True) (.slice (some ⟨go41, 0, none⟩) t177.length co15) y187 := (by rw [hw, Ny187.out]; exact HP42.1); clear HP42; have n0_ := Aside0.mk (hp_); have n1_ := Aside0.mk ((by rw [hw]; exact below_set (HB.out) GB41.out : Below w.heap.size w w43)); clear HO179; clear HB; have HO179 := n0_; have HB := n1_; clear n0_ n1_; clear hg hw hp_))
                      repeat (go_quiet (first | ((with_reducible refine gate_store (t := 43) (p := 92) rfl ?_); (try (rw [drewN_self w14]; generalize hq_ : World.drewN w14 _ = w14; have n0_ := Aside0.mk (Kd.R_at hq_ HO179.out); have n1_ := Aside0.mk (below_at hq_ HB.out); clear hq_ HO179 HB; have HO179 := n0_; have HB := n1_; clear n0_ n1_; (try (have HX42 := Aside0.mk (show Kd.R k47 47 w14 w.heap.size (fun _ => True) (.slice (some ⟨go41, 0, none⟩) t177.length co15) t177 from (by (with_reducible repeat (first | apply Kd.R_alloc | apply Kd.R_drewN | apply Kd.R_drew)); exact HO179.out)))); (try (obtain ⟨ce42, hcl42, hM42, hcc42, hfr42⟩ := Kd.R_elem HX42.out z47 (t180 : Int) (of_decide_eq_true (by first | (with_reducible assumption) | assumption)) (by have h_ : (t180 : Int) < ((t177.length : Int) : Int) := of_decide_eq_true (by first | (with_reducible assumption) | assumption); first | exact h_ | (have e_ := (Kd.R_reads' HO179.out).1; omega) | simpa using h_))); (try (obtain rfl := k47_openM hM42)); (try (have HP42 := Kd.R_seg HX42.out (t180 : Int) (of_decide_eq_true (by first | (with_reducible assumption) | assumption)) (by have h_ : (t180 : Int) < ((t177.length : Int) : Int) := of_decide_eq_true (by first | (with_reducible assumption) | assumption); first | exact h_ | (have e_ := (Kd.R_reads' HO179.out).1; omega) | simpa using h_) (seg := [.int .i64 5]) (j := 4) hcl42 hcc42 (show 5 ≤ 5 from by decide) (x' := (⟨(rd_T47 t177 t180).f0, (rd_T47 t177 t180).f1, (rd_T47 t177 t180).f2, (rd_T47 t177 t180).f3, 5⟩ : S47)) (k47_mkM _ _ _ (⟨(rd_T47 t177 t180).f0, (rd_T47 t177 t180).f1, (rd_T47 t177 t180).f2, (rd_T47 t177 t180).f3, 5⟩ : S47) ) (fun _ hk => hk))); (try (have hx42_4 := hcc42 4 _ rfl)); (try (try simp only [show (k47).sz = 5 from rfl, Nat.mul_one, Nat.add_zero] at hx42_4)); (try (have hf42_4 := hfr42 4)); (try (try simp only [show (k47).sz = 5 from rfl, Nat.mul_one, Nat.add_zero] at hf42_4)); (try (clear hcl42 hcc42 hfr42 hM42)))); refine store_event (t := 43) (p := 92) (v := ?vo_w43) (w1 := (w14.setCell ⟨go41, (t180 : Int).toNat * 5 + 4, none⟩ (.int .i64 5))) ?hg ?ho ?hn ?hr ?_; (case ho => rfl); (case hg => rfl); (case hn => rfl); (case hr => first | (go_simp; done) | (go_simp; rfl)); intro w43 hw; have hg : w14.grownBy w43 (some go41) := (by rw [hw]; exact HP42.2); have hp_ : Kd.R k47 47 w43 w.heap.size (fun _ => True) (.slice (some ⟨go41, 0, none⟩) t177.length co15) y187 := (by rw [hw, Ny187.out]; exact HP42.1); clear HP42; have n0_ := Aside0.mk (hp_); have n1_ := Aside0.mk ((by rw [hw]; exact below_set (HB.out) GB41.out : Below w.heap.size w w43)); clear HO179; clear HB; have HO179 := n0_; have HB := n1_; clear n0_ n1_; clear hg hw hp_)); try go_wp2_with (first | ((with_reducible refine gate_store (t := 43) (p := 92) rfl ?_); (try (rw [drewN_self w14]; generalize hq_ : World.drewN w14 _ = w14; have n0_ := Aside0.mk (Kd.R_at hq_ HO179.out); have n1_ := Aside0.mk (below_at hq_ HB.out); clear hq_ HO179 HB; have HO179 := n0_; have HB := n1_; clear n0_ n1_; (try (have HX42 := Aside0.mk (show Kd.R k47 47 w14 w.heap.size (fun _ => True) (.slice (some ⟨go41, 0, none⟩) t177.length co15) t177 from (by (with_reducible repeat (first | apply Kd.R_alloc | apply Kd.R_drewN | apply Kd.R_drew)); exact HO179.out)))); (try (obtain ⟨ce42, hcl42, hM42, hcc42, hfr42⟩ := Kd.R_elem HX42.out z47 (t180 : Int) (of_decide_eq_true (by first | (with_reducible assumption) | assumption)) (by have h_ : (t180 : Int) < ((t177.length : Int) : Int) := of_decide_eq_true (by first | (with_reducible assumption) | assumption); first | exact h_ | (have e_ := (Kd.R_reads' HO179.out).1; omega) | simpa using h_))); (try (obtain rfl := k47_openM hM42)); (try (have HP42 := Kd.R_seg HX42.out (t180 : Int) (of_decide_eq_true (by first | (with_reducible assumption) | assumption)) (by have h_ : (t180 : Int) < ((t177.length : Int) : Int) := of_decide_eq_true (by first | (with_reducible assumption) | assumption); first | exact h_ | (have e_ := (Kd.R_reads' HO179.out).1; omega) | simpa using h_) (seg := [.int .i64 5]) (j := 4) hcl42 hcc42 (show 5 ≤ 5 from by decide) (x' := (⟨(rd_T47 t177 t180).f0, (rd_T47 t177 t180).f1, (rd_T47 t177 t180).f2, (rd_T47 t177 t180).f3, 5⟩ : S47)) (k47_mkM _ _ _ (⟨(rd_T47 t177 t180).f0, (rd_T47 t177 t180).f1, (rd_T47 t177 t180).f2, (rd_T47 t177 t180).f3, 5⟩ : S47) ) (fun _ hk => hk))); (try (have hx42_4 := hcc42 4 _ rfl)); (try (try simp only [show (k47).sz = 5 from rfl, Nat.mul_one, Nat.add_zero] at hx42_4)); (try (have hf42_4 := hfr42 4)); (try (try simp only [show (k47).sz = 5 from rfl, Nat.mul_one, Nat.add_zero] at hf42_4)); (try (clear hcl42 hcc42 hfr42 hM42)))); refine store_event (t := 43) (p := 92) (v := ?vo_w43) (w1 := (w14.setCell ⟨go41, (t180 : Int).toNat * 5 + 4, none⟩ (.int .i64 5))) ?hg ?ho ?hn ?hr ?_; (case ho => rfl); (case hg => rfl); (case hn => rfl); (case hr => first | (go_simp; done) | (go_simp; rfl)); intro w43 hw; have hg : w14.grownBy w43 (some go41) := (by rw [hw]; exact HP42.2); have hp_ : Kd.R k47 47 w43 w.heap.size (fun _ => True) (.slice (some ⟨go41, 0, none⟩) t177.length co15) y187 := (by rw [hw, Ny187.out]; exact HP42.1); clear HP42; have n0_ := Aside0.mk (hp_); have n1_ := Aside0.mk ((by rw [hw]; exact below_set (HB.out) GB41.out : Below w.heap.size w w43)); clear HO179; clear HB; have HO179 := n0_; have HB := n1_; clear n0_ n1_; clear hg hw hp_)))
                      go_meet
                      case rel => exact ⟨_, (y187), (3), (by first | rfl | (simp; done) | (simp [*]; done)), H', ⟨by have := HJ4.out; first | omega | exact Nat.le_refl _⟩, ⟨by (with_reducible repeat (first | apply Kd.R_alloc | apply Kd.R_drewN | apply Kd.R_drew)); exact HO179.out⟩, ⟨by repeat (first | (with_reducible first | exact HB.out | apply below_alloc | apply pw_below_drewN | apply below_drew1) | exact HB.out)⟩⟩
                    · rw [if_neg c40] at H
                      exact absurd H (by simp)
                  · rw [if_neg c39] at H
                    exact absurd H (by simp)
                · rw [if_neg c38] at H
                  have c38b0 : (t181 == 3) = false := beq_eq_false_iff_ne.mpr c38
                  have c38b1 : (t181 != 3) = true := bne_iff_ne.mpr c38
                  by_cases c44 : 0 ≤ t180
                  · rw [if_pos c44] at H
                    have c44b0 : decide (0 ≤ t180) = true := decide_eq_true c44
                    clear c44
                    by_cases c45 : t180 < (t177.length : Int)
                    · rw [if_pos c45] at H
                      have c45b0 : decide (t180 < (t177.length : Int)) = true := decide_eq_true c45
                      clear c45
                      by_cases c46 : (((rd_T47 t177 t180).f2) == ((rd_T47 t177 t180).f1)) = true
                      · rw [if_pos c46] at H
                        have c46b0 : (((rd_T47 t177 t180).f2) == ((rd_T47 t177 t180).f1)) = true := c46
                        (try (have c46b1 : decide (((rd_T47 t177 t180).f2) = ((rd_T47 t177 t180).f1)) = true := by simpa using c46))
                        (try (have c46b2 : (((rd_T47 t177 t180).f2) == ((rd_T47 t177 t180).f1)) = true := by simpa using c46))
                        clear c46
                        obtain ⟨y190, hy190⟩ : ∃ y_ : List (S47), y_ = (t177.set (t180 : Int).toNat (⟨(rd_T47 t177 t180).f0, (rd_T47 t177 t180).f1, (rd_T47 t177 t180).f2, 9, (rd_T47 t177 t180).f4⟩ : S47)) := ⟨_, rfl⟩
                        replace H : (hatstandlaw14_HistorySpoils.j1 kj4 y190 t180 3) = some r := by first | (rw [hy190]; with_reducible exact H) | (have H2_ := (Option.bind_some _ _).symm.trans H; rw [hy190]; with_reducible exact H2_) | (have H2_ := (Option.bind_some _ _).symm.trans H; with_reducible exact H2_) | with_reducible exact H | (rw [hy190]; exact H) | exact H
                        have Ny190 := Aside0.mk hy190
                        clear hy190
                        have H' := Aside0.mk H
                        clear H
                        have p188 : 0 ≤ (t180 : Int) := of_decide_eq_true (by first | (with_reducible assumption) | assumption)
                        have q188 : t180 < (t177.length : Int) := of_decide_eq_true (by first | (with_reducible assumption) | assumption)
                        obtain ⟨ad188, e188, hx188_0, hx188_1, hx188_2, hx188_3, hx188_4⟩ := at_T47 (Kd.R_reads' HO179.out).2.2 t180 p188 q188
                        cases e188
                        replace p188 := eq_true p188
                        replace q188 := eq_true q188
                        have p189 : 0 ≤ (t180 : Int) := of_decide_eq_true (by first | (with_reducible assumption) | assumption)
                        have q189 : t180 < (t177.length : Int) := of_decide_eq_true (by first | (with_reducible assumption) | assumption)
                        obtain ⟨ad189, e189, hx189_0, hx189_1, hx189_2, hx189_3, hx189_4⟩ := at_T47 (Kd.R_reads' HO179.out).2.2 t180 p189 q189
                        obtain rfl : ad188 = ad189 := (by injection e189)
                        replace p189 := eq_true p189
                        replace q189 := eq_true q189
                        have p47 : 0 ≤ (t180 : Int) := of_decide_eq_true (by first | (with_reducible assumption) | assumption)
                        have q47 : (t180 : Int) < ((t177.length : Int) : Int) := of_decide_eq_true (by first | (with_reducible assumption) | assumption)
                        obtain ⟨go47, co47, eo47, gb47, gl47, cl47, HG47⟩ := Kd.R_form HO179.out (by omega)
                        (first | cases eo47 | (injection eo47 with ea_ en_ ec_; (first | subst ea_ | (injection ea_ with ea_; subst ea_)); subst ec_; clear en_))
                        have GB47 := Aside0.mk gb47
                        have GG47 := Aside0.mk HG47
                        clear gb47 gl47 HG47
                        (first | simp only [add_plain] at hx188_0 | skip)
                        (first | simp only [add_plain] at hx188_1 | skip)
                        (first | simp only [add_plain] at hx188_2 | skip)
                        (first | simp only [add_plain] at hx188_3 | skip)
                        (first | simp only [add_plain] at hx188_4 | skip)
                        (first | simp only [add_plain] at hx189_0 | skip)
                        (first | simp only [add_plain] at hx189_1 | skip)
                        (first | simp only [add_plain] at hx189_2 | skip)
                        (first | simp only [add_plain] at hx189_3 | skip)
                        (first | simp only [add_plain] at hx189_4 | skip)
                        obtain ⟨ce47, hcl47, hM47, hcc47, hfr47⟩ := Kd.R_elem HO179.out z47 (t180 : Int) p47 q47
                        obtain rfl := k47_openM hM47
                        have hx47_0 : w14.cell? ⟨go47, (t180 : Int).toNat * 5, none⟩ = some (.int .i64 ((rd_T47 t177 t180).f0)) := hcc47 0 _ rfl
                        have hx47_1 : w14.cell? ⟨go47, (t180 : Int).toNat * 5 + 1, none⟩ = some (.bool ((rd_T47 t177 t180).f1)) := hcc47 1 _ rfl
                        have hx47_2 : w14.cell? ⟨go47, (t180 : Int).toNat * 5 + 2, none⟩ = some (.bool ((rd_T47 t177 t180).f2)) := hcc47 2 _ rfl
                        have hx47_3 : w14.cell? ⟨go47, (t180 : Int).toNat * 5 + 3, none⟩ = some (.int .u64 ((rd_T47 t177 t180).f3)) := hcc47 3 _ rfl
                        have hx47_4 : w14.cell? ⟨go47, (t180 : Int).toNat * 5 + 4, none⟩ = some (.int .i64 ((rd_T47 t177 t180).f4)) := hcc47 4 _ rfl
                        have hf47_0 : w14.frozen? ⟨go47, (t180 : Int).toNat * 5, none⟩ = false := hfr47 0
                        have hf47_1 : w14.frozen? ⟨go47, (t180 : Int).toNat * 5 + 1, none⟩ = false := hfr47 1
                        have hf47_2 : w14.frozen? ⟨go47, (t180 : Int).toNat * 5 + 2, none⟩ = false := hfr47 2
                        have hf47_3 : w14.frozen? ⟨go47, (t180 : Int).toNat * 5 + 3, none⟩ = false := hfr47 3
                        have hf47_4 : w14.frozen? ⟨go47, (t180 : Int).toNat * 5 + 4, none⟩ = false := hfr47 4
                        clear hcl47 hcc47 hfr47 hM47
                        replace p47 := eq_true p47
                        replace q47 := eq_true q47
                        have HX48 := Aside0.mk (show Kd.R k47 47 w14 w.heap.size (fun _ => True) (.slice (some ⟨go47, 0, none⟩) t177.length co15) t177 from (by (with_reducible repeat (first | apply Kd.R_alloc | apply Kd.R_drewN | apply Kd.R_drew)); exact HO179.out))
                        obtain ⟨ce48, hcl48, hM48, hcc48, hfr48⟩ := Kd.R_elem HX48.out z47 (t180 : Int) (of_decide_eq_true (by first | (with_reducible assumption) | assumption)) (by have h_ : (t180 : Int) < ((t177.length : Int) : Int) := of_decide_eq_true (by first | (with_reducible assumption) | assumption); first | exact h_ | (have e_ := (Kd.R_reads' HO179.out).1; omega) | simpa using h_)
                        obtain rfl := k47_openM hM48
                        have HP48 := Kd.R_seg HX48.out (t180 : Int) (of_decide_eq_true (by first | (with_reducible assumption) | assumption)) (by have h_ : (t180 : Int) < ((t177.length : Int) : Int) := of_decide_eq_true (by first | (with_reducible assumption) | assumption); first | exact h_ | (have e_ := (Kd.R_reads' HO179.out).1; omega) | simpa using h_) (seg := [.int .u64 9]) (j := 3) hcl48 hcc48 (show 4 ≤ 5 from by decide) (x' := (⟨(rd_T47 t177 t180).f0, (rd_T47 t177 t180).f1, (rd_T47 t177 t180).f2, 9, (rd_T47 t177 t180).f4⟩ : S47)) (k47_mkM _ _ _ (⟨(rd_T47 t177 t180).f0, (rd_T47 t177 t180).f1, (rd_T47 t177 t180).f2, 9, (rd_T47 t177 t180).f4⟩ : S47) ) (fun _ hk => hk)
                        have hx48_3 := hcc48 3 _ rfl
                        (try simp only [show (k47).sz = 5 from rfl, Nat.mul_one, Nat.add_zero] at hx48_3)
                        have hf48_3 := hfr48 3
                        (try simp only [show (k47).sz = 5 from rfl, Nat.mul_one, Nat.add_zero] at hf48_3)
                        clear hcl48 hcc48 hfr48 hM48
                        go_wp2_with (first | ((with_reducible refine gate_store (t := 42) (p := 53) rfl ?_); (try (rw [drewN_self w14]; generalize hq_ : World.drewN w14 _ = w14; have n0_ := Aside0.mk (Kd.R_at hq_ HO179.out); have n1_ := Aside0.mk (below_at hq_ HB.out); clear hq_ HO179 HB; have HO179 := n0_; have HB := n1_; clear n0_ n1_; (try (have HX48 := Aside0.mk (show Kd.R k47 47 w14 w.heap.size (fun _ => True) (.slice (some ⟨go47, 0, none⟩) t177.length co15) t177 from (by (with_reducible repeat (first | apply Kd.R_alloc | apply Kd.R_drewN | apply Kd.R_drew)); exact HO179.out)))); (try (obtain ⟨ce48, hcl48, hM48, hcc48, hfr48⟩ := Kd.R_elem HX48.out z47 (t180 : Int) (of_decide_eq_true (by first | (with_reducible assumption) | assumption)) (by have h_ : (t180 : Int) < ((t177.length : Int) : Int) := of_decide_eq_true (by first | (with_reducible assumption) | assumption); first | exact h_ | (have e_ := (Kd.R_reads' HO179.out).1; omega) | simpa using h_))); (try (obtain rfl := k47_openM hM48)); (try (have HP48 := Kd.R_seg HX48.out (t180 : Int) (of_decide_eq_true (by first | (with_reducible assumption) | assumption)) (by have h_ : (t180 : Int) < ((t177.length : Int) : Int) := of_decide_eq_true (by first | (with_reducible assumption) | assumption); first | exact h_ | (have e_ := (Kd.R_reads' HO179.out).1; omega) | simpa using h_) (seg := [.int .u64 9]) (j := 3) hcl48 hcc48 (show 4 ≤ 5 from by decide) (x' := (⟨(rd_T47 t177 t180).f0, (rd_T47 t177 t180).f1, (rd_T47 t177 t180).f2, 9, (rd_T47 t177 t180).f4⟩ : S47)) (k47_mkM _ _ _ (⟨(rd_T47 t177 t180).f0, (rd_T47 t177 t180).f1, (rd_T47 t177 t180).f2, 9, (rd_T47 t177 t180).f4⟩ : S47) ) (fun _ hk => hk))); (try (have hx48_3 := hcc48 3 _ rfl)); (try (try simp only [show (k47).sz = 5 from rfl, Nat.mul_one, Nat.add_zero] at hx48_3)); (try (have hf48_3 := hfr48 3)); (try (try simp only [show (k47).sz = 5 from rfl, Nat.mul_one, Nat.add_zero] at hf48_3)); (try (clear hcl48 hcc48 hfr48 hM48)))); refine store_event (t := 42) (p := 53) (v := ?vo_w49) (w1 := (w14.setCell ⟨go47, (t180 : Int).toNat * 5 + 3, none⟩ (.int .u64 9))) ?hg ?ho ?hn ?hr ?_; (case ho => rfl); (case hg => rfl); (case hn => rfl); (case hr => first | (go_simp; done) | (go_simp; rfl)); intro w49 hw; have hg : w14.grownBy w49 (some go47) := (by rw [hw]; exact HP48.2); have hp_ : Kd.R k47 47 w49 w.heap.size (fun _ => True) (.slice (some ⟨go47, 0, none⟩) t177.length co15) y190 := (by rw [hw, Ny190.out]; exact HP48.1); clear HP48; have n0_ := Aside0.mk (hp_); have n1_ := Aside0.mk ((by rw [hw]; exact below_set (HB.out) GB47.out : Below w.heap.size w w49)); clear HO179; clear HB; have HO179 := n0_; have HB := n1_; clear n0_ n1_; clear hg hw hp_))
                        repeat (go_quiet (first | ((with_reducible refine gate_store (t := 42) (p := 53) rfl ?_); (try (rw [drewN_self w14]; generalize hq_ : World.drewN w14 _ = w14; have n0_ := Aside0.mk (Kd.R_at hq_ HO179.out); have n1_ := Aside0.mk (below_at hq_ HB.out); clear hq_ HO179 HB; have HO179 := n0_; have HB := n1_; clear n0_ n1_; (try (have HX48 := Aside0.mk (show Kd.R k47 47 w14 w.heap.size (fun _ => True) (.slice (some ⟨go47, 0, none⟩) t177.length co15) t177 from (by (with_reducible repeat (first | apply Kd.R_alloc | apply Kd.R_drewN | apply Kd.R_drew)); exact HO179.out)))); (try (obtain ⟨ce48, hcl48, hM48, hcc48, hfr48⟩ := Kd.R_elem HX48.out z47 (t180 : Int) (of_decide_eq_true (by first | (with_reducible assumption) | assumption)) (by have h_ : (t180 : Int) < ((t177.length : Int) : Int) := of_decide_eq_true (by first | (with_reducible assumption) | assumption); first | exact h_ | (have e_ := (Kd.R_reads' HO179.out).1; omega) | simpa using h_))); (try (obtain rfl := k47_openM hM48)); (try (have HP48 := Kd.R_seg HX48.out (t180 : Int) (of_decide_eq_true (by first | (with_reducible assumption) | assumption)) (by have h_ : (t180 : Int) < ((t177.length : Int) : Int) := of_decide_eq_true (by first | (with_reducible assumption) | assumption); first | exact h_ | (have e_ := (Kd.R_reads' HO179.out).1; omega) | simpa using h_) (seg := [.int .u64 9]) (j := 3) hcl48 hcc48 (show 4 ≤ 5 from by decide) (x' := (⟨(rd_T47 t177 t180).f0, (rd_T47 t177 t180).f1, (rd_T47 t177 t180).f2, 9, (rd_T47 t177 t180).f4⟩ : S47)) (k47_mkM _ _ _ (⟨(rd_T47 t177 t180).f0, (rd_T47 t177 t180).f1, (rd_T47 t177 t180).f2, 9, (rd_T47 t177 t180).f4⟩ : S47) ) (fun _ hk => hk))); (try (have hx48_3 := hcc48 3 _ rfl)); (try (try simp only [show (k47).sz = 5 from rfl, Nat.mul_one, Nat.add_zero] at hx48_3)); (try (have hf48_3 := hfr48 3)); (try (try simp only [show (k47).sz = 5 from rfl, Nat.mul_one, Nat.add_zero] at hf48_3)); (try (clear hcl48 hcc48 hfr48 hM48)))); refine store_event (t := 42) (p := 53) (v := ?vo_w49) (w1 := (w14.setCell ⟨go47, (t180 : Int).toNat * 5 + 3, none⟩ (.int .u64 9))) ?hg ?ho ?hn ?hr ?_; (case ho => rfl); (case hg => rfl); (case hn => rfl); (case hr => first | (go_simp; done) | (go_simp; rfl)); intro w49 hw; have hg : w14.grownBy w49 (some go47) := (by rw [hw]; exact HP48.2); have hp_ : Kd.R k47 47 w49 w.heap.size (fun _ => True) (.slice (some ⟨go47, 0, none⟩) t177.length co15) y190 := (by rw [hw, Ny190.out]; exact HP48.1); clear HP48; have n0_ := Aside0.mk (hp_); have n1_ := Aside0.mk ((by rw [hw]; exact below_set (HB.out) GB47.out : Below w.heap.size w w49)); clear HO179; clear HB; have HO179 := n0_; have HB := n1_; clear n0_ n1_; clear hg hw hp_)); try go_wp2_with (first | ((with_reducible refine gate_store (t := 42) (p := 53) rfl ?_); (try (rw [drewN_self w14]; generalize hq_ : World.drewN w14 _ = w14; have n0_ := Aside0.mk (Kd.R_at hq_ HO179.out); have n1_ := Aside0.mk (below_at hq_ HB.out); clear hq_ HO179 HB; have HO179 := n0_; have HB := n1_; clear n0_ n1_; (try (have HX48 := Aside0.mk (show Kd.R k47 47 w14 w.heap.size (fun _ => True) (.slice (some ⟨go47, 0, none⟩) t177.length co15) t177 from (by (with_reducible repeat (first | apply Kd.R_alloc | apply Kd.R_drewN | apply Kd.R_drew)); exact HO179.out)))); (try (obtain ⟨ce48, hcl48, hM48, hcc48, hfr48⟩ := Kd.R_elem HX48.out z47 (t180 : Int) (of_decide_eq_true (by first | (with_reducible assumption) | assumption)) (by have h_ : (t180 : Int) < ((t177.length : Int) : Int) := of_decide_eq_true (by first | (with_reducible assumption) | assumption); first | exact h_ | (have e_ := (Kd.R_reads' HO179.out).1; omega) | simpa using h_))); (try (obtain rfl := k47_openM hM48)); (try (have HP48 := Kd.R_seg HX48.out (t180 : Int) (of_decide_eq_true (by first | (with_reducible assumption) | assumption)) (by have h_ : (t180 : Int) < ((t177.length : Int) : Int) := of_decide_eq_true (by first | (with_reducible assumption) | assumption); first | exact h_ | (have e_ := (Kd.R_reads' HO179.out).1; omega) | simpa using h_) (seg := [.int .u64 9]) (j := 3) hcl48 hcc48 (show 4 ≤ 5 from by decide) (x' := (⟨(rd_T47 t177 t180).f0, (rd_T47 t177 t180).f1, (rd_T47 t177 t180).f2, 9, (rd_T47 t177 t180).f4⟩ : S47)) (k47_mkM _ _ _ (⟨(rd_T47 t177 t180).f0, (rd_T47 t177 t180).f1, (rd_T47 t177 t180).f2, 9, (rd_T47 t177 t180).f4⟩ : S47) ) (fun _ hk => hk))); (try (have hx48_3 := hcc48 3 _ rfl)); (try (try simp only [show (k47).sz = 5 from rfl, Nat.mul_one, Nat.add_zero] at hx48_3)); (try (have hf48_3 := hfr48 3)); (try (try simp only [show (k47).sz = 5 from rfl, Nat.mul_one, Nat.add_zero] at hf48_3)); (try (clear hcl48 hcc48 hfr48 hM48)))); refine store_event (t := 42) (p := 53) (v := ?vo_w49) (w1 := (w14.setCell ⟨go47, (t180 : Int).toNat * 5 + 3, none⟩ (.int .u64 9))) ?hg ?ho ?hn ?hr ?_; (case ho => rfl); (case hg => rfl); (case hn => rfl); (case hr => first | (go_simp; done) | (go_simp; rfl)); intro w49 hw; have hg : w14.grownBy w49 (some go47) := (by rw [hw]; exact HP48.2); have hp_ : Kd.R k47 47 w49 w.heap.size (fun _ => True) (.slice (some ⟨go47, 0, none⟩) t177.length co15) y190 := (by rw [hw, Ny190.out]; exact HP48.1); clear HP48; have n0_ := Aside0.mk (hp_); have n1_ := Aside0.mk ((by rw [hw]; exact below_set (HB.out) GB47.out : Below w.heap.size w w49)); clear HO179; clear HB; have HO179 := n0_; have HB := n1_; clear n0_ n1_; clear hg hw hp_)))
                        go_meet
                        case rel => exact ⟨_, (y190), (3), (by first | rfl | (simp; done) | (simp [*]; done)), H', ⟨by have := HJ4.out; first | omega | exact Nat.le_refl _⟩, ⟨by (with_reducible repeat (first | apply Kd.R_alloc | apply Kd.R_drewN | apply Kd.R_drew)); exact HO179.out⟩, ⟨by repeat (first | (with_reducible first | exact HB.out | apply below_alloc | apply pw_below_drewN | apply below_drew1) | exact HB.out)⟩⟩
                      · rw [if_neg c46] at H
                        have c46b0 : (((rd_T47 t177 t180).f2) == ((rd_T47 t177 t180).f1)) = false := by simpa using c46
                        (try (have c46b1 : decide (((rd_T47 t177 t180).f2) = ((rd_T47 t177 t180).f1)) = false := by simpa using c46))
                        (try (have c46b2 : (((rd_T47 t177 t180).f2) == ((rd_T47 t177 t180).f1)) = false := by simpa using c46))
                        (try (have c46b3 : ¬ (((rd_T47 t177 t180).f2) = ((rd_T47 t177 t180).f1)) := by simpa using c46))
                        clear c46
                        obtain ⟨y191, hy191⟩ : ∃ y_ : List (S47), y_ = (t177.set (t180 : Int).toNat (⟨(rd_T47 t177 t180).f0, (rd_T47 t177 t180).f1, (rd_T47 t177 t180).f2, (rd_T47 t177 t180).f3, 3⟩ : S47)) := ⟨_, rfl⟩
                        replace H : (hatstandlaw14_HistorySpoils.j1 kj4 y191 t180 3) = some r := by first | (rw [hy191]; with_reducible exact H) | (have H2_ := (Option.bind_some _ _).symm.trans H; rw [hy191]; with_reducible exact H2_) | (have H2_ := (Option.bind_some _ _).symm.trans H; with_reducible exact H2_) | with_reducible exact H | (rw [hy191]; exact H) | exact H
                        have Ny191 := Aside0.mk hy191
                        clear hy191
                        have H' := Aside0.mk H
                        clear H
                        have p188 : 0 ≤ (t180 : Int) := of_decide_eq_true (by first | (with_reducible assumption) | assumption)
                        have q188 : t180 < (t177.length : Int) := of_decide_eq_true (by first | (with_reducible assumption) | assumption)
                        obtain ⟨ad188, e188, hx188_0, hx188_1, hx188_2, hx188_3, hx188_4⟩ := at_T47 (Kd.R_reads' HO179.out).2.2 t180 p188 q188
                        cases e188
                        replace p188 := eq_true p188
                        replace q188 := eq_true q188
                        have p189 : 0 ≤ (t180 : Int) := of_decide_eq_true (by first | (with_reducible assumption) | assumption)
                        have q189 : t180 < (t177.length : Int) := of_decide_eq_true (by first | (with_reducible assumption) | assumption)
                        obtain ⟨ad189, e189, hx189_0, hx189_1, hx189_2, hx189_3, hx189_4⟩ := at_T47 (Kd.R_reads' HO179.out).2.2 t180 p189 q189
                        obtain rfl : ad188 = ad189 := (by injection e189)
                        replace p189 := eq_true p189
                        replace q189 := eq_true q189
                        have p50 : 0 ≤ (t180 : Int) := of_decide_eq_true (by first | (with_reducible assumption) | assumption)
                        have q50 : (t180 : Int) < ((t177.length : Int) : Int) := of_decide_eq_true (by first | (with_reducible assumption) | assumption)
                        obtain ⟨go50, co50, eo50, gb50, gl50, cl50, HG50⟩ := Kd.R_form HO179.out (by omega)
                        (first | cases eo50 | (injection eo50 with ea_ en_ ec_; (first | subst ea_ | (injection ea_ with ea_; subst ea_)); subst ec_; clear en_))
                        have GB50 := Aside0.mk gb50
                        have GG50 := Aside0.mk HG50
                        clear gb50 gl50 HG50
                        (first | simp only [add_plain] at hx188_0 | skip)
                        (first | simp only [add_plain] at hx188_1 | skip)
                        (first | simp only [add_plain] at hx188_2 | skip)
                        (first | simp only [add_plain] at hx188_3 | skip)
                        (first | simp only [add_plain] at hx188_4 | skip)
                        (first | simp only [add_plain] at hx189_0 | skip)
                        (first | simp only [add_plain] at hx189_1 | skip)
                        (first | simp only [add_plain] at hx189_2 | skip)
                        (first | simp only [add_plain] at hx189_3 | skip)
                        (first | simp only [add_plain] at hx189_4 | skip)
                        obtain ⟨ce50, hcl50, hM50, hcc50, hfr50⟩ := Kd.R_elem HO179.out z47 (t180 : Int) p50 q50
                        obtain rfl := k47_openM hM50
                        have hx50_0 : w14.cell? ⟨go50, (t180 : Int).toNat * 5, none⟩ = some (.int .i64 ((rd_T47 t177 t180).f0)) := hcc50 0 _ rfl
                        have hx50_1 : w14.cell? ⟨go50, (t180 : Int).toNat * 5 + 1, none⟩ = some (.bool ((rd_T47 t177 t180).f1)) := hcc50 1 _ rfl
                        have hx50_2 : w14.cell? ⟨go50, (t180 : Int).toNat * 5 + 2, none⟩ = some (.bool ((rd_T47 t177 t180).f2)) := hcc50 2 _ rfl
                        have hx50_3 : w14.cell? ⟨go50, (t180 : Int).toNat * 5 + 3, none⟩ = some (.int .u64 ((rd_T47 t177 t180).f3)) := hcc50 3 _ rfl
                        have hx50_4 : w14.cell? ⟨go50, (t180 : Int).toNat * 5 + 4, none⟩ = some (.int .i64 ((rd_T47 t177 t180).f4)) := hcc50 4 _ rfl
                        have hf50_0 : w14.frozen? ⟨go50, (t180 : Int).toNat * 5, none⟩ = false := hfr50 0
                        have hf50_1 : w14.frozen? ⟨go50, (t180 : Int).toNat * 5 + 1, none⟩ = false := hfr50 1
                        have hf50_2 : w14.frozen? ⟨go50, (t180 : Int).toNat * 5 + 2, none⟩ = false := hfr50 2
                        have hf50_3 : w14.frozen? ⟨go50, (t180 : Int).toNat * 5 + 3, none⟩ = false := hfr50 3
                        have hf50_4 : w14.frozen? ⟨go50, (t180 : Int).toNat * 5 + 4, none⟩ = false := hfr50 4
                        clear hcl50 hcc50 hfr50 hM50
                        replace p50 := eq_true p50
                        replace q50 := eq_true q50
                        have HX51 := Aside0.mk (show Kd.R k47 47 w14 w.heap.size (fun _ => True) (.slice (some ⟨go50, 0, none⟩) t177.length co15) t177 from (by (with_reducible repeat (first | apply Kd.R_alloc | apply Kd.R_drewN | apply Kd.R_drew)); exact HO179.out))
                        obtain ⟨ce51, hcl51, hM51, hcc51, hfr51⟩ := Kd.R_elem HX51.out z47 (t180 : Int) (of_decide_eq_true (by first | (with_reducible assumption) | assumption)) (by have h_ : (t180 : Int) < ((t177.length : Int) : Int) := of_decide_eq_true (by first | (with_reducible assumption) | assumption); first | exact h_ | (have e_ := (Kd.R_reads' HO179.out).1; omega) | simpa using h_)
                        obtain rfl := k47_openM hM51
                        have HP51 := Kd.R_seg HX51.out (t180 : Int) (of_decide_eq_true (by first | (with_reducible assumption) | assumption)) (by have h_ : (t180 : Int) < ((t177.length : Int) : Int) := of_decide_eq_true (by first | (with_reducible assumption) | assumption); first | exact h_ | (have e_ := (Kd.R_reads' HO179.out).1; omega) | simpa using h_) (seg := [.int .i64 3]) (j := 4) hcl51 hcc51 (show 5 ≤ 5 from by decide) (x' := (⟨(rd_T47 t177 t180).f0, (rd_T47 t177 t180).f1, (rd_T47 t177 t180).f2, (rd_T47 t177 t180).f3, 3⟩ : S47)) (k47_mkM _ _ _ (⟨(rd_T47 t177 t180).f0, (rd_T47 t177 t180).f1, (rd_T47 t177 t180).f2, (rd_T47 t177 t180).f3, 3⟩ : S47) ) (fun _ hk => hk)
                        have hx51_4 := hcc51 4 _ rfl
                        (try simp only [show (k47).sz = 5 from rfl, Nat.mul_one, Nat.add_zero] at hx51_4)
                        have hf51_4 := hfr51 4
                        (try simp only [show (k47).sz = 5 from rfl, Nat.mul_one, Nat.add_zero] at hf51_4)
                        clear hcl51 hcc51 hfr51 hM51
                        go_wp2_with (first | ((with_reducible refine gate_store (t := 43) (p := 57) rfl ?_); (try (rw [drewN_self w14]; generalize hq_ : World.drewN w14 _ = w14; have n0_ := Aside0.mk (Kd.R_at hq_ HO179.out); have n1_ := Aside0.mk (below_at hq_ HB.out); clear hq_ HO179 HB; have HO179 := n0_; have HB := n1_; clear n0_ n1_; (try (have HX51 := Aside0.mk (show Kd.R k47 47 w14 w.heap.size (fun _ => True) (.slice (some ⟨go50, 0, none⟩) t177.length co15) t177 from (by (with_reducible repeat (first | apply Kd.R_alloc | apply Kd.R_drewN | apply Kd.R_drew)); exact HO179.out)))); (try (obtain ⟨ce51, hcl51, hM51, hcc51, hfr51⟩ := Kd.R_elem HX51.out z47 (t180 : Int) (of_decide_eq_true (by first | (with_reducible assumption) | assumption)) (by have h_ : (t180 : Int) < ((t177.length : Int) : Int) := of_decide_eq_true (by first | (with_reducible assumption) | assumption); first | exact h_ | (have e_ := (Kd.R_reads' HO179.out).1; omega) | simpa using h_))); (try (obtain rfl := k47_openM hM51)); (try (have HP51 := Kd.R_seg HX51.out (t180 : Int) (of_decide_eq_true (by first | (with_reducible assumption) | assumption)) (by have h_ : (t180 : Int) < ((t177.length : Int) : Int) := of_decide_eq_true (by first | (with_reducible assumption) | assumption); first | exact h_ | (have e_ := (Kd.R_reads' HO179.out).1; omega) | simpa using h_) (seg := [.int .i64 3]) (j := 4) hcl51 hcc51 (show 5 ≤ 5 from by decide) (x' := (⟨(rd_T47 t177 t180).f0, (rd_T47 t177 t180).f1, (rd_T47 t177 t180).f2, (rd_T47 t177 t180).f3, 3⟩ : S47)) (k47_mkM _ _ _ (⟨(rd_T47 t177 t180).f0, (rd_T47 t177 t180).f1, (rd_T47 t177 t180).f2, (rd_T47 t177 t180).f3, 3⟩ : S47) ) (fun _ hk => hk))); (try (have hx51_4 := hcc51 4 _ rfl)); (try (try simp only [show (k47).sz = 5 from rfl, Nat.mul_one, Nat.add_zero] at hx51_4)); (try (have hf51_4 := hfr51 4)); (try (try simp only [show (k47).sz = 5 from rfl, Nat.mul_one, Nat.add_zero] at hf51_4)); (try (clear hcl51 hcc51 hfr51 hM51)))); refine store_event (t := 43) (p := 57) (v := ?vo_w52) (w1 := (w14.setCell ⟨go50, (t180 : Int).toNat * 5 + 4, none⟩ (.int .i64 3))) ?hg ?ho ?hn ?hr ?_; (case ho => rfl); (case hg => rfl); (case hn => rfl); (case hr => first | (go_simp; done) | (go_simp; rfl)); intro w52 hw; have hg : w14.grownBy w52 (some go50) := (by rw [hw]; exact HP51.2); have hp_ : Kd.R k47 47 w52 w.heap.size (fun _ => True) (.slice (some ⟨go50, 0, none⟩) t177.length co15) y191 := (by rw [hw, Ny191.out]; exact HP51.1); clear HP51; have n0_ := Aside0.mk (hp_); have n1_ := Aside0.mk ((by rw [hw]; exact below_set (HB.out) GB50.out : Below w.heap.size w w52)); clear HO179; clear HB; have HO179 := n0_; have HB := n1_; clear n0_ n1_; clear hg hw hp_))
                        repeat (go_quiet (first | ((with_reducible refine gate_store (t := 43) (p := 57) rfl ?_); (try (rw [drewN_self w14]; generalize hq_ : World.drewN w14 _ = w14; have n0_ := Aside0.mk (Kd.R_at hq_ HO179.out); have n1_ := Aside0.mk (below_at hq_ HB.out); clear hq_ HO179 HB; have HO179 := n0_; have HB := n1_; clear n0_ n1_; (try (have HX51 := Aside0.mk (show Kd.R k47 47 w14 w.heap.size (fun _ => True) (.slice (some ⟨go50, 0, none⟩) t177.length co15) t177 from (by (with_reducible repeat (first | apply Kd.R_alloc | apply Kd.R_drewN | apply Kd.R_drew)); exact HO179.out)))); (try (obtain ⟨ce51, hcl51, hM51, hcc51, hfr51⟩ := Kd.R_elem HX51.out z47 (t180 : Int) (of_decide_eq_true (by first | (with_reducible assumption) | assumption)) (by have h_ : (t180 : Int) < ((t177.length : Int) : Int) := of_decide_eq_true (by first | (with_reducible assumption) | assumption); first | exact h_ | (have e_ := (Kd.R_reads' HO179.out).1; omega) | simpa using h_))); (try (obtain rfl := k47_openM hM51)); (try (have HP51 := Kd.R_seg HX51.out (t180 : Int) (of_decide_eq_true (by first | (with_reducible assumption) | assumption)) (by have h_ : (t180 : Int) < ((t177.length : Int) : Int) := of_decide_eq_true (by first | (with_reducible assumption) | assumption); first | exact h_ | (have e_ := (Kd.R_reads' HO179.out).1; omega) | simpa using h_) (seg := [.int .i64 3]) (j := 4) hcl51 hcc51 (show 5 ≤ 5 from by decide) (x' := (⟨(rd_T47 t177 t180).f0, (rd_T47 t177 t180).f1, (rd_T47 t177 t180).f2, (rd_T47 t177 t180).f3, 3⟩ : S47)) (k47_mkM _ _ _ (⟨(rd_T47 t177 t180).f0, (rd_T47 t177 t180).f1, (rd_T47 t177 t180).f2, (rd_T47 t177 t180).f3, 3⟩ : S47) ) (fun _ hk => hk))); (try (have hx51_4 := hcc51 4 _ rfl)); (try (try simp only [show (k47).sz = 5 from rfl, Nat.mul_one, Nat.add_zero] at hx51_4)); (try (have hf51_4 := hfr51 4)); (try (try simp only [show (k47).sz = 5 from rfl, Nat.mul_one, Nat.add_zero] at hf51_4)); (try (clear hcl51 hcc51 hfr51 hM51)))); refine store_event (t := 43) (p := 57) (v := ?vo_w52) (w1 := (w14.setCell ⟨go50, (t180 : Int).toNat * 5 + 4, none⟩ (.int .i64 3))) ?hg ?ho ?hn ?hr ?_; (case ho => rfl); (case hg => rfl); (case hn => rfl); (case hr => first | (go_simp; done) | (go_simp; rfl)); intro w52 hw; have hg : w14.grownBy w52 (some go50) := (by rw [hw]; exact HP51.2); have hp_ : Kd.R k47 47 w52 w.heap.size (fun _ => True) (.slice (some ⟨go50, 0, none⟩) t177.length co15) y191 := (by rw [hw, Ny191.out]; exact HP51.1); clear HP51; have n0_ := Aside0.mk (hp_); have n1_ := Aside0.mk ((by rw [hw]; exact below_set (HB.out) GB50.out : Below w.heap.size w w52)); clear HO179; clear HB; have HO179 := n0_; have HB := n1_; clear n0_ n1_; clear hg hw hp_)); try go_wp2_with (first | ((with_reducible refine gate_store (t := 43) (p := 57) rfl ?_); (try (rw [drewN_self w14]; generalize hq_ : World.drewN w14 _ = w14; have n0_ := Aside0.mk (Kd.R_at hq_ HO179.out); have n1_ := Aside0.mk (below_at hq_ HB.out); clear hq_ HO179 HB; have HO179 := n0_; have HB := n1_; clear n0_ n1_; (try (have HX51 := Aside0.mk (show Kd.R k47 47 w14 w.heap.size (fun _ => True) (.slice (some ⟨go50, 0, none⟩) t177.length co15) t177 from (by (with_reducible repeat (first | apply Kd.R_alloc | apply Kd.R_drewN | apply Kd.R_drew)); exact HO179.out)))); (try (obtain ⟨ce51, hcl51, hM51, hcc51, hfr51⟩ := Kd.R_elem HX51.out z47 (t180 : Int) (of_decide_eq_true (by first | (with_reducible assumption) | assumption)) (by have h_ : (t180 : Int) < ((t177.length : Int) : Int) := of_decide_eq_true (by first | (with_reducible assumption) | assumption); first | exact h_ | (have e_ := (Kd.R_reads' HO179.out).1; omega) | simpa using h_))); (try (obtain rfl := k47_openM hM51)); (try (have HP51 := Kd.R_seg HX51.out (t180 : Int) (of_decide_eq_true (by first | (with_reducible assumption) | assumption)) (by have h_ : (t180 : Int) < ((t177.length : Int) : Int) := of_decide_eq_true (by first | (with_reducible assumption) | assumption); first | exact h_ | (have e_ := (Kd.R_reads' HO179.out).1; omega) | simpa using h_) (seg := [.int .i64 3]) (j := 4) hcl51 hcc51 (show 5 ≤ 5 from by decide) (x' := (⟨(rd_T47 t177 t180).f0, (rd_T47 t177 t180).f1, (rd_T47 t177 t180).f2, (rd_T47 t177 t180).f3, 3⟩ : S47)) (k47_mkM _ _ _ (⟨(rd_T47 t177 t180).f0, (rd_T47 t177 t180).f1, (rd_T47 t177 t180).f2, (rd_T47 t177 t180).f3, 3⟩ : S47) ) (fun _ hk => hk))); (try (have hx51_4 := hcc51 4 _ rfl)); (try (try simp only [show (k47).sz = 5 from rfl, Nat.mul_one, Nat.add_zero] at hx51_4)); (try (have hf51_4 := hfr51 4)); (try (try simp only [show (k47).sz = 5 from rfl, Nat.mul_one, Nat.add_zero] at hf51_4)); (try (clear hcl51 hcc51 hfr51 hM51)))); refine store_event (t := 43) (p := 57) (v := ?vo_w52) (w1 := (w14.setCell ⟨go50, (t180 : Int).toNat * 5 + 4, none⟩ (.int .i64 3))) ?hg ?ho ?hn ?hr ?_; (case ho => rfl); (case hg => rfl); (case hn => rfl); (case hr => first | (go_simp; done) | (go_simp; rfl)); intro w52 hw; have hg : w14.grownBy w52 (some go50) := (by rw [hw]; exact HP51.2); have hp_ : Kd.R k47 47 w52 w.heap.size (fun _ => True) (.slice (some ⟨go50, 0, none⟩) t177.length co15) y191 := (by rw [hw, Ny191.out]; exact HP51.1); clear HP51; have n0_ := Aside0.mk (hp_); have n1_ := Aside0.mk ((by rw [hw]; exact below_set (HB.out) GB50.out : Below w.heap.size w w52)); clear HO179; clear HB; have HO179 := n0_; have HB := n1_; clear n0_ n1_; clear hg hw hp_)))
                        go_meet
                        case rel => exact ⟨_, (y191), (3), (by first | rfl | (simp; done) | (simp [*]; done)), H', ⟨by have := HJ4.out; first | omega | exact Nat.le_refl _⟩, ⟨by (with_reducible repeat (first | apply Kd.R_alloc | apply Kd.R_drewN | apply Kd.R_drew)); exact HO179.out⟩, ⟨by repeat (first | (with_reducible first | exact HB.out | apply below_alloc | apply pw_below_drewN | apply below_drew1) | exact HB.out)⟩⟩
                    · rw [if_neg c45] at H
                      exact absurd H (by simp)
                  · rw [if_neg c44] at H
                    exact absurd H (by simp)
        case rest =>
          clear HC13
          try clear c1
          try clear p1
          try clear q1
          try clear hx1
          try clear c2
          try clear p2
          try clear q2
          try clear hx2
          try clear c3
          try clear p3
          try clear q3
          try clear hx3
          try clear hf3
          try clear c4
          try clear p4
          try clear q4
          try clear hx4
          try clear hf4
          try clear c5
          try clear p5
          try clear q5
          try clear hx5
          try clear hf5
          try clear c7
          try clear c8
          try clear c8b0
          try clear c8b1
          try clear c8b2
          try clear c9
          try clear c16
          try clear c16b0
          try clear c16b1
          try clear c17
          try clear c17b0
          try clear c18
          try clear c18b0
          try clear p18
          try clear q18
          try clear hx18
          try clear c19
          try clear p19
          try clear q19
          try clear hx19
          try clear hf19
          try clear c20
          try clear hx20
          try clear hf20
          try clear c22
          try clear c22b0
          try clear c22b1
          try clear c23
          try clear c23b0
          try clear c24
          try clear c24b0
          try clear c25
          try clear p25
          try clear q25
          try clear hx25
          try clear hf25
          try clear c26
          try clear hx26
          try clear hf26
          try clear c28
          try clear c28b0
          try clear c28b1
          try clear c29
          try clear c29b0
          try clear c30
          try clear c30b0
          try clear c31
          try clear p31
          try clear q31
          try clear hx31
          try clear hf31
          try clear q32
          try clear c33
          try clear c34
          try clear hx34
          try clear hf34
          try clear c36
          try clear hx36
          try clear hf36
          try clear c38
          try clear c38b0
          try clear c38b1
          try clear c39
          try clear c39b0
          try clear c40
          try clear c40b0
          try clear c41
          try clear p41
          try clear q41
          try clear hx41
          try clear hf41
          try clear c42
          try clear hx42
          try clear hf42
          try clear c44
          try clear c44b0
          try clear c45
          try clear c45b0
          try clear c46
          try clear c46b0
          try clear c46b1
          try clear c46b2
          try clear c47
          try clear p47
          try clear q47
          try clear hx47
          try clear hf47
          try clear c48
          try clear hx48
          try clear hf48
          try clear c50
          try clear p50
          try clear q50
          try clear hx50
          try clear hf50
          try clear c51
          try clear hx51
          try clear hf51
          try clear hx184_0
          try clear hx184_1
          try clear hx184_2
          try clear hx184_3
          try clear hx184_4
          try clear hx186_0
          try clear hx186_1
          try clear hx186_2
          try clear hx186_3
          try clear hx186_4
          try clear hx188_0
          try clear hx188_1
          try clear hx188_2
          try clear hx188_3
          try clear hx188_4
          try clear hx189_0
          try clear hx189_1
          try clear hx189_2
          try clear hx189_3
          try clear hx189_4
          try clear hx19_0
          try clear hx19_1
          try clear hx19_2
          try clear hx19_3
          try clear hx19_4
          try clear hx20_0
          try clear hx25_0
          try clear hx25_1
          try clear hx25_2
          try clear hx25_3
          try clear hx25_4
          try clear hx26_0
          try clear hx31_0
          try clear hx31_1
          try clear hx31_2
          try clear hx31_3
          try clear hx31_4
          try clear hx34_1
          try clear hx36_1
          try clear hx41_0
          try clear hx41_1
          try clear hx41_2
          try clear hx41_3
          try clear hx41_4
          try clear hx42_4
          try clear hx47_0
          try clear hx47_1
          try clear hx47_2
          try clear hx47_3
          try clear hx47_4
          try clear hx48_3
          try clear hx50_0
          try clear hx50_1
          try clear hx50_2
          try clear hx50_3
          try clear hx50_4
          try clear hx51_4
          try clear p184
          try clear p186
          try clear p188
          try clear p189
          try clear p19
          try clear p2
          try clear p25
          try clear p31
          try clear p41
          try clear p47
          try clear p50
          try clear q184
          try clear q186
          try clear q188
          try clear q189
          try clear q19
          try clear q25
          try clear q31
          try clear q41
          try clear q47
          try clear q50
          obtain ⟨kq, x8_12, x10_12, rfl, HA, HJ12, HO_8, HB⟩ := hcut
          have hl8_12 := (Kd.R_reads' HO_8.out).1
          rw [hl8_12] at HO_8
          (try simp only [hl8_12])
          cases kq with
          | zero => exact absurd HA.out (by simp [hatstandlaw14_HistorySpoils.j1])
          | succ kj12 =>
            have H := HA.out
            clear HA
            simp only [hatstandlaw14_HistorySpoils.j1] at H
            replace H := Option.bind_eq_some_iff.mp H
            obtain ⟨⟨t192, t193⟩, A530, H⟩ := H
            replace H : ((history_Calls.f x8_12).bind fun bt194 => (if 0 ≤ t180 then (if t180 ≤ (x8_12.length : Int) then ((history_Check.f (x8_12.take (t180 : Int).toNat)).bind fun bt202 => (if t192 = t180 then (if t193 = x10_12 then (if bt194.2 = x10_12 then (if (bt194.1.length : Int) = 0 then (if bt202.1 = t180 then (some (bt202.2 == 0)) else (some false)) else (some false)) else (some false)) else (some false)) else (some false))) else (none)) else (none))) = some r := H
            have A53 := Aside0.mk A530
            clear A530
            replace H := Option.bind_eq_some_iff.mp H
            obtain ⟨⟨t194, t195⟩, A540, H⟩ := H
            replace H : (if 0 ≤ t180 then (if t180 ≤ (x8_12.length : Int) then ((history_Check.f (x8_12.take (t180 : Int).toNat)).bind fun bt202 => (if t192 = t180 then (if t193 = x10_12 then (if t195 = x10_12 then (if (t194.length : Int) = 0 then (if bt202.1 = t180 then (some (bt202.2 == 0)) else (some false)) else (some false)) else (some false)) else (some false)) else (some false))) else (none)) else (none)) = some r := H
            have A54 := Aside0.mk A540
            clear A540
            by_cases c55 : 0 ≤ t180
            · rw [if_pos c55] at H
              have c55b0 := eq_true c55
              have c55b1 : decide (0 ≤ t180) = true := decide_eq_true c55
              clear c55
              by_cases c56 : t180 ≤ (x8_12.length : Int)
              · rw [if_pos c56] at H
                have c56b0 := eq_true c56
                have c56b1 : decide (t180 ≤ (x8_12.length : Int)) = true := decide_eq_true c56
                clear c56
                obtain ⟨y198, hy198⟩ : ∃ y_ : List (S47), y_ = (x8_12.take (t180 : Int).toNat) := ⟨_, rfl⟩
                replace H : ((history_Check.f y198).bind fun bt202 => (if t192 = t180 then (if t193 = x10_12 then (if t195 = x10_12 then (if (t194.length : Int) = 0 then (if bt202.1 = t180 then (some (bt202.2 == 0)) else (some false)) else (some false)) else (some false)) else (some false)) else (some false))) = some r := by first | (rw [hy198]; with_reducible exact H) | (have H2_ := (Option.bind_some _ _).symm.trans H; rw [hy198]; with_reducible exact H2_) | (have H2_ := (Option.bind_some _ _).symm.trans H; with_reducible exact H2_) | with_reducible exact H | (rw [hy198]; exact H) | exact H
                have Ny198 := Aside0.mk hy198
                clear hy198
                replace H := Option.bind_eq_some_iff.mp H
                obtain ⟨⟨t202, t203⟩, A570, H⟩ := H
                replace H : (if t192 = t180 then (if t193 = x10_12 then (if t195 = x10_12 then (if (t194.length : Int) = 0 then (if t202 = t180 then (some (t203 == 0)) else (some false)) else (some false)) else (some false)) else (some false)) else (some false)) = some r := H
                have A57 := Aside0.mk A570
                clear A570
                by_cases c58 : t192 = t180
                · rw [if_pos c58] at H
                  have c58b0 : (t192 == t180) = true := beq_iff_eq.mpr c58
                  have c58b1 : (t192 != t180) = false := bne_eq_false_iff_eq.mpr c58
                  clear c58
                  by_cases c59 : t193 = x10_12
                  · rw [if_pos c59] at H
                    have c59b0 : (t193 == x10_12) = true := beq_iff_eq.mpr c59
                    have c59b1 : (t193 != x10_12) = false := bne_eq_false_iff_eq.mpr c59
                    clear c59
                    by_cases c60 : t195 = x10_12
                    · rw [if_pos c60] at H
                      have c60b0 : (t195 == x10_12) = true := beq_iff_eq.mpr c60
                      have c60b1 : (t195 != x10_12) = false := bne_eq_false_iff_eq.mpr c60
                      clear c60
                      by_cases c61 : (t194.length : Int) = 0
                      · rw [if_pos c61] at H
                        have c61b0 : ((t194.length : Int) == 0) = true := beq_iff_eq.mpr c61
                        have c61b1 : ((t194.length : Int) != 0) = false := bne_eq_false_iff_eq.mpr c61
                        clear c61
                        by_cases c62 : t202 = t180
                        · rw [if_pos c62] at H
                          have c62b0 : (t202 == t180) = true := beq_iff_eq.mpr c62
                          have c62b1 : (t202 != t180) = false := bne_eq_false_iff_eq.mpr c62
                          clear c62
                          obtain rfl := Option.some.inj H
                          go_wp2_with (first | (go_at_call 10; (with_reducible refine (history_Check.calls _ _ x8_12 t192 t193 _ ?side1 ?side2 A53.out).mono ?_); (case side1 => repeat (first | exact (Kd.R_reads' HO_8.out).2.2 | (with_reducible refine Kd.C_alloc ?_ _) | (with_reducible refine Kd.C_drewN ?_ _) | (with_reducible refine Kd.C_drew ?_))); (case side2 => exact (Kd.R_reads' HO_8.out).2.1); rintro e w63 ⟨rfl, hb⟩; have n0_ := Aside0.mk (Kd.R_below (by (with_reducible repeat (first | apply Kd.R_alloc | apply Kd.R_drewN | apply Kd.R_drew)); exact HO_8.out) hb); have n1_ := Aside0.mk (below_step (by repeat (first | (with_reducible first | exact HB.out | apply below_alloc | apply pw_below_drewN | apply below_drew1) | exact HB.out)) hb); clear HO_8; clear HB; have HO_8 := n0_; have HB := n1_; clear n0_ n1_; (try clear hb); (try clear hb2); (try clear hk); (try clear hi)) | (go_at_call 13; (with_reducible refine (history_Calls.calls _ _ x8_12 t194 t195 _ ?side1 ?side2 A54.out).mono ?_); (case side1 => repeat (first | exact (Kd.R_reads' HO_8.out).2.2 | (with_reducible refine Kd.C_alloc ?_ _) | (with_reducible refine Kd.C_drewN ?_ _) | (with_reducible refine Kd.C_drew ?_))); (case side2 => exact (Kd.R_reads' HO_8.out).2.1); rintro e w64 ⟨v196, rfl, ho0, hb⟩; have n0_ := Aside0.mk (Kd.R_below (by (with_reducible repeat (first | apply Kd.R_alloc | apply Kd.R_drewN | apply Kd.R_drew)); exact HO_8.out) hb); have n1_ := Aside0.mk (Kd.R_lower ho0 (below_size (by repeat (first | (with_reducible first | exact HB.out | apply below_alloc | apply pw_below_drewN | apply below_drew1) | exact HB.out)))); have n2_ := Aside0.mk (below_step (by repeat (first | (with_reducible first | exact HB.out | apply below_alloc | apply pw_below_drewN | apply below_drew1) | exact HB.out)) hb); clear HO_8; clear HB; have HO_8 := n0_; have HO197 := n1_; have HB := n2_; clear n0_ n1_ n2_; (try clear hb); (try clear hb2); (try clear hk); (try clear hi); (try clear ho0); have q65 : (t180 : Int) ≤ ((x8_12.length : Int) : Int) := of_decide_eq_true (by first | (with_reducible assumption) | assumption); obtain ⟨i065, hi065, _, hsz65, _⟩ := info_parts info47; have hroom65 : x8_12.length ≤ co15 := (Kd.R_reads' HO_8.out).2.1; have hC65 : Kd.C k47 _ Ao15 x8_12.length x8_12 := (Kd.R_reads' HO_8.out).2.2; have hcut65 := cut_to (P := Try.prog) 22 47 .i64 Try.underlying22 hi065 Ao15 x8_12.length co15 t180 (of_decide_eq_true (by first | (with_reducible assumption) | assumption)) q65 hroom65; have hr65 := Kd.C_take (m := (t180 : Int).toNat) hC65 (by omega); have hy65 : y198.length = (t180 : Int).toNat := (by rw [Ny198.out, List.length_take]; omega); rw [← Ny198.out] at hr65; rw [← hy65] at hcut65; have HR201 := Aside0.mk hr65; have HC201 := Aside0.mk (show y198.length ≤ co15 from by omega); clear hr65 hC65 hroom65 hi065 hsz65; have KY65 := Aside0.mk hy65; clear hy65; have KL65 := Aside0.mk (show (t180 : Int).toNat ≤ x8_12.length from by omega); replace q65 := eq_true q65) | (go_at_call 10; (with_reducible refine (history_Check.calls _ _ y198 t202 t203 _ ?side1 ?side2 A57.out).mono ?_); (case side1 => repeat (first | exact (by repeat (first | (with_reducible exact HR201.out) | (with_reducible refine Kd.C_alloc ?_ _) | (with_reducible refine Kd.C_drewN ?_ _) | (with_reducible refine Kd.C_drew ?_) | exact HR201.out)) | (with_reducible refine Kd.C_alloc ?_ _) | (with_reducible refine Kd.C_drewN ?_ _) | (with_reducible refine Kd.C_drew ?_))); (case side2 => exact HC201.out); rintro e w66 ⟨rfl, hb⟩; have n0_ := Aside0.mk (Kd.R_below (by (with_reducible repeat (first | apply Kd.R_alloc | apply Kd.R_drewN | apply Kd.R_drew)); exact HO_8.out) hb); have n1_ := Aside0.mk (Kd.R_below (by (with_reducible repeat (first | apply Kd.R_alloc | apply Kd.R_drewN | apply Kd.R_drew)); exact HO197.out) hb); have n2_ := Aside0.mk (Kd.C_below (by repeat (first | (with_reducible exact HR201.out) | (with_reducible refine Kd.C_alloc ?_ _) | (with_reducible refine Kd.C_drewN ?_ _) | (with_reducible refine Kd.C_drew ?_) | exact HR201.out)) hb); have n3_ := Aside0.mk (below_step (by repeat (first | (with_reducible first | exact HB.out | apply below_alloc | apply pw_below_drewN | apply below_drew1) | exact HB.out)) hb); clear HO_8; clear HO197; clear HR201; clear HB; have HO_8 := n0_; have HO197 := n1_; have HR201 := n2_; have HB := n3_; clear n0_ n1_ n2_ n3_; (try clear hb); (try clear hb2); (try clear hk); (try clear hi); obtain ⟨Ao67, co67, eo67⟩ := Kd.R_slice HO197.out; subst eo67))
                          repeat (go_quiet (first | (go_at_call 10; (with_reducible refine (history_Check.calls _ _ x8_12 t192 t193 _ ?side1 ?side2 A53.out).mono ?_); (case side1 => repeat (first | exact (Kd.R_reads' HO_8.out).2.2 | (with_reducible refine Kd.C_alloc ?_ _) | (with_reducible refine Kd.C_drewN ?_ _) | (with_reducible refine Kd.C_drew ?_))); (case side2 => exact (Kd.R_reads' HO_8.out).2.1); rintro e w63 ⟨rfl, hb⟩; have n0_ := Aside0.mk (Kd.R_below (by (with_reducible repeat (first | apply Kd.R_alloc | apply Kd.R_drewN | apply Kd.R_drew)); exact HO_8.out) hb); have n1_ := Aside0.mk (below_step (by repeat (first | (with_reducible first | exact HB.out | apply below_alloc | apply pw_below_drewN | apply below_drew1) | exact HB.out)) hb); clear HO_8; clear HB; have HO_8 := n0_; have HB := n1_; clear n0_ n1_; (try clear hb); (try clear hb2); (try clear hk); (try clear hi)) | (go_at_call 13; (with_reducible refine (history_Calls.calls _ _ x8_12 t194 t195 _ ?side1 ?side2 A54.out).mono ?_); (case side1 => repeat (first | exact (Kd.R_reads' HO_8.out).2.2 | (with_reducible refine Kd.C_alloc ?_ _) | (with_reducible refine Kd.C_drewN ?_ _) | (with_reducible refine Kd.C_drew ?_))); (case side2 => exact (Kd.R_reads' HO_8.out).2.1); rintro e w64 ⟨v196, rfl, ho0, hb⟩; have n0_ := Aside0.mk (Kd.R_below (by (with_reducible repeat (first | apply Kd.R_alloc | apply Kd.R_drewN | apply Kd.R_drew)); exact HO_8.out) hb); have n1_ := Aside0.mk (Kd.R_lower ho0 (below_size (by repeat (first | (with_reducible first | exact HB.out | apply below_alloc | apply pw_below_drewN | apply below_drew1) | exact HB.out)))); have n2_ := Aside0.mk (below_step (by repeat (first | (with_reducible first | exact HB.out | apply below_alloc | apply pw_below_drewN | apply below_drew1) | exact HB.out)) hb); clear HO_8; clear HB; have HO_8 := n0_; have HO197 := n1_; have HB := n2_; clear n0_ n1_ n2_; (try clear hb); (try clear hb2); (try clear hk); (try clear hi); (try clear ho0); have q65 : (t180 : Int) ≤ ((x8_12.length : Int) : Int) := of_decide_eq_true (by first | (with_reducible assumption) | assumption); obtain ⟨i065, hi065, _, hsz65, _⟩ := info_parts info47; have hroom65 : x8_12.length ≤ co15 := (Kd.R_reads' HO_8.out).2.1; have hC65 : Kd.C k47 _ Ao15 x8_12.length x8_12 := (Kd.R_reads' HO_8.out).2.2; have hcut65 := cut_to (P := Try.prog) 22 47 .i64 Try.underlying22 hi065 Ao15 x8_12.length co15 t180 (of_decide_eq_true (by first | (with_reducible assumption) | assumption)) q65 hroom65; have hr65 := Kd.C_take (m := (t180 : Int).toNat) hC65 (by omega); have hy65 : y198.length = (t180 : Int).toNat := (by rw [Ny198.out, List.length_take]; omega); rw [← Ny198.out] at hr65; rw [← hy65] at hcut65; have HR201 := Aside0.mk hr65; have HC201 := Aside0.mk (show y198.length ≤ co15 from by omega); clear hr65 hC65 hroom65 hi065 hsz65; have KY65 := Aside0.mk hy65; clear hy65; have KL65 := Aside0.mk (show (t180 : Int).toNat ≤ x8_12.length from by omega); replace q65 := eq_true q65) | (go_at_call 10; (with_reducible refine (history_Check.calls _ _ y198 t202 t203 _ ?side1 ?side2 A57.out).mono ?_); (case side1 => repeat (first | exact (by repeat (first | (with_reducible exact HR201.out) | (with_reducible refine Kd.C_alloc ?_ _) | (with_reducible refine Kd.C_drewN ?_ _) | (with_reducible refine Kd.C_drew ?_) | exact HR201.out)) | (with_reducible refine Kd.C_alloc ?_ _) | (with_reducible refine Kd.C_drewN ?_ _) | (with_reducible refine Kd.C_drew ?_))); (case side2 => exact HC201.out); rintro e w66 ⟨rfl, hb⟩; have n0_ := Aside0.mk (Kd.R_below (by (with_reducible repeat (first | apply Kd.R_alloc | apply Kd.R_drewN | apply Kd.R_drew)); exact HO_8.out) hb); have n1_ := Aside0.mk (Kd.R_below (by (with_reducible repeat (first | apply Kd.R_alloc | apply Kd.R_drewN | apply Kd.R_drew)); exact HO197.out) hb); have n2_ := Aside0.mk (Kd.C_below (by repeat (first | (with_reducible exact HR201.out) | (with_reducible refine Kd.C_alloc ?_ _) | (with_reducible refine Kd.C_drewN ?_ _) | (with_reducible refine Kd.C_drew ?_) | exact HR201.out)) hb); have n3_ := Aside0.mk (below_step (by repeat (first | (with_reducible first | exact HB.out | apply below_alloc | apply pw_below_drewN | apply below_drew1) | exact HB.out)) hb); clear HO_8; clear HO197; clear HR201; clear HB; have HO_8 := n0_; have HO197 := n1_; have HR201 := n2_; have HB := n3_; clear n0_ n1_ n2_ n3_; (try clear hb); (try clear hb2); (try clear hk); (try clear hi); obtain ⟨Ao67, co67, eo67⟩ := Kd.R_slice HO197.out; subst eo67)); try go_wp2_with (first | (go_at_call 10; (with_reducible refine (history_Check.calls _ _ x8_12 t192 t193 _ ?side1 ?side2 A53.out).mono ?_); (case side1 => repeat (first | exact (Kd.R_reads' HO_8.out).2.2 | (with_reducible refine Kd.C_alloc ?_ _) | (with_reducible refine Kd.C_drewN ?_ _) | (with_reducible refine Kd.C_drew ?_))); (case side2 => exact (Kd.R_reads' HO_8.out).2.1); rintro e w63 ⟨rfl, hb⟩; have n0_ := Aside0.mk (Kd.R_below (by (with_reducible repeat (first | apply Kd.R_alloc | apply Kd.R_drewN | apply Kd.R_drew)); exact HO_8.out) hb); have n1_ := Aside0.mk (below_step (by repeat (first | (with_reducible first | exact HB.out | apply below_alloc | apply pw_below_drewN | apply below_drew1) | exact HB.out)) hb); clear HO_8; clear HB; have HO_8 := n0_; have HB := n1_; clear n0_ n1_; (try clear hb); (try clear hb2); (try clear hk); (try clear hi)) | (go_at_call 13; (with_reducible refine (history_Calls.calls _ _ x8_12 t194 t195 _ ?side1 ?side2 A54.out).mono ?_); (case side1 => repeat (first | exact (Kd.R_reads' HO_8.out).2.2 | (with_reducible refine Kd.C_alloc ?_ _) | (with_reducible refine Kd.C_drewN ?_ _) | (with_reducible refine Kd.C_drew ?_))); (case side2 => exact (Kd.R_reads' HO_8.out).2.1); rintro e w64 ⟨v196, rfl, ho0, hb⟩; have n0_ := Aside0.mk (Kd.R_below (by (with_reducible repeat (first | apply Kd.R_alloc | apply Kd.R_drewN | apply Kd.R_drew)); exact HO_8.out) hb); have n1_ := Aside0.mk (Kd.R_lower ho0 (below_size (by repeat (first | (with_reducible first | exact HB.out | apply below_alloc | apply pw_below_drewN | apply below_drew1) | exact HB.out)))); have n2_ := Aside0.mk (below_step (by repeat (first | (with_reducible first | exact HB.out | apply below_alloc | apply pw_below_drewN | apply below_drew1) | exact HB.out)) hb); clear HO_8; clear HB; have HO_8 := n0_; have HO197 := n1_; have HB := n2_; clear n0_ n1_ n2_; (try clear hb); (try clear hb2); (try clear hk); (try clear hi); (try clear ho0); have q65 : (t180 : Int) ≤ ((x8_12.length : Int) : Int) := of_decide_eq_true (by first | (with_reducible assumption) | assumption); obtain ⟨i065, hi065, _, hsz65, _⟩ := info_parts info47; have hroom65 : x8_12.length ≤ co15 := (Kd.R_reads' HO_8.out).2.1; have hC65 : Kd.C k47 _ Ao15 x8_12.length x8_12 := (Kd.R_reads' HO_8.out).2.2; have hcut65 := cut_to (P := Try.prog) 22 47 .i64 Try.underlying22 hi065 Ao15 x8_12.length co15 t180 (of_decide_eq_true (by first | (with_reducible assumption) | assumption)) q65 hroom65; have hr65 := Kd.C_take (m := (t180 : Int).toNat) hC65 (by omega); have hy65 : y198.length = (t180 : Int).toNat := (by rw [Ny198.out, List.length_take]; omega); rw [← Ny198.out] at hr65; rw [← hy65] at hcut65; have HR201 := Aside0.mk hr65; have HC201 := Aside0.mk (show y198.length ≤ co15 from by omega); clear hr65 hC65 hroom65 hi065 hsz65; have KY65 := Aside0.mk hy65; clear hy65; have KL65 := Aside0.mk (show (t180 : Int).toNat ≤ x8_12.length from by omega); replace q65 := eq_true q65) | (go_at_call 10; (with_reducible refine (history_Check.calls _ _ y198 t202 t203 _ ?side1 ?side2 A57.out).mono ?_); (case side1 => repeat (first | exact (by repeat (first | (with_reducible exact HR201.out) | (with_reducible refine Kd.C_alloc ?_ _) | (with_reducible refine Kd.C_drewN ?_ _) | (with_reducible refine Kd.C_drew ?_) | exact HR201.out)) | (with_reducible refine Kd.C_alloc ?_ _) | (with_reducible refine Kd.C_drewN ?_ _) | (with_reducible refine Kd.C_drew ?_))); (case side2 => exact HC201.out); rintro e w66 ⟨rfl, hb⟩; have n0_ := Aside0.mk (Kd.R_below (by (with_reducible repeat (first | apply Kd.R_alloc | apply Kd.R_drewN | apply Kd.R_drew)); exact HO_8.out) hb); have n1_ := Aside0.mk (Kd.R_below (by (with_reducible repeat (first | apply Kd.R_alloc | apply Kd.R_drewN | apply Kd.R_drew)); exact HO197.out) hb); have n2_ := Aside0.mk (Kd.C_below (by repeat (first | (with_reducible exact HR201.out) | (with_reducible refine Kd.C_alloc ?_ _) | (with_reducible refine Kd.C_drewN ?_ _) | (with_reducible refine Kd.C_drew ?_) | exact HR201.out)) hb); have n3_ := Aside0.mk (below_step (by repeat (first | (with_reducible first | exact HB.out | apply below_alloc | apply pw_below_drewN | apply below_drew1) | exact HB.out)) hb); clear HO_8; clear HO197; clear HR201; clear HB; have HO_8 := n0_; have HO197 := n1_; have HR201 := n2_; have HB := n3_; clear n0_ n1_ n2_ n3_; (try clear hb); (try clear hb2); (try clear hk); (try clear hi); obtain ⟨Ao67, co67, eo67⟩ := Kd.R_slice HO197.out; subst eo67)))
                          go_ret
                          exact ⟨by first | rfl | (simp [errW_none, errW_some] <;> rfl) | (simp [*, errW_none, errW_some] <;> rfl), by repeat (first | (with_reducible first | exact HB.out | apply below_alloc | apply pw_below_drewN | apply below_drew1) | exact HB.out)⟩
                        · rw [if_neg c62] at H
                          have c62b0 : (t202 == t180) = false := beq_eq_false_iff_ne.mpr c62
                          have c62b1 : (t202 != t180) = true := bne_iff_ne.mpr c62
                          exact absurd ((Option.some.inj H).trans HT0.out) (by decide)
                      · rw [if_neg c61] at H
                        have c61b0 : ((t194.length : Int) == 0) = false := beq_eq_false_iff_ne.mpr c61
                        have c61b1 : ((t194.length : Int) != 0) = true := bne_iff_ne.mpr c61
                        have c61b2 : ¬ (t194 = []) := fun h_ => c61 (by rw [h_]; rfl)
                        exact absurd ((Option.some.inj H).trans HT0.out) (by decide)
                    · rw [if_neg c60] at H
                      have c60b0 : (t195 == x10_12) = false := beq_eq_false_iff_ne.mpr c60
                      have c60b1 : (t195 != x10_12) = true := bne_iff_ne.mpr c60
                      exact absurd ((Option.some.inj H).trans HT0.out) (by decide)
                  · rw [if_neg c59] at H
                    have c59b0 : (t193 == x10_12) = false := beq_eq_false_iff_ne.mpr c59
                    have c59b1 : (t193 != x10_12) = true := bne_iff_ne.mpr c59
                    exact absurd ((Option.some.inj H).trans HT0.out) (by decide)
                · rw [if_neg c58] at H
                  have c58b0 : (t192 == t180) = false := beq_eq_false_iff_ne.mpr c58
                  have c58b1 : (t192 != t180) = true := bne_iff_ne.mpr c58
                  exact absurd ((Option.some.inj H).trans HT0.out) (by decide)
              · rw [if_neg c56] at H
                exact absurd H (by simp)
            · rw [if_neg c55] at H
              exact absurd H (by simp)

/-- THE ONE PURE STATEMENT of hatstandlaw14_HistorySpoils. -/
def hatstandlaw14_HistorySpoils.Pure : Prop := ∀ (l0 : List (S61)) (a1 : Int) (a2 : Int), l0.length ≤ maxLen → l0.length * 32 ≤ 140737488351232 → (∀ x ∈ l0, (Lit.int .i64 x.f0).wf = true ∧ (Lit.int .i64 x.f1).wf = true ∧ (Lit.int .u64 x.f3).wf = true) → (Lit.int .i64 a1).wf = true → (Lit.int .i64 a2).wf = true → ∃ k, hatstandlaw14_HistorySpoils.f k l0 a1 a2 = some true
theorem hatstandlaw14_HistorySpoils.walk (P : hatstandlaw14_HistorySpoils.Pure) (A0 : Option Addr) (c0 : Nat) (l0 : List (S61)) (a1 : Int) (a2 : Int) (w : World) (hr0 : Kd.C k61 w A0 l0.length l0) (hc0 : l0.length ≤ c0) (hm0 : l0.length ≤ maxLen) (y0 : l0.length * 32 ≤ 140737488351232) (hw0 : (∀ x ∈ l0, (Lit.int .i64 x.f0).wf = true ∧ (Lit.int .i64 x.f1).wf = true ∧ (Lit.int .u64 x.f3).wf = true)) (hw1 : (Lit.int .i64 a1).wf = true) (hw2 : (Lit.int .i64 a2).wf = true) :
    Calls Try.prog 5 #[.slice A0 l0.length c0, .int .i64 a1, .int .i64 a2] w fun e w' => e = .returned (.bool true) ∧ Below w.heap.size w w' := by
  obtain ⟨k, h⟩ := P l0 a1 a2 hm0 y0 hw0 hw1 hw2
  refine (hatstandlaw14_HistorySpoils.calls k A0 c0 l0 a1 a2 true w hr0 hc0 h rfl).mono ?_
  rintro e w' ⟨rfl, hd⟩
  exact ⟨rfl, hd⟩

end Go.Proofs.Ytmdjmfbinjnlcaa.P
