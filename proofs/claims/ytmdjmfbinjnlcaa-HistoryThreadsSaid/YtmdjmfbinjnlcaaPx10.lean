/- Walks, written by a program for this claim: each Go function that the laws reach comes to what its Lean function says. -/
import Derived.Test.YtmdjmfbinjnlcaaLex
import Derived.Test.YtmdjmfbinjnlcaaPx0
import Derived.Test.YtmdjmfbinjnlcaaPx4
import Derived.Test.YtmdjmfbinjnlcaaPx6
import Derived.Test.YtmdjmfbinjnlcaaPx7
import Derived.Test.YtmdjmfbinjnlcaaPx9
namespace Go.Proofs.Ytmdjmfbinjnlcaa.P
open Go.RowKit Go.Proofs.YtmdjmfbinjnlcaaW.PrintWords Go.Proofs.YtmdjmfbinjnlcaaW.PrintLast Go.Proofs.YtmdjmfbinjnlcaaW.PrintMore
attribute [local go_sem] max2_int min2_int max_two min_two max_three min_three max_four min_four   -- for this text's walks alone
set_option linter.unusedVariables false
set_option linter.unusedSimpArgs false

/-! ### hatstandlaw14_HistoryThreads: function 8 -/
mutual
def hatstandlaw14_HistoryThreads.j0 : Nat → List (S61) → Int → Bool → Bool → Option (Bool)
  | 0, _, _, _, _ => none
  | k + 1, x0, x1, x5, x23 => if x23 = true then (some x5) else ((hatstandlaw14_events.f k x0).bind fun t210 => ((hatstandlaw14_pick.f x1 8).bind fun t213 => (hatstandlaw14_HistoryThreads.l0 k t210 t213 ([] : List (S47)) 0)))
def hatstandlaw14_HistoryThreads.l0 : Nat → List (S47) → Int → List (S47) → Int → Option (Bool)
  | 0, _, _, _, _ => none
  | k + 1, x6, x7, x8, x9 => if x9 < (x6.length : Int) then (if 0 ≤ x9 then (if ((rd_T47 x6 x9).f0) = x7 then (if x8.length < 4398046511104 then (hatstandlaw14_HistoryThreads.l0 k x6 x7 (x8 ++ [(⟨(rd_T47 x6 x9).f0, (rd_T47 x6 x9).f1, (rd_T47 x6 x9).f2, (rd_T47 x6 x9).f3, (rd_T47 x6 x9).f4⟩ : S47)]) (wrap64 (x9 + 1))) else (none)) else (hatstandlaw14_HistoryThreads.l0 k x6 x7 x8 (wrap64 (x9 + 1)))) else (none)) else ((history_Calls.f x6).bind fun bt219 => ((history_Calls.f x8).bind fun bt223 => (if bt219.2 = 0 then (if bt223.2 = 0 then ((history_Alone.f k bt223.1).bind fun t227 => (hatstandlaw14_HistoryThreads.j2 k x7 bt219.1 bt223.1 (!t227))) else (hatstandlaw14_HistoryThreads.j2 k x7 bt219.1 bt223.1 true)) else (hatstandlaw14_HistoryThreads.j2 k x7 bt219.1 bt223.1 true))))
def hatstandlaw14_HistoryThreads.j2 : Nat → Int → List (S45) → List (S45) → Bool → Option (Bool)
  | 0, _, _, _, _ => none
  | k + 1, x7, x10, x12, x69 => if x69 = true then (some false) else (hatstandlaw14_HistoryThreads.l1 k x7 x10 x12 0 0)
def hatstandlaw14_HistoryThreads.l1 : Nat → Int → List (S45) → List (S45) → Int → Int → Option (Bool)
  | 0, _, _, _, _, _ => none
  | k + 1, x7, x10, x12, x14, x15 => if x15 < (x10.length : Int) then (if 0 ≤ x15 then (if ((rd_T45 x10 x15).f0) = x7 then (if x14 ≥ (x12.length : Int) then (hatstandlaw14_HistoryThreads.j4 k x7 x10 x12 x14 x15 true) else (if 0 ≤ x14 then (if x14 < (x12.length : Int) then (if (((rd_T45 x12 x14).f1) != ((rd_T45 x10 x15).f1)) = true then (hatstandlaw14_HistoryThreads.j4 k x7 x10 x12 x14 x15 true) else (if ((rd_T45 x12 x14).f2) = ((rd_T45 x10 x15).f2) then (if ((rd_T45 x12 x14).f3) = ((rd_T45 x10 x15).f3) then (if ((rd_T45 x12 x14).f4) = (wrap64 (2 * x14)) then (if ((rd_T45 x12 x14).f5) < 0 then (if ((rd_T45 x10 x15).f5) < 0 then (if ((rd_T45 x12 x14).f5) ≥ 0 then (hatstandlaw14_HistoryThreads.j4 k x7 x10 x12 x14 x15 (((rd_T45 x12 x14).f5) != (wrap64 ((wrap64 (2 * x14)) + 1)))) else (hatstandlaw14_HistoryThreads.j4 k x7 x10 x12 x14 x15 false)) else (hatstandlaw14_HistoryThreads.j4 k x7 x10 x12 x14 x15 true)) else (if ((rd_T45 x10 x15).f5) < 0 then (hatstandlaw14_HistoryThreads.j4 k x7 x10 x12 x14 x15 true) else (if ((rd_T45 x12 x14).f5) ≥ 0 then (hatstandlaw14_HistoryThreads.j4 k x7 x10 x12 x14 x15 (((rd_T45 x12 x14).f5) != (wrap64 ((wrap64 (2 * x14)) + 1)))) else (hatstandlaw14_HistoryThreads.j4 k x7 x10 x12 x14 x15 false)))) else (hatstandlaw14_HistoryThreads.j4 k x7 x10 x12 x14 x15 true)) else (hatstandlaw14_HistoryThreads.j4 k x7 x10 x12 x14 x15 true)) else (hatstandlaw14_HistoryThreads.j4 k x7 x10 x12 x14 x15 true))) else (none)) else (none))) else (hatstandlaw14_HistoryThreads.l1 k x7 x10 x12 x14 (wrap64 (x15 + 1)))) else (none)) else (some (x14 == (x12.length : Int)))
def hatstandlaw14_HistoryThreads.j4 : Nat → Int → List (S45) → List (S45) → Int → Int → Bool → Option (Bool)
  | 0, _, _, _, _, _, _ => none
  | k + 1, x7, x10, x12, x14, x15, x169 => if x169 = true then (some false) else (hatstandlaw14_HistoryThreads.l1 k x7 x10 x12 (wrap64 (x14 + 1)) (wrap64 (x15 + 1)))
end
def hatstandlaw14_HistoryThreads.f (k : Nat) (l0 : List (S61)) (a1 : Int) : Option (Bool) := (hatstandlaw14_shown.f k).bind fun t209 => (if t209 = true then (hatstandlaw14_HistoryThreads.j0 k l0 a1 t209 (decide ((l0.length : Int) > 100))) else (hatstandlaw14_HistoryThreads.j0 k l0 a1 t209 true))
theorem hatstandlaw14_HistoryThreads.mono_l : ∀ k, (∀ y0 y1 y2 y3, LeO (hatstandlaw14_HistoryThreads.j0 k y0 y1 y2 y3) (hatstandlaw14_HistoryThreads.j0 (k + 1) y0 y1 y2 y3)) ∧ (∀ y0 y1 y2 y3, LeO (hatstandlaw14_HistoryThreads.l0 k y0 y1 y2 y3) (hatstandlaw14_HistoryThreads.l0 (k + 1) y0 y1 y2 y3)) ∧ (∀ y0 y1 y2 y3, LeO (hatstandlaw14_HistoryThreads.j2 k y0 y1 y2 y3) (hatstandlaw14_HistoryThreads.j2 (k + 1) y0 y1 y2 y3)) ∧ (∀ y0 y1 y2 y3 y4, LeO (hatstandlaw14_HistoryThreads.l1 k y0 y1 y2 y3 y4) (hatstandlaw14_HistoryThreads.l1 (k + 1) y0 y1 y2 y3 y4)) ∧ (∀ y0 y1 y2 y3 y4 y5, LeO (hatstandlaw14_HistoryThreads.j4 k y0 y1 y2 y3 y4 y5) (hatstandlaw14_HistoryThreads.j4 (k + 1) y0 y1 y2 y3 y4 y5))
  | 0 => ⟨fun _ _ _ _ r h => by simp [hatstandlaw14_HistoryThreads.j0] at h, fun _ _ _ _ r h => by simp [hatstandlaw14_HistoryThreads.l0] at h, fun _ _ _ _ r h => by simp [hatstandlaw14_HistoryThreads.j2] at h, fun _ _ _ _ _ r h => by simp [hatstandlaw14_HistoryThreads.l1] at h, fun _ _ _ _ _ _ r h => by simp [hatstandlaw14_HistoryThreads.j4] at h⟩
  | k + 1 => by
    obtain ⟨ih0, ih1, ih2, ih3, ih4⟩ := hatstandlaw14_HistoryThreads.mono_l k
    refine ⟨?_, ?_, ?_, ?_, ?_⟩
    · intro y0 y1 y2 y3
      unfold hatstandlaw14_HistoryThreads.j0
      repeat' first
      | (with_reducible exact ih0 _ _ _ _)
      | (with_reducible exact ih1 _ _ _ _)
      | (with_reducible exact ih2 _ _ _ _)
      | (with_reducible exact ih3 _ _ _ _ _)
      | (with_reducible exact ih4 _ _ _ _ _ _)
      | (with_reducible exact hatstandlaw14_events.mono _ _)
      | (with_reducible exact hatstandlaw14_shown.mono _)
      | (with_reducible exact history_Alone.mono _ _)
      | (with_reducible exact LeO.refl _)
      | (with_reducible exact LeO.none _)
      | (with_reducible refine LeO.ite ?_ ?_)
      | (with_reducible refine LeO.bind ?_ (fun _ => ?_))
      | exact ih0 _ _ _ _
      | exact ih1 _ _ _ _
      | exact ih2 _ _ _ _
      | exact ih3 _ _ _ _ _
      | exact ih4 _ _ _ _ _ _
      | exact hatstandlaw14_events.mono _ _
      | exact hatstandlaw14_shown.mono _
      | exact history_Alone.mono _ _
      | exact LeO.none _
      | refine LeO.ite ?_ ?_
      | refine LeO.bind ?_ (fun _ => ?_)
    · intro y0 y1 y2 y3
      unfold hatstandlaw14_HistoryThreads.l0
      repeat' first
      | (with_reducible exact ih0 _ _ _ _)
      | (with_reducible exact ih1 _ _ _ _)
      | (with_reducible exact ih2 _ _ _ _)
      | (with_reducible exact ih3 _ _ _ _ _)
      | (with_reducible exact ih4 _ _ _ _ _ _)
      | (with_reducible exact hatstandlaw14_events.mono _ _)
      | (with_reducible exact hatstandlaw14_shown.mono _)
      | (with_reducible exact history_Alone.mono _ _)
      | (with_reducible exact LeO.refl _)
      | (with_reducible exact LeO.none _)
      | (with_reducible refine LeO.ite ?_ ?_)
      | (with_reducible refine LeO.bind ?_ (fun _ => ?_))
      | exact ih0 _ _ _ _
      | exact ih1 _ _ _ _
      | exact ih2 _ _ _ _
      | exact ih3 _ _ _ _ _
      | exact ih4 _ _ _ _ _ _
      | exact hatstandlaw14_events.mono _ _
      | exact hatstandlaw14_shown.mono _
      | exact history_Alone.mono _ _
      | exact LeO.none _
      | refine LeO.ite ?_ ?_
      | refine LeO.bind ?_ (fun _ => ?_)
    · intro y0 y1 y2 y3
      unfold hatstandlaw14_HistoryThreads.j2
      repeat' first
      | (with_reducible exact ih0 _ _ _ _)
      | (with_reducible exact ih1 _ _ _ _)
      | (with_reducible exact ih2 _ _ _ _)
      | (with_reducible exact ih3 _ _ _ _ _)
      | (with_reducible exact ih4 _ _ _ _ _ _)
      | (with_reducible exact hatstandlaw14_events.mono _ _)
      | (with_reducible exact hatstandlaw14_shown.mono _)
      | (with_reducible exact history_Alone.mono _ _)
      | (with_reducible exact LeO.refl _)
      | (with_reducible exact LeO.none _)
      | (with_reducible refine LeO.ite ?_ ?_)
      | (with_reducible refine LeO.bind ?_ (fun _ => ?_))
      | exact ih0 _ _ _ _
      | exact ih1 _ _ _ _
      | exact ih2 _ _ _ _
      | exact ih3 _ _ _ _ _
      | exact ih4 _ _ _ _ _ _
      | exact hatstandlaw14_events.mono _ _
      | exact hatstandlaw14_shown.mono _
      | exact history_Alone.mono _ _
      | exact LeO.none _
      | refine LeO.ite ?_ ?_
      | refine LeO.bind ?_ (fun _ => ?_)
    · intro y0 y1 y2 y3 y4
      unfold hatstandlaw14_HistoryThreads.l1
      repeat' first
      | (with_reducible exact ih0 _ _ _ _)
      | (with_reducible exact ih1 _ _ _ _)
      | (with_reducible exact ih2 _ _ _ _)
      | (with_reducible exact ih3 _ _ _ _ _)
      | (with_reducible exact ih4 _ _ _ _ _ _)
      | (with_reducible exact hatstandlaw14_events.mono _ _)
      | (with_reducible exact hatstandlaw14_shown.mono _)
      | (with_reducible exact history_Alone.mono _ _)
      | (with_reducible exact LeO.refl _)
      | (with_reducible exact LeO.none _)
      | (with_reducible refine LeO.ite ?_ ?_)
      | (with_reducible refine LeO.bind ?_ (fun _ => ?_))
      | exact ih0 _ _ _ _
      | exact ih1 _ _ _ _
      | exact ih2 _ _ _ _
      | exact ih3 _ _ _ _ _
      | exact ih4 _ _ _ _ _ _
      | exact hatstandlaw14_events.mono _ _
      | exact hatstandlaw14_shown.mono _
      | exact history_Alone.mono _ _
      | exact LeO.none _
      | refine LeO.ite ?_ ?_
      | refine LeO.bind ?_ (fun _ => ?_)
    · intro y0 y1 y2 y3 y4 y5
      unfold hatstandlaw14_HistoryThreads.j4
      repeat' first
      | (with_reducible exact ih0 _ _ _ _)
      | (with_reducible exact ih1 _ _ _ _)
      | (with_reducible exact ih2 _ _ _ _)
      | (with_reducible exact ih3 _ _ _ _ _)
      | (with_reducible exact ih4 _ _ _ _ _ _)
      | (with_reducible exact hatstandlaw14_events.mono _ _)
      | (with_reducible exact hatstandlaw14_shown.mono _)
      | (with_reducible exact history_Alone.mono _ _)
      | (with_reducible exact LeO.refl _)
      | (with_reducible exact LeO.none _)
      | (with_reducible refine LeO.ite ?_ ?_)
      | (with_reducible refine LeO.bind ?_ (fun _ => ?_))
      | exact ih0 _ _ _ _
      | exact ih1 _ _ _ _
      | exact ih2 _ _ _ _
      | exact ih3 _ _ _ _ _
      | exact ih4 _ _ _ _ _ _
      | exact hatstandlaw14_events.mono _ _
      | exact hatstandlaw14_shown.mono _
      | exact history_Alone.mono _ _
      | exact LeO.none _
      | refine LeO.ite ?_ ?_
      | refine LeO.bind ?_ (fun _ => ?_)
theorem hatstandlaw14_HistoryThreads.mono : ∀ a0 a1 k, LeO (hatstandlaw14_HistoryThreads.f k a0 a1) (hatstandlaw14_HistoryThreads.f (k + 1) a0 a1) := by
  intro a0 a1 k
  obtain ⟨ih0, ih1, ih2, ih3, ih4⟩ := hatstandlaw14_HistoryThreads.mono_l k
  unfold hatstandlaw14_HistoryThreads.f
  repeat' first
      | (with_reducible exact ih0 _ _ _ _)
      | (with_reducible exact ih1 _ _ _ _)
      | (with_reducible exact ih2 _ _ _ _)
      | (with_reducible exact ih3 _ _ _ _ _)
      | (with_reducible exact ih4 _ _ _ _ _ _)
      | (with_reducible exact hatstandlaw14_events.mono _ _)
      | (with_reducible exact hatstandlaw14_shown.mono _)
      | (with_reducible exact history_Alone.mono _ _)
      | (with_reducible exact LeO.refl _)
      | (with_reducible exact LeO.none _)
      | (with_reducible refine LeO.ite ?_ ?_)
      | (with_reducible refine LeO.bind ?_ (fun _ => ?_))
      | exact ih0 _ _ _ _
      | exact ih1 _ _ _ _
      | exact ih2 _ _ _ _
      | exact ih3 _ _ _ _ _
      | exact ih4 _ _ _ _ _ _
      | exact hatstandlaw14_events.mono _ _
      | exact hatstandlaw14_shown.mono _
      | exact history_Alone.mono _ _
      | exact LeO.none _
      | refine LeO.ite ?_ ?_
      | refine LeO.bind ?_ (fun _ => ?_)
theorem hatstandlaw14_HistoryThreads.j2_dead {k : Nat} {y0 : Int} {y1 : List (S45)} {y2 : List (S45)} {r : Bool} (h : hatstandlaw14_HistoryThreads.j2 k y0 y1 y2 true = some r) (hr : r = true) : ∀ {p : Prop}, p := by
  cases k with
  | zero => exact absurd h (by simp [hatstandlaw14_HistoryThreads.j2])
  | succ k => exact absurd h (by rw [hatstandlaw14_HistoryThreads.j2, if_pos rfl, hr]; exact fun e => Bool.noConfusion (Option.some.inj e))
theorem hatstandlaw14_HistoryThreads.j4_dead {k : Nat} {y0 : Int} {y1 : List (S45)} {y2 : List (S45)} {y3 : Int} {y4 : Int} {r : Bool} (h : hatstandlaw14_HistoryThreads.j4 k y0 y1 y2 y3 y4 true = some r) (hr : r = true) : ∀ {p : Prop}, p := by
  cases k with
  | zero => exact absurd h (by simp [hatstandlaw14_HistoryThreads.j4])
  | succ k => exact absurd h (by rw [hatstandlaw14_HistoryThreads.j4, if_pos rfl, hr]; exact fun e => Bool.noConfusion (Option.some.inj e))
set_option maxHeartbeats 8000000 in
set_option maxRecDepth 100000 in
theorem hatstandlaw14_HistoryThreads.calls (k : Nat) (A0 : Option Addr) (c0 : Nat) (l0 : List (S61)) (a1 : Int) (r : Bool) (w : World) (hr0 : Kd.C k61 w A0 l0.length l0) (hc0 : l0.length ≤ c0) (h : hatstandlaw14_HistoryThreads.f k l0 a1 = some r) (ht_ : r = true) :
    Calls Try.prog 8 #[.slice A0 l0.length c0, .int .i64 a1] w fun e w' => e = .returned (.bool r) ∧ Below w.heap.size w w' := by
  have hu47 := Try.underlying47
  have HR0 := Aside0.mk hr0
  have HC0 := Aside0.mk hc0
  clear hr0 hc0
  have HB := Aside0.mk (Below.refl w.heap.size w)
  have HT0 := Aside0.mk ht_
  clear ht_
  have H : ((hatstandlaw14_shown.f k).bind fun t209 => (if t209 = true then (hatstandlaw14_HistoryThreads.j0 k l0 a1 t209 (decide ((l0.length : Int) > 100))) else (hatstandlaw14_HistoryThreads.j0 k l0 a1 t209 true))) = some r := h
  clear h
  replace H := Option.bind_eq_some_iff.mp H
  obtain ⟨t209, A30, H⟩ := H
  replace H : (if t209 = true then (hatstandlaw14_HistoryThreads.j0 k l0 a1 t209 (decide ((l0.length : Int) > 100))) else (hatstandlaw14_HistoryThreads.j0 k l0 a1 t209 true)) = some r := H
  have A3 := Aside0.mk A30
  clear A30
  have HC4 := Aside0.mk H
  clear H
  go_enter Try.func8, Try.ntmps8
  go_upto_region 2 with (first | (go_at_call 9; (with_reducible refine (hatstandlaw14_shown.calls k  t209 _ A3.out).mono ?_); rintro e w5 ⟨rfl, hb⟩; have n0_ := Aside0.mk (below_step (by repeat (first | (with_reducible first | exact HB.out | apply below_alloc | apply pw_below_drewN | apply below_drew1) | exact HB.out)) hb); clear HB; have HB := n0_; clear n0_; (try clear hb); (try clear hb2); (try clear hk); (try clear hi)))
  repeat (go_quiet (first | (go_at_call 9; (with_reducible refine (hatstandlaw14_shown.calls k  t209 _ A3.out).mono ?_); rintro e w5 ⟨rfl, hb⟩; have n0_ := Aside0.mk (below_step (by repeat (first | (with_reducible first | exact HB.out | apply below_alloc | apply pw_below_drewN | apply below_drew1) | exact HB.out)) hb); clear HB; have HB := n0_; clear n0_; (try clear hb); (try clear hb2); (try clear hk); (try clear hi))); go_upto_region 2 with (first | (go_at_call 9; (with_reducible refine (hatstandlaw14_shown.calls k  t209 _ A3.out).mono ?_); rintro e w5 ⟨rfl, hb⟩; have n0_ := Aside0.mk (below_step (by repeat (first | (with_reducible first | exact HB.out | apply below_alloc | apply pw_below_drewN | apply below_drew1) | exact HB.out)) hb); clear HB; have HB := n0_; clear n0_; (try clear hb); (try clear hb2); (try clear hk); (try clear hi))))
  (try simp only [Act.put, List.setIfInBounds_toArray, List.set_cons_zero, List.set_cons_succ])
  go_cut [23] (fun v23 wc => ∃ (kq : Nat) (x23_3 : Bool), v23 = .bool x23_3 ∧ Aside0 (hatstandlaw14_HistoryThreads.j0 kq l0 a1 t209 x23_3 = some r) ∧ Aside0 (kq ≤ k) ∧ Aside0 (Below w.heap.size w wc))
  case first =>
    have H := HC4.out
    clear HC4
    by_cases c6 : t209 = true
    · subst c6
      have H1 : (hatstandlaw14_HistoryThreads.j0 k l0 a1 true (decide ((l0.length : Int) > 100))) = some r := by rw [if_pos rfl] at H; exact H
      clear H
      have H := H1
      clear H1
      have H' := Aside0.mk H
      clear H
      go_wp2
      repeat (go_quiet (fail); try go_wp2)
      go_meet
      case rel => exact ⟨_, (decide ((l0.length : Int) > 100)), (by first | rfl | (simp; done) | (simp [*]; done)), H', ⟨by first | omega | exact Nat.le_refl _⟩, ⟨by repeat (first | (with_reducible first | exact HB.out | apply below_alloc | apply pw_below_drewN | apply below_drew1) | exact HB.out)⟩⟩
    · replace c6 := Bool.eq_false_iff.mpr c6
      subst c6
      have H1 : (hatstandlaw14_HistoryThreads.j0 k l0 a1 false true) = some r := by rw [if_neg (show ¬ (false = true) by decide)] at H; exact H
      clear H
      have H := H1
      clear H1
      have H' := Aside0.mk H
      clear H
      go_wp2
      repeat (go_quiet (fail); try go_wp2)
      go_meet
      case rel => exact ⟨_, (true), (by first | rfl | (simp; done) | (simp [*]; done)), H', ⟨by first | omega | exact Nat.le_refl _⟩, ⟨by repeat (first | (with_reducible first | exact HB.out | apply below_alloc | apply pw_below_drewN | apply below_drew1) | exact HB.out)⟩⟩
  case rest =>
    clear HC4
    try clear p2
    try clear c6
    obtain ⟨kq, x23_3, rfl, HA, HJ3, HB⟩ := hcut
    cases kq with
    | zero => exact absurd HA.out (by simp [hatstandlaw14_HistoryThreads.j0])
    | succ kj3 =>
      have H := HA.out
      clear HA
      simp only [hatstandlaw14_HistoryThreads.j0] at H
      by_cases c7 : x23_3 = true
      · subst c7
        have H1 : (some t209) = some r := by rw [if_pos rfl] at H; exact H
        clear H
        have H := H1
        clear H1
        obtain rfl := Option.some.inj H
        go_wp2
        repeat (go_quiet (fail); try go_wp2)
        go_ret
        exact ⟨by first | rfl | (simp [errW_none, errW_some] <;> rfl) | (simp [*, errW_none, errW_some] <;> rfl), by repeat (first | (with_reducible first | exact HB.out | apply below_alloc | apply pw_below_drewN | apply below_drew1) | exact HB.out)⟩
      · replace c7 := Bool.eq_false_iff.mpr c7
        subst c7
        have H1 : ((hatstandlaw14_events.f kj3 l0).bind fun t210 => ((hatstandlaw14_pick.f a1 8).bind fun t213 => (hatstandlaw14_HistoryThreads.l0 kj3 t210 t213 ([] : List (S47)) 0))) = some r := by rw [if_neg (show ¬ (false = true) by decide)] at H; exact H
        clear H
        have H := H1
        clear H1
        replace H := Option.bind_eq_some_iff.mp H
        obtain ⟨t210, A80, H⟩ := H
        replace H : ((hatstandlaw14_pick.f a1 8).bind fun t213 => (hatstandlaw14_HistoryThreads.l0 kj3 t210 t213 ([] : List (S47)) 0)) = some r := H
        have A8 := Aside0.mk A80
        clear A80
        replace H := Option.bind_eq_some_iff.mp H
        obtain ⟨t213, A90, H⟩ := H
        replace H : (hatstandlaw14_HistoryThreads.l0 kj3 t210 t213 ([] : List (S47)) 0) = some r := H
        have A9 := Aside0.mk A90
        clear A90
        have H' := Aside0.mk H
        clear H
        go_wp2_with (first | (go_at_call 17; (with_reducible refine (hatstandlaw14_events.calls kj3 _ _ l0 t210 _ ?side1 ?side2 A8.out).mono ?_); (case side1 => repeat (first | exact (Kd.C_below HR0.out HB.out) | (with_reducible refine Kd.C_alloc ?_ _) | (with_reducible refine Kd.C_drewN ?_ _) | (with_reducible refine Kd.C_drew ?_))); (case side2 => exact HC0.out); rintro e w10 ⟨v211, rfl, ho0, hb⟩; have n0_ := Aside0.mk (Kd.R_lower ho0 (below_size (by repeat (first | (with_reducible first | exact HB.out | apply below_alloc | apply pw_below_drewN | apply below_drew1) | exact HB.out)))); have n1_ := Aside0.mk (below_step (by repeat (first | (with_reducible first | exact HB.out | apply below_alloc | apply pw_below_drewN | apply below_drew1) | exact HB.out)) hb); clear HB; have HO212 := n0_; have HB := n1_; clear n0_ n1_; (try clear hb); (try clear hb2); (try clear hk); (try clear hi); (try clear ho0)) | (go_at_call 18; (with_reducible refine (hatstandlaw14_pick.calls a1 8 t213 _ A9.out).mono ?_); rintro e w' ⟨rfl, ⟨nd, rfl⟩⟩; (try first | exact ⟨rfl, _, World.drewN_drewN _ _ _⟩ | exact ⟨rfl, _, Eq.trans (World.drewN_drewN _ _ _) (congrArg (World.drewN _) (Nat.add_assoc _ _ _))⟩)))
        repeat (go_quiet (first | (go_at_call 17; (with_reducible refine (hatstandlaw14_events.calls kj3 _ _ l0 t210 _ ?side1 ?side2 A8.out).mono ?_); (case side1 => repeat (first | exact (Kd.C_below HR0.out HB.out) | (with_reducible refine Kd.C_alloc ?_ _) | (with_reducible refine Kd.C_drewN ?_ _) | (with_reducible refine Kd.C_drew ?_))); (case side2 => exact HC0.out); rintro e w10 ⟨v211, rfl, ho0, hb⟩; have n0_ := Aside0.mk (Kd.R_lower ho0 (below_size (by repeat (first | (with_reducible first | exact HB.out | apply below_alloc | apply pw_below_drewN | apply below_drew1) | exact HB.out)))); have n1_ := Aside0.mk (below_step (by repeat (first | (with_reducible first | exact HB.out | apply below_alloc | apply pw_below_drewN | apply below_drew1) | exact HB.out)) hb); clear HB; have HO212 := n0_; have HB := n1_; clear n0_ n1_; (try clear hb); (try clear hb2); (try clear hk); (try clear hi); (try clear ho0)) | (go_at_call 18; (with_reducible refine (hatstandlaw14_pick.calls a1 8 t213 _ A9.out).mono ?_); rintro e w' ⟨rfl, ⟨nd, rfl⟩⟩; (try first | exact ⟨rfl, _, World.drewN_drewN _ _ _⟩ | exact ⟨rfl, _, Eq.trans (World.drewN_drewN _ _ _) (congrArg (World.drewN _) (Nat.add_assoc _ _ _))⟩))); try go_wp2_with (first | (go_at_call 17; (with_reducible refine (hatstandlaw14_events.calls kj3 _ _ l0 t210 _ ?side1 ?side2 A8.out).mono ?_); (case side1 => repeat (first | exact (Kd.C_below HR0.out HB.out) | (with_reducible refine Kd.C_alloc ?_ _) | (with_reducible refine Kd.C_drewN ?_ _) | (with_reducible refine Kd.C_drew ?_))); (case side2 => exact HC0.out); rintro e w10 ⟨v211, rfl, ho0, hb⟩; have n0_ := Aside0.mk (Kd.R_lower ho0 (below_size (by repeat (first | (with_reducible first | exact HB.out | apply below_alloc | apply pw_below_drewN | apply below_drew1) | exact HB.out)))); have n1_ := Aside0.mk (below_step (by repeat (first | (with_reducible first | exact HB.out | apply below_alloc | apply pw_below_drewN | apply below_drew1) | exact HB.out)) hb); clear HB; have HO212 := n0_; have HB := n1_; clear n0_ n1_; (try clear hb); (try clear hb2); (try clear hk); (try clear hi); (try clear ho0)) | (go_at_call 18; (with_reducible refine (hatstandlaw14_pick.calls a1 8 t213 _ A9.out).mono ?_); rintro e w' ⟨rfl, ⟨nd, rfl⟩⟩; (try first | exact ⟨rfl, _, World.drewN_drewN _ _ _⟩ | exact ⟨rfl, _, Eq.trans (World.drewN_drewN _ _ _) (congrArg (World.drewN _) (Nat.add_assoc _ _ _))⟩))))
        go_loopg [8, 9] kj3 (fun kq v8 v9 w' => ∃ (x8_2 : List (S47)) (x9_2 : Int), v9 = .int .i64 x9_2 ∧ Aside0 (hatstandlaw14_HistoryThreads.l0 kq t210 t213 x8_2 x9_2 = some r) ∧ Aside0 (kq ≤ kj3) ∧ Aside0 (Kd.R k47 47 w' w.heap.size (fun k_ => some k_ ≠ (v8 : Value).ownBlock) v211 t210) ∧ Aside0 (Kd.R k47 47 w' w.heap.size (fun k_ => some k_ ≠ (v211 : Value).ownBlock) v8 x8_2) ∧ Aside0 (Below w.heap.size w w'))
        case atStart => exact ⟨(([] : List (S47))), (0), (by first | rfl | (simp; done) | (simp [*]; done)), H', ⟨Nat.le_refl _⟩, ⟨by (with_reducible repeat (first | apply Kd.R_alloc | apply Kd.R_drewN | apply Kd.R_drew)); exact Kd.R_mono HO212.out (fun _ hk => (by simp [Value.ownBlock]))⟩, ⟨by first | exact Kd.R_nil _ _ _ _ _ | exact Kd.N_nil _ _ _ _ _ | exact Kd.V_nil _ _ _ _ _ | exact Kd.Q_nil _ _ _ _ _ | exact Kd.S_nil _ _ _ _ _⟩, ⟨by repeat (first | (with_reducible first | exact HB.out | apply below_alloc | apply pw_below_drewN | apply below_drew1) | exact HB.out)⟩⟩
        case round =>
          clear H'
          try clear p2
          try clear c6
          try clear c7
          try clear c8
          try clear p2
          obtain ⟨x8_2, x9_2, rfl, HA, HK2, HO_6, HO_8, HB⟩ := hrel
          cases gk with
          | zero => exact absurd HA.out (by simp [hatstandlaw14_HistoryThreads.l0])
          | succ k2 =>
            have H := HA.out
            clear HA
            simp only [hatstandlaw14_HistoryThreads.l0] at H
            by_cases c11 : x9_2 < (t210.length : Int)
            · rw [if_pos c11] at H
              have c11b0 : decide (x9_2 < (t210.length : Int)) = true := decide_eq_true c11
              clear c11
              by_cases c12 : 0 ≤ x9_2
              · rw [if_pos c12] at H
                have c12b0 : decide (0 ≤ x9_2) = true := decide_eq_true c12
                clear c12
                by_cases c13 : ((rd_T47 t210 x9_2).f0) = t213
                · rw [if_pos c13] at H
                  have c13b0 : (((rd_T47 t210 x9_2).f0) == t213) = true := beq_iff_eq.mpr c13
                  have c13b1 : (((rd_T47 t210 x9_2).f0) != t213) = false := bne_eq_false_iff_eq.mpr c13
                  clear c13
                  by_cases c14 : x8_2.length < 4398046511104
                  · rw [if_pos c14] at H
                    have LMc14 := Aside0.mk c14
                    clear c14
                    obtain ⟨y216, hy216⟩ : ∃ y_ : List (S47), y_ = (x8_2 ++ [(⟨(rd_T47 t210 x9_2).f0, (rd_T47 t210 x9_2).f1, (rd_T47 t210 x9_2).f2, (rd_T47 t210 x9_2).f3, (rd_T47 t210 x9_2).f4⟩ : S47)]) := ⟨_, rfl⟩
                    replace H : (hatstandlaw14_HistoryThreads.l0 k2 t210 t213 y216 (wrap64 (x9_2 + 1))) = some r := by first | (rw [hy216]; with_reducible exact H) | (have H2_ := (Option.bind_some _ _).symm.trans H; rw [hy216]; with_reducible exact H2_) | (have H2_ := (Option.bind_some _ _).symm.trans H; with_reducible exact H2_) | with_reducible exact H | (rw [hy216]; exact H) | exact H
                    have Ny216 := Aside0.mk hy216
                    clear hy216
                    have H' := Aside0.mk H
                    clear H
                    obtain ⟨Ao15, co15, eo15⟩ := Kd.R_slice HO_6.out
                    subst eo15
                    have p214 : 0 ≤ (x9_2 : Int) := of_decide_eq_true (by first | (with_reducible assumption) | assumption)
                    have q214 : x9_2 < (t210.length : Int) := of_decide_eq_true (by first | (with_reducible assumption) | assumption)
                    obtain ⟨ad214, e214, hx214_0, hx214_1, hx214_2, hx214_3, hx214_4⟩ := at_T47 (Kd.R_reads' HO_6.out).2.2 x9_2 p214 q214
                    cases e214
                    replace p214 := eq_true p214
                    replace q214 := eq_true q214
                    have p215 : 0 ≤ (x9_2 : Int) := of_decide_eq_true (by first | (with_reducible assumption) | assumption)
                    have q215 : x9_2 < (t210.length : Int) := of_decide_eq_true (by first | (with_reducible assumption) | assumption)
                    obtain ⟨ad215, e215, hx215_0, hx215_1, hx215_2, hx215_3, hx215_4⟩ := at_T47 (Kd.R_reads' HO_6.out).2.2 x9_2 p215 q215
                    obtain rfl : ad214 = ad215 := (by injection e215)
                    replace p215 := eq_true p215
                    replace q215 := eq_true q215
                    go_wp2_with (first | ((with_reducible refine gate_builtin (b := .append) (xs := #[.tmp 42, .tmp 47]) rfl ?_); (try (refine gate_guard (by rfl) ?_; dsimp only)); at_builtin; refine Kd.R_append k47 (w0 := w) w.heap.size rfl (.tmp 42) (.tmp 47) 22 47 (.agg #[(.int .i64 0), (.bool false), (.bool false), (.int .u64 0), (.int .i64 0)]) 32 rfl Try.underlying22 info47 rfl (by decide) (by omega) u8 x8_2 (⟨(rd_T47 t210 x9_2).f0, (rd_T47 t210 x9_2).f1, (rd_T47 t210 x9_2).f2, (rd_T47 t210 x9_2).f3, (rd_T47 t210 x9_2).f4⟩ : S47) [.int .i64 ((rd_T47 t210 x9_2).f0), .bool ((rd_T47 t210 x9_2).f1), .bool ((rd_T47 t210 x9_2).f2), .int .u64 ((rd_T47 t210 x9_2).f3), .int .i64 ((rd_T47 t210 x9_2).f4)] (fun k_ => some k_ ≠ (.slice (some ad214) t210.length co15 : Value).ownBlock) (fun _ => False) rfl rfl ?aP (fun _ hk => hk.elim) ?aF ?aO ?aB ?aS ?aL ?_; (case aP => exact k47_mkM _ _ _ (⟨(rd_T47 t210 x9_2).f0, (rd_T47 t210 x9_2).f1, (rd_T47 t210 x9_2).f2, (rd_T47 t210 x9_2).f3, (rd_T47 t210 x9_2).f4⟩ : S47)); (case aB => exact (by repeat (first | (with_reducible first | exact HB.out | apply below_alloc | apply pw_below_drewN | apply below_drew1) | exact HB.out))); (case aF => exact (fun k_ hk => Kd.fresh' (Kd.R_lt (by (with_reducible repeat (first | apply Kd.R_alloc | apply Kd.R_drewN | apply Kd.R_drew)); exact HO_6.out)) k_ hk)); (case aO => exact (by (with_reducible repeat (first | apply Kd.R_alloc | apply Kd.R_drewN | apply Kd.R_drew)); exact HO_8.out)); (case aS => exact (below_size (by repeat (first | (with_reducible first | exact HB.out | apply below_alloc | apply pw_below_drewN | apply below_drew1) | exact HB.out)))); (case aL => have := LMc14.out; omega); intro v217 w16 ho hb hg hat; rw [← Ny216.out] at ho; have n0_ := Aside0.mk (Kd.R_after (ok := (fun _ => True)) (by (with_reducible repeat (first | apply Kd.R_alloc | apply Kd.R_drewN | apply Kd.R_drew)); exact Kd.R_mono HO_6.out (fun _ hk => ⟨trivial, hk⟩)) hg hat); have n1_ := Aside0.mk (hb); have n2_ := Aside0.mk (ho); clear HO_6; clear HB; clear HO_8; have HO_6 := n0_; have HB := n1_; have HO218 := n2_; clear n0_ n1_ n2_; clear ho hb hg hat))
                    repeat (go_quiet (first | ((with_reducible refine gate_builtin (b := .append) (xs := #[.tmp 42, .tmp 47]) rfl ?_); (try (refine gate_guard (by rfl) ?_; dsimp only)); at_builtin; refine Kd.R_append k47 (w0 := w) w.heap.size rfl (.tmp 42) (.tmp 47) 22 47 (.agg #[(.int .i64 0), (.bool false), (.bool false), (.int .u64 0), (.int .i64 0)]) 32 rfl Try.underlying22 info47 rfl (by decide) (by omega) u8 x8_2 (⟨(rd_T47 t210 x9_2).f0, (rd_T47 t210 x9_2).f1, (rd_T47 t210 x9_2).f2, (rd_T47 t210 x9_2).f3, (rd_T47 t210 x9_2).f4⟩ : S47) [.int .i64 ((rd_T47 t210 x9_2).f0), .bool ((rd_T47 t210 x9_2).f1), .bool ((rd_T47 t210 x9_2).f2), .int .u64 ((rd_T47 t210 x9_2).f3), .int .i64 ((rd_T47 t210 x9_2).f4)] (fun k_ => some k_ ≠ (.slice (some ad214) t210.length co15 : Value).ownBlock) (fun _ => False) rfl rfl ?aP (fun _ hk => hk.elim) ?aF ?aO ?aB ?aS ?aL ?_; (case aP => exact k47_mkM _ _ _ (⟨(rd_T47 t210 x9_2).f0, (rd_T47 t210 x9_2).f1, (rd_T47 t210 x9_2).f2, (rd_T47 t210 x9_2).f3, (rd_T47 t210 x9_2).f4⟩ : S47)); (case aB => exact (by repeat (first | (with_reducible first | exact HB.out | apply below_alloc | apply pw_below_drewN | apply below_drew1) | exact HB.out))); (case aF => exact (fun k_ hk => Kd.fresh' (Kd.R_lt (by (with_reducible repeat (first | apply Kd.R_alloc | apply Kd.R_drewN | apply Kd.R_drew)); exact HO_6.out)) k_ hk)); (case aO => exact (by (with_reducible repeat (first | apply Kd.R_alloc | apply Kd.R_drewN | apply Kd.R_drew)); exact HO_8.out)); (case aS => exact (below_size (by repeat (first | (with_reducible first | exact HB.out | apply below_alloc | apply pw_below_drewN | apply below_drew1) | exact HB.out)))); (case aL => have := LMc14.out; omega); intro v217 w16 ho hb hg hat; rw [← Ny216.out] at ho; have n0_ := Aside0.mk (Kd.R_after (ok := (fun _ => True)) (by (with_reducible repeat (first | apply Kd.R_alloc | apply Kd.R_drewN | apply Kd.R_drew)); exact Kd.R_mono HO_6.out (fun _ hk => ⟨trivial, hk⟩)) hg hat); have n1_ := Aside0.mk (hb); have n2_ := Aside0.mk (ho); clear HO_6; clear HB; clear HO_8; have HO_6 := n0_; have HB := n1_; have HO218 := n2_; clear n0_ n1_ n2_; clear ho hb hg hat)); try go_wp2_with (first | ((with_reducible refine gate_builtin (b := .append) (xs := #[.tmp 42, .tmp 47]) rfl ?_); (try (refine gate_guard (by rfl) ?_; dsimp only)); at_builtin; refine Kd.R_append k47 (w0 := w) w.heap.size rfl (.tmp 42) (.tmp 47) 22 47 (.agg #[(.int .i64 0), (.bool false), (.bool false), (.int .u64 0), (.int .i64 0)]) 32 rfl Try.underlying22 info47 rfl (by decide) (by omega) u8 x8_2 (⟨(rd_T47 t210 x9_2).f0, (rd_T47 t210 x9_2).f1, (rd_T47 t210 x9_2).f2, (rd_T47 t210 x9_2).f3, (rd_T47 t210 x9_2).f4⟩ : S47) [.int .i64 ((rd_T47 t210 x9_2).f0), .bool ((rd_T47 t210 x9_2).f1), .bool ((rd_T47 t210 x9_2).f2), .int .u64 ((rd_T47 t210 x9_2).f3), .int .i64 ((rd_T47 t210 x9_2).f4)] (fun k_ => some k_ ≠ (.slice (some ad214) t210.length co15 : Value).ownBlock) (fun _ => False) rfl rfl ?aP (fun _ hk => hk.elim) ?aF ?aO ?aB ?aS ?aL ?_; (case aP => exact k47_mkM _ _ _ (⟨(rd_T47 t210 x9_2).f0, (rd_T47 t210 x9_2).f1, (rd_T47 t210 x9_2).f2, (rd_T47 t210 x9_2).f3, (rd_T47 t210 x9_2).f4⟩ : S47)); (case aB => exact (by repeat (first | (with_reducible first | exact HB.out | apply below_alloc | apply pw_below_drewN | apply below_drew1) | exact HB.out))); (case aF => exact (fun k_ hk => Kd.fresh' (Kd.R_lt (by (with_reducible repeat (first | apply Kd.R_alloc | apply Kd.R_drewN | apply Kd.R_drew)); exact HO_6.out)) k_ hk)); (case aO => exact (by (with_reducible repeat (first | apply Kd.R_alloc | apply Kd.R_drewN | apply Kd.R_drew)); exact HO_8.out)); (case aS => exact (below_size (by repeat (first | (with_reducible first | exact HB.out | apply below_alloc | apply pw_below_drewN | apply below_drew1) | exact HB.out)))); (case aL => have := LMc14.out; omega); intro v217 w16 ho hb hg hat; rw [← Ny216.out] at ho; have n0_ := Aside0.mk (Kd.R_after (ok := (fun _ => True)) (by (with_reducible repeat (first | apply Kd.R_alloc | apply Kd.R_drewN | apply Kd.R_drew)); exact Kd.R_mono HO_6.out (fun _ hk => ⟨trivial, hk⟩)) hg hat); have n1_ := Aside0.mk (hb); have n2_ := Aside0.mk (ho); clear HO_6; clear HB; clear HO_8; have HO_6 := n0_; have HB := n1_; have HO218 := n2_; clear n0_ n1_ n2_; clear ho hb hg hat)))
                    go_roundg k2
                    case measure => have := HJ3.out; have := HK2.out; omega
                    case rel => exact ⟨(y216), (wrap64 (x9_2 + 1)), (by first | rfl | (simp; done) | (simp [*]; done)), H', ⟨by have := HJ3.out; have := HK2.out; omega⟩, ⟨by (with_reducible repeat (first | apply Kd.R_alloc | apply Kd.R_drewN | apply Kd.R_drew)); exact Kd.R_mono HO_6.out (fun _ hk => hk.2)⟩, ⟨by (with_reducible repeat (first | apply Kd.R_alloc | apply Kd.R_drewN | apply Kd.R_drew)); exact HO218.out⟩, ⟨by repeat (first | (with_reducible first | exact HB.out | apply below_alloc | apply pw_below_drewN | apply below_drew1) | exact HB.out)⟩⟩
                  · rw [if_neg c14] at H
                    exact absurd H (by simp)
                · rw [if_neg c13] at H
                  have c13b0 : (((rd_T47 t210 x9_2).f0) == t213) = false := beq_eq_false_iff_ne.mpr c13
                  have c13b1 : (((rd_T47 t210 x9_2).f0) != t213) = true := bne_iff_ne.mpr c13
                  have H' := Aside0.mk H
                  clear H
                  obtain ⟨Ao17, co17, eo17⟩ := Kd.R_slice HO_6.out
                  subst eo17
                  have p214 : 0 ≤ (x9_2 : Int) := of_decide_eq_true (by first | (with_reducible assumption) | assumption)
                  have q214 : x9_2 < (t210.length : Int) := of_decide_eq_true (by first | (with_reducible assumption) | assumption)
                  obtain ⟨ad214, e214, hx214_0, hx214_1, hx214_2, hx214_3, hx214_4⟩ := at_T47 (Kd.R_reads' HO_6.out).2.2 x9_2 p214 q214
                  cases e214
                  replace p214 := eq_true p214
                  replace q214 := eq_true q214
                  go_wp2
                  repeat (go_quiet (fail); try go_wp2)
                  go_roundg k2
                  case measure => have := HJ3.out; have := HK2.out; omega
                  case rel => exact ⟨(x8_2), (wrap64 (x9_2 + 1)), (by first | rfl | (simp; done) | (simp [*]; done)), H', ⟨by have := HJ3.out; have := HK2.out; omega⟩, ⟨by (with_reducible repeat (first | apply Kd.R_alloc | apply Kd.R_drewN | apply Kd.R_drew)); exact HO_6.out⟩, ⟨by (with_reducible repeat (first | apply Kd.R_alloc | apply Kd.R_drewN | apply Kd.R_drew)); exact HO_8.out⟩, ⟨by repeat (first | (with_reducible first | exact HB.out | apply below_alloc | apply pw_below_drewN | apply below_drew1) | exact HB.out)⟩⟩
              · rw [if_neg c12] at H
                exact absurd H (by simp)
            · rw [if_neg c11] at H
              have c11b0 : decide (x9_2 < (t210.length : Int)) = false := decide_eq_false c11
              clear c11
              replace H := Option.bind_eq_some_iff.mp H
              obtain ⟨⟨t219, t220⟩, A180, H⟩ := H
              replace H : ((history_Calls.f x8_2).bind fun bt223 => (if t220 = 0 then (if bt223.2 = 0 then ((history_Alone.f k2 bt223.1).bind fun t227 => (hatstandlaw14_HistoryThreads.j2 k2 t213 t219 bt223.1 (!t227))) else (hatstandlaw14_HistoryThreads.j2 k2 t213 t219 bt223.1 true)) else (hatstandlaw14_HistoryThreads.j2 k2 t213 t219 bt223.1 true))) = some r := H
              have A18 := Aside0.mk A180
              clear A180
              replace H := Option.bind_eq_some_iff.mp H
              obtain ⟨⟨t223, t224⟩, A190, H⟩ := H
              replace H : (if t220 = 0 then (if t224 = 0 then ((history_Alone.f k2 t223).bind fun t227 => (hatstandlaw14_HistoryThreads.j2 k2 t213 t219 t223 (!t227))) else (hatstandlaw14_HistoryThreads.j2 k2 t213 t219 t223 true)) else (hatstandlaw14_HistoryThreads.j2 k2 t213 t219 t223 true)) = some r := H
              have A19 := Aside0.mk A190
              clear A190
              have HC20 := Aside0.mk H
              clear H
              obtain ⟨Ao21, co21, eo21⟩ := Kd.R_slice HO_6.out
              subst eo21
              go_upto_region 14 with (first | (go_at_call 13; (with_reducible refine (history_Calls.calls _ _ t210 t219 t220 _ ?side1 ?side2 A18.out).mono ?_); (case side1 => repeat (first | exact (Kd.R_reads' HO_6.out).2.2 | (with_reducible refine Kd.C_alloc ?_ _) | (with_reducible refine Kd.C_drewN ?_ _) | (with_reducible refine Kd.C_drew ?_))); (case side2 => exact (Kd.R_reads' HO_6.out).2.1); rintro e w22 ⟨v221, rfl, ho0, hb⟩; have n0_ := Aside0.mk (Kd.R_below (by (with_reducible repeat (first | apply Kd.R_alloc | apply Kd.R_drewN | apply Kd.R_drew)); exact HO_6.out) hb); have n1_ := Aside0.mk (Kd.R_below (by (with_reducible repeat (first | apply Kd.R_alloc | apply Kd.R_drewN | apply Kd.R_drew)); exact HO_8.out) hb); have n2_ := Aside0.mk (Kd.R_lower ho0 (below_size (by repeat (first | (with_reducible first | exact HB.out | apply below_alloc | apply pw_below_drewN | apply below_drew1) | exact HB.out)))); have n3_ := Aside0.mk (below_step (by repeat (first | (with_reducible first | exact HB.out | apply below_alloc | apply pw_below_drewN | apply below_drew1) | exact HB.out)) hb); clear HO_6; clear HO_8; clear HB; have HO_6 := n0_; have HO_8 := n1_; have HO222 := n2_; have HB := n3_; clear n0_ n1_ n2_ n3_; (try clear hb); (try clear hb2); (try clear hk); (try clear hi); (try clear ho0); obtain ⟨Ao23, co23, eo23⟩ := Kd.R_slice HO_8.out; subst eo23) | (go_at_call 13; (with_reducible refine (history_Calls.calls _ _ x8_2 t223 t224 _ ?side1 ?side2 A19.out).mono ?_); (case side1 => repeat (first | exact (Kd.R_reads' HO_8.out).2.2 | (with_reducible refine Kd.C_alloc ?_ _) | (with_reducible refine Kd.C_drewN ?_ _) | (with_reducible refine Kd.C_drew ?_))); (case side2 => exact (Kd.R_reads' HO_8.out).2.1); rintro e w24 ⟨v225, rfl, ho0, hb⟩; have n0_ := Aside0.mk (Kd.R_below (by (with_reducible repeat (first | apply Kd.R_alloc | apply Kd.R_drewN | apply Kd.R_drew)); exact HO_6.out) hb); have n1_ := Aside0.mk (Kd.R_below (by (with_reducible repeat (first | apply Kd.R_alloc | apply Kd.R_drewN | apply Kd.R_drew)); exact HO_8.out) hb); have n2_ := Aside0.mk (Kd.R_elder' (by (with_reducible repeat (first | apply Kd.R_alloc | apply Kd.R_drewN | apply Kd.R_drew)); exact HO222.out) (Kd.R_base ho0) hb); have n3_ := Aside0.mk (Kd.R_lower (Kd.R_new' ho0 (Kd.R_lt (by (with_reducible repeat (first | apply Kd.R_alloc | apply Kd.R_drewN | apply Kd.R_drew)); exact HO222.out))) (below_size (by repeat (first | (with_reducible first | exact HB.out | apply below_alloc | apply pw_below_drewN | apply below_drew1) | exact HB.out)))); have n4_ := Aside0.mk (below_step (by repeat (first | (with_reducible first | exact HB.out | apply below_alloc | apply pw_below_drewN | apply below_drew1) | exact HB.out)) hb); clear HO_6; clear HO_8; clear HO222; clear HB; have HO_6 := n0_; have HO_8 := n1_; have HO222 := n2_; have HO226 := n3_; have HB := n4_; clear n0_ n1_ n2_ n3_ n4_; (try clear hb); (try clear hb2); (try clear hk); (try clear hi); (try clear ho0)))
              repeat (go_quiet (first | (go_at_call 13; (with_reducible refine (history_Calls.calls _ _ t210 t219 t220 _ ?side1 ?side2 A18.out).mono ?_); (case side1 => repeat (first | exact (Kd.R_reads' HO_6.out).2.2 | (with_reducible refine Kd.C_alloc ?_ _) | (with_reducible refine Kd.C_drewN ?_ _) | (with_reducible refine Kd.C_drew ?_))); (case side2 => exact (Kd.R_reads' HO_6.out).2.1); rintro e w22 ⟨v221, rfl, ho0, hb⟩; have n0_ := Aside0.mk (Kd.R_below (by (with_reducible repeat (first | apply Kd.R_alloc | apply Kd.R_drewN | apply Kd.R_drew)); exact HO_6.out) hb); have n1_ := Aside0.mk (Kd.R_below (by (with_reducible repeat (first | apply Kd.R_alloc | apply Kd.R_drewN | apply Kd.R_drew)); exact HO_8.out) hb); have n2_ := Aside0.mk (Kd.R_lower ho0 (below_size (by repeat (first | (with_reducible first | exact HB.out | apply below_alloc | apply pw_below_drewN | apply below_drew1) | exact HB.out)))); have n3_ := Aside0.mk (below_step (by repeat (first | (with_reducible first | exact HB.out | apply below_alloc | apply pw_below_drewN | apply below_drew1) | exact HB.out)) hb); clear HO_6; clear HO_8; clear HB; have HO_6 := n0_; have HO_8 := n1_; have HO222 := n2_; have HB := n3_; clear n0_ n1_ n2_ n3_; (try clear hb); (try clear hb2); (try clear hk); (try clear hi); (try clear ho0); obtain ⟨Ao23, co23, eo23⟩ := Kd.R_slice HO_8.out; subst eo23) | (go_at_call 13; (with_reducible refine (history_Calls.calls _ _ x8_2 t223 t224 _ ?side1 ?side2 A19.out).mono ?_); (case side1 => repeat (first | exact (Kd.R_reads' HO_8.out).2.2 | (with_reducible refine Kd.C_alloc ?_ _) | (with_reducible refine Kd.C_drewN ?_ _) | (with_reducible refine Kd.C_drew ?_))); (case side2 => exact (Kd.R_reads' HO_8.out).2.1); rintro e w24 ⟨v225, rfl, ho0, hb⟩; have n0_ := Aside0.mk (Kd.R_below (by (with_reducible repeat (first | apply Kd.R_alloc | apply Kd.R_drewN | apply Kd.R_drew)); exact HO_6.out) hb); have n1_ := Aside0.mk (Kd.R_below (by (with_reducible repeat (first | apply Kd.R_alloc | apply Kd.R_drewN | apply Kd.R_drew)); exact HO_8.out) hb); have n2_ := Aside0.mk (Kd.R_elder' (by (with_reducible repeat (first | apply Kd.R_alloc | apply Kd.R_drewN | apply Kd.R_drew)); exact HO222.out) (Kd.R_base ho0) hb); have n3_ := Aside0.mk (Kd.R_lower (Kd.R_new' ho0 (Kd.R_lt (by (with_reducible repeat (first | apply Kd.R_alloc | apply Kd.R_drewN | apply Kd.R_drew)); exact HO222.out))) (below_size (by repeat (first | (with_reducible first | exact HB.out | apply below_alloc | apply pw_below_drewN | apply below_drew1) | exact HB.out)))); have n4_ := Aside0.mk (below_step (by repeat (first | (with_reducible first | exact HB.out | apply below_alloc | apply pw_below_drewN | apply below_drew1) | exact HB.out)) hb); clear HO_6; clear HO_8; clear HO222; clear HB; have HO_6 := n0_; have HO_8 := n1_; have HO222 := n2_; have HO226 := n3_; have HB := n4_; clear n0_ n1_ n2_ n3_ n4_; (try clear hb); (try clear hb2); (try clear hk); (try clear hi); (try clear ho0))); go_upto_region 14 with (first | (go_at_call 13; (with_reducible refine (history_Calls.calls _ _ t210 t219 t220 _ ?side1 ?side2 A18.out).mono ?_); (case side1 => repeat (first | exact (Kd.R_reads' HO_6.out).2.2 | (with_reducible refine Kd.C_alloc ?_ _) | (with_reducible refine Kd.C_drewN ?_ _) | (with_reducible refine Kd.C_drew ?_))); (case side2 => exact (Kd.R_reads' HO_6.out).2.1); rintro e w22 ⟨v221, rfl, ho0, hb⟩; have n0_ := Aside0.mk (Kd.R_below (by (with_reducible repeat (first | apply Kd.R_alloc | apply Kd.R_drewN | apply Kd.R_drew)); exact HO_6.out) hb); have n1_ := Aside0.mk (Kd.R_below (by (with_reducible repeat (first | apply Kd.R_alloc | apply Kd.R_drewN | apply Kd.R_drew)); exact HO_8.out) hb); have n2_ := Aside0.mk (Kd.R_lower ho0 (below_size (by repeat (first | (with_reducible first | exact HB.out | apply below_alloc | apply pw_below_drewN | apply below_drew1) | exact HB.out)))); have n3_ := Aside0.mk (below_step (by repeat (first | (with_reducible first | exact HB.out | apply below_alloc | apply pw_below_drewN | apply below_drew1) | exact HB.out)) hb); clear HO_6; clear HO_8; clear HB; have HO_6 := n0_; have HO_8 := n1_; have HO222 := n2_; have HB := n3_; clear n0_ n1_ n2_ n3_; (try clear hb); (try clear hb2); (try clear hk); (try clear hi); (try clear ho0); obtain ⟨Ao23, co23, eo23⟩ := Kd.R_slice HO_8.out; subst eo23) | (go_at_call 13; (with_reducible refine (history_Calls.calls _ _ x8_2 t223 t224 _ ?side1 ?side2 A19.out).mono ?_); (case side1 => repeat (first | exact (Kd.R_reads' HO_8.out).2.2 | (with_reducible refine Kd.C_alloc ?_ _) | (with_reducible refine Kd.C_drewN ?_ _) | (with_reducible refine Kd.C_drew ?_))); (case side2 => exact (Kd.R_reads' HO_8.out).2.1); rintro e w24 ⟨v225, rfl, ho0, hb⟩; have n0_ := Aside0.mk (Kd.R_below (by (with_reducible repeat (first | apply Kd.R_alloc | apply Kd.R_drewN | apply Kd.R_drew)); exact HO_6.out) hb); have n1_ := Aside0.mk (Kd.R_below (by (with_reducible repeat (first | apply Kd.R_alloc | apply Kd.R_drewN | apply Kd.R_drew)); exact HO_8.out) hb); have n2_ := Aside0.mk (Kd.R_elder' (by (with_reducible repeat (first | apply Kd.R_alloc | apply Kd.R_drewN | apply Kd.R_drew)); exact HO222.out) (Kd.R_base ho0) hb); have n3_ := Aside0.mk (Kd.R_lower (Kd.R_new' ho0 (Kd.R_lt (by (with_reducible repeat (first | apply Kd.R_alloc | apply Kd.R_drewN | apply Kd.R_drew)); exact HO222.out))) (below_size (by repeat (first | (with_reducible first | exact HB.out | apply below_alloc | apply pw_below_drewN | apply below_drew1) | exact HB.out)))); have n4_ := Aside0.mk (below_step (by repeat (first | (with_reducible first | exact HB.out | apply below_alloc | apply pw_below_drewN | apply below_drew1) | exact HB.out)) hb); clear HO_6; clear HO_8; clear HO222; clear HB; have HO_6 := n0_; have HO_8 := n1_; have HO222 := n2_; have HO226 := n3_; have HB := n4_; clear n0_ n1_ n2_ n3_ n4_; (try clear hb); (try clear hb2); (try clear hk); (try clear hi); (try clear ho0))))
              (try simp only [Act.put, List.setIfInBounds_toArray, List.set_cons_zero, List.set_cons_succ])
              go_cut [69] (fun v69 wc => ∃ (kq : Nat) (x69_19 : Bool), v69 = .bool x69_19 ∧ Aside0 (hatstandlaw14_HistoryThreads.j2 kq t213 t219 t223 x69_19 = some r) ∧ Aside0 (kq ≤ k2) ∧ Aside0 (Kd.R k45 45 wc w.heap.size (fun k_ => some k_ ≠ (v225 : Value).ownBlock) v221 t219) ∧ Aside0 (Kd.R k45 45 wc w.heap.size (fun k_ => some k_ ≠ (v221 : Value).ownBlock) v225 t223) ∧ Aside0 (Below w.heap.size w wc))
              case first =>
                have H := HC20.out
                clear HC20
                by_cases c25 : t220 = 0
                · rw [if_pos c25] at H
                  have c25b0 : (t220 == 0) = true := beq_iff_eq.mpr c25
                  have c25b1 : (t220 != 0) = false := bne_eq_false_iff_eq.mpr c25
                  clear c25
                  (first | rw [c25b0] | (simp only [i64_w, i32_w, Go.IntKind.wrap_u32]; rw [c25b0]) | skip)
                  by_cases c26 : t224 = 0
                  · rw [if_pos c26] at H
                    have c26b0 : (t224 == 0) = true := beq_iff_eq.mpr c26
                    have c26b1 : (t224 != 0) = false := bne_eq_false_iff_eq.mpr c26
                    clear c26
                    replace H := Option.bind_eq_some_iff.mp H
                    obtain ⟨t227, A270, H⟩ := H
                    replace H : (hatstandlaw14_HistoryThreads.j2 k2 t213 t219 t223 (!t227)) = some r := H
                    have A27 := Aside0.mk A270
                    clear A270
                    have H' := Aside0.mk H
                    clear H
                    obtain ⟨Ao28, co28, eo28⟩ := Kd.R_slice HO226.out
                    subst eo28
                    go_wp2_with (first | (go_at_call 20; (with_reducible refine (history_Alone.calls k2 _ _ t223 t227 _ ?side1 ?side2 A27.out).mono ?_); (case side1 => repeat (first | exact (Kd.R_reads' HO226.out).2.2 | (with_reducible refine Kd.C_alloc ?_ _) | (with_reducible refine Kd.C_drewN ?_ _) | (with_reducible refine Kd.C_drew ?_))); (case side2 => exact (Kd.R_reads' HO226.out).2.1); rintro e w29 ⟨rfl, hb⟩; have n0_ := Aside0.mk (Kd.R_below (by (with_reducible repeat (first | apply Kd.R_alloc | apply Kd.R_drewN | apply Kd.R_drew)); exact HO_6.out) hb); have n1_ := Aside0.mk (Kd.R_below (by (with_reducible repeat (first | apply Kd.R_alloc | apply Kd.R_drewN | apply Kd.R_drew)); exact HO_8.out) hb); have n2_ := Aside0.mk (Kd.R_below (by (with_reducible repeat (first | apply Kd.R_alloc | apply Kd.R_drewN | apply Kd.R_drew)); exact HO222.out) hb); have n3_ := Aside0.mk (Kd.R_below (by (with_reducible repeat (first | apply Kd.R_alloc | apply Kd.R_drewN | apply Kd.R_drew)); exact HO226.out) hb); have n4_ := Aside0.mk (below_step (by repeat (first | (with_reducible first | exact HB.out | apply below_alloc | apply pw_below_drewN | apply below_drew1) | exact HB.out)) hb); clear HO_6; clear HO_8; clear HO222; clear HO226; clear HB; have HO_6 := n0_; have HO_8 := n1_; have HO222 := n2_; have HO226 := n3_; have HB := n4_; clear n0_ n1_ n2_ n3_ n4_; (try clear hb); (try clear hb2); (try clear hk); (try clear hi)))
                    repeat (go_quiet (first | (go_at_call 20; (with_reducible refine (history_Alone.calls k2 _ _ t223 t227 _ ?side1 ?side2 A27.out).mono ?_); (case side1 => repeat (first | exact (Kd.R_reads' HO226.out).2.2 | (with_reducible refine Kd.C_alloc ?_ _) | (with_reducible refine Kd.C_drewN ?_ _) | (with_reducible refine Kd.C_drew ?_))); (case side2 => exact (Kd.R_reads' HO226.out).2.1); rintro e w29 ⟨rfl, hb⟩; have n0_ := Aside0.mk (Kd.R_below (by (with_reducible repeat (first | apply Kd.R_alloc | apply Kd.R_drewN | apply Kd.R_drew)); exact HO_6.out) hb); have n1_ := Aside0.mk (Kd.R_below (by (with_reducible repeat (first | apply Kd.R_alloc | apply Kd.R_drewN | apply Kd.R_drew)); exact HO_8.out) hb); have n2_ := Aside0.mk (Kd.R_below (by (with_reducible repeat (first | apply Kd.R_alloc | apply Kd.R_drewN | apply Kd.R_drew)); exact HO222.out) hb); have n3_ := Aside0.mk (Kd.R_below (by (with_reducible repeat (first | apply Kd.R_alloc | apply Kd.R_drewN | apply Kd.R_drew)); exact HO226.out) hb); have n4_ := Aside0.mk (below_step (by repeat (first | (with_reducible first | exact HB.out | apply below_alloc | apply pw_below_drewN | apply below_drew1) | exact HB.out)) hb); clear HO_6; clear HO_8; clear HO222; clear HO226; clear HB; have HO_6 := n0_; have HO_8 := n1_; have HO222 := n2_; have HO226 := n3_; have HB := n4_; clear n0_ n1_ n2_ n3_ n4_; (try clear hb); (try clear hb2); (try clear hk); (try clear hi))); try go_wp2_with (first | (go_at_call 20; (with_reducible refine (history_Alone.calls k2 _ _ t223 t227 _ ?side1 ?side2 A27.out).mono ?_); (case side1 => repeat (first | exact (Kd.R_reads' HO226.out).2.2 | (with_reducible refine Kd.C_alloc ?_ _) | (with_reducible refine Kd.C_drewN ?_ _) | (with_reducible refine Kd.C_drew ?_))); (case side2 => exact (Kd.R_reads' HO226.out).2.1); rintro e w29 ⟨rfl, hb⟩; have n0_ := Aside0.mk (Kd.R_below (by (with_reducible repeat (first | apply Kd.R_alloc | apply Kd.R_drewN | apply Kd.R_drew)); exact HO_6.out) hb); have n1_ := Aside0.mk (Kd.R_below (by (with_reducible repeat (first | apply Kd.R_alloc | apply Kd.R_drewN | apply Kd.R_drew)); exact HO_8.out) hb); have n2_ := Aside0.mk (Kd.R_below (by (with_reducible repeat (first | apply Kd.R_alloc | apply Kd.R_drewN | apply Kd.R_drew)); exact HO222.out) hb); have n3_ := Aside0.mk (Kd.R_below (by (with_reducible repeat (first | apply Kd.R_alloc | apply Kd.R_drewN | apply Kd.R_drew)); exact HO226.out) hb); have n4_ := Aside0.mk (below_step (by repeat (first | (with_reducible first | exact HB.out | apply below_alloc | apply pw_below_drewN | apply below_drew1) | exact HB.out)) hb); clear HO_6; clear HO_8; clear HO222; clear HO226; clear HB; have HO_6 := n0_; have HO_8 := n1_; have HO222 := n2_; have HO226 := n3_; have HB := n4_; clear n0_ n1_ n2_ n3_ n4_; (try clear hb); (try clear hb2); (try clear hk); (try clear hi))))
                    go_meet
                    case rel => exact ⟨_, (!t227), (by first | rfl | (simp; done) | (simp [*]; done)), H', ⟨by have := HJ3.out; have := HK2.out; first | omega | exact Nat.le_refl _⟩, ⟨by (with_reducible repeat (first | apply Kd.R_alloc | apply Kd.R_drewN | apply Kd.R_drew)); exact Kd.R_mono HO222.out (fun _ hk => hk.2)⟩, ⟨by (with_reducible repeat (first | apply Kd.R_alloc | apply Kd.R_drewN | apply Kd.R_drew)); exact Kd.R_mono HO226.out (fun _ hk => hk.2)⟩, ⟨by repeat (first | (with_reducible first | exact HB.out | apply below_alloc | apply pw_below_drewN | apply below_drew1) | exact HB.out)⟩⟩
                  · rw [if_neg c26] at H
                    have c26b0 : (t224 == 0) = false := beq_eq_false_iff_ne.mpr c26
                    have c26b1 : (t224 != 0) = true := bne_iff_ne.mpr c26
                    exact hatstandlaw14_HistoryThreads.j2_dead H HT0.out
                · rw [if_neg c25] at H
                  have c25b0 : (t220 == 0) = false := beq_eq_false_iff_ne.mpr c25
                  have c25b1 : (t220 != 0) = true := bne_iff_ne.mpr c25
                  (first | rw [c25b0] | (simp only [i64_w, i32_w, Go.IntKind.wrap_u32]; rw [c25b0]) | skip)
                  exact hatstandlaw14_HistoryThreads.j2_dead H HT0.out
              case rest =>
                clear HC20
                try clear c1
                try clear c2
                try clear p2
                try clear q2
                try clear hx2
                try clear c6
                try clear p6
                try clear c7
                try clear c8
                try clear c11
                try clear c11b0
                try clear c12
                try clear c12b0
                try clear c13
                try clear c13b0
                try clear c13b1
                try clear c14
                try clear p21
                try clear q21
                try clear hx21
                try clear c25
                try clear c25b0
                try clear c25b1
                try clear c26
                try clear c26b0
                try clear c26b1
                try clear hx214_0
                try clear hx214_1
                try clear hx214_2
                try clear hx214_3
                try clear hx214_4
                try clear hx215_0
                try clear hx215_1
                try clear hx215_2
                try clear hx215_3
                try clear hx215_4
                try clear p2
                try clear p214
                try clear p215
                try clear q214
                try clear q215
                obtain ⟨kq, x69_19, rfl, HA, HJ19, HO_10, HO_12, HB⟩ := hcut
                cases kq with
                | zero => exact absurd HA.out (by simp [hatstandlaw14_HistoryThreads.j2])
                | succ kj19 =>
                  have H := HA.out
                  clear HA
                  simp only [hatstandlaw14_HistoryThreads.j2] at H
                  by_cases c30 : x69_19 = true
                  · subst c30
                    have H1 : (some false) = some r := by rw [if_pos rfl] at H; exact H
                    clear H
                    have H := H1
                    clear H1
                    exact absurd ((Option.some.inj H).trans HT0.out) (by decide)
                  · replace c30 := Bool.eq_false_iff.mpr c30
                    subst c30
                    have H1 : (hatstandlaw14_HistoryThreads.l1 kj19 t213 t219 t223 0 0) = some r := by rw [if_neg (show ¬ (false = true) by decide)] at H; exact H
                    clear H
                    have H := H1
                    clear H1
                    have H' := Aside0.mk H
                    clear H
                    go_wp2
                    repeat (go_quiet (fail); try go_wp2)
                    go_loopg [14, 15] kj19 (fun kq v14 v15 w' => ∃ (x14_4 : Int) (x15_4 : Int), v14 = .int .i64 x14_4 ∧ v15 = .int .i64 x15_4 ∧ Aside0 (hatstandlaw14_HistoryThreads.l1 kq t213 t219 t223 x14_4 x15_4 = some r) ∧ Aside0 (kq ≤ kj19) ∧ Aside0 (Kd.R k45 45 w' w.heap.size (fun k_ => some k_ ≠ (v225 : Value).ownBlock) v221 t219) ∧ Aside0 (Kd.R k45 45 w' w.heap.size (fun k_ => some k_ ≠ (v221 : Value).ownBlock) v225 t223) ∧ Aside0 (Below w.heap.size w w'))
                    case atStart => exact ⟨(0), (0), (by first | rfl | (simp; done) | (simp [*]; done)), (by first | rfl | (simp; done) | (simp [*]; done)), H', ⟨Nat.le_refl _⟩, ⟨by (with_reducible repeat (first | apply Kd.R_alloc | apply Kd.R_drewN | apply Kd.R_drew)); exact HO_10.out⟩, ⟨by (with_reducible repeat (first | apply Kd.R_alloc | apply Kd.R_drewN | apply Kd.R_drew)); exact HO_12.out⟩, ⟨by repeat (first | (with_reducible first | exact HB.out | apply below_alloc | apply pw_below_drewN | apply below_drew1) | exact HB.out)⟩⟩
                    case round =>
                      clear H'
                      try clear c1
                      try clear c2
                      try clear p2
                      try clear q2
                      try clear hx2
                      try clear c3
                      try clear c6
                      try clear p6
                      try clear c7
                      try clear c8
                      try clear c11
                      try clear c11b0
                      try clear c12
                      try clear c12b0
                      try clear c13
                      try clear c13b0
                      try clear c13b1
                      try clear c14
                      try clear p21
                      try clear q21
                      try clear hx21
                      try clear c25
                      try clear c25b0
                      try clear c25b1
                      try clear c26
                      try clear c26b0
                      try clear c26b1
                      try clear c30
                      try clear hx214_0
                      try clear hx214_1
                      try clear hx214_2
                      try clear hx214_3
                      try clear hx214_4
                      try clear hx215_0
                      try clear hx215_1
                      try clear hx215_2
                      try clear hx215_3
                      try clear hx215_4
                      try clear p2
                      try clear p21
                      try clear p214
                      try clear p215
                      try clear p6
                      try clear q2
                      try clear q21
                      try clear q214
                      try clear q215
                      obtain ⟨x14_4, x15_4, rfl, rfl, HA, HK4, HO_10, HO_12, HB⟩ := hrel
                      cases gk with
                      | zero => exact absurd HA.out (by simp [hatstandlaw14_HistoryThreads.l1])
                      | succ k4 =>
                        have H := HA.out
                        clear HA
                        simp only [hatstandlaw14_HistoryThreads.l1] at H
                        by_cases c31 : x15_4 < (t219.length : Int)
                        · rw [if_pos c31] at H
                          have c31b0 : decide (x15_4 < (t219.length : Int)) = true := decide_eq_true c31
                          clear c31
                          by_cases c32 : 0 ≤ x15_4
                          · rw [if_pos c32] at H
                            have c32b0 : decide (0 ≤ x15_4) = true := decide_eq_true c32
                            clear c32
                            by_cases c33 : ((rd_T45 t219 x15_4).f0) = t213
                            · rw [if_pos c33] at H
                              have c33b0 : (((rd_T45 t219 x15_4).f0) == t213) = true := beq_iff_eq.mpr c33
                              have c33b1 : (((rd_T45 t219 x15_4).f0) != t213) = false := bne_eq_false_iff_eq.mpr c33
                              clear c33
                              have HC34 := Aside0.mk H
                              clear H
                              obtain ⟨Ao35, co35, eo35⟩ := Kd.R_slice HO_10.out
                              subst eo35
                              have p228 : 0 ≤ (x15_4 : Int) := of_decide_eq_true (by first | (with_reducible assumption) | assumption)
                              have q228 : x15_4 < (t219.length : Int) := of_decide_eq_true (by first | (with_reducible assumption) | assumption)
                              obtain ⟨ad228, e228, hx228_0, hx228_1, hx228_2, hx228_3, hx228_4, hx228_5⟩ := at_T45 (Kd.R_reads' HO_10.out).2.2 x15_4 p228 q228
                              cases e228
                              replace p228 := eq_true p228
                              replace q228 := eq_true q228
                              go_upto_region 21 with (fail)
                              repeat (go_quiet (fail); go_upto_region 21 with (fail))
                              go_cut [169] (fun v169 wc => ∃ (kq : Nat) (x169_33 : Bool), v169 = .bool x169_33 ∧ Aside0 (hatstandlaw14_HistoryThreads.j4 kq t213 t219 t223 x14_4 x15_4 x169_33 = some r) ∧ Aside0 (kq ≤ k4) ∧ Aside0 (Kd.R k45 45 wc w.heap.size (fun k_ => some k_ ≠ (v225 : Value).ownBlock) (.slice (some ad228) t219.length co35) t219) ∧ Aside0 (Kd.R k45 45 wc w.heap.size (fun k_ => some k_ ≠ ((.slice (some ad228) t219.length co35) : Value).ownBlock) v225 t223) ∧ Aside0 (Below w.heap.size w wc))
                              case first =>
                                simp only [Ytmdjmfbinjnlcaa.Lex.ops_cons, Ytmdjmfbinjnlcaa.Lex.ops_nil]
                                refine Ytmdjmfbinjnlcaa.Lex.with_lex (by kernel_rfl) (by kernel_rfl) ?_
                                intro HLX0
                                have HLX := Aside0.mk HLX0
                                clear HLX0
                                have H := HC34.out
                                clear HC34
                                by_cases c36 : x14_4 ≥ (t223.length : Int)
                                · rw [if_pos c36] at H
                                  have c36b0 : decide ((t223.length : Int) ≤ x14_4) = true := decide_eq_true c36
                                  clear c36
                                  (first | rw [c36b0] | (simp only [i64_w, i32_w, Go.IntKind.wrap_u32]; rw [c36b0]) | skip)
                                  exact hatstandlaw14_HistoryThreads.j4_dead H HT0.out
                                · rw [if_neg c36] at H
                                  have c36b0 : decide ((t223.length : Int) ≤ x14_4) = false := decide_eq_false c36
                                  clear c36
                                  (first | rw [c36b0] | (simp only [i64_w, i32_w, Go.IntKind.wrap_u32]; rw [c36b0]) | skip)
                                  by_cases c38 : 0 ≤ x14_4
                                  · rw [if_pos c38] at H
                                    have c38b0 : decide (0 ≤ x14_4) = true := decide_eq_true c38
                                    clear c38
                                    by_cases c39 : x14_4 < (t223.length : Int)
                                    · rw [if_pos c39] at H
                                      have c39b0 : decide (x14_4 < (t223.length : Int)) = true := decide_eq_true c39
                                      clear c39
                                      by_cases c40 : (((rd_T45 t223 x14_4).f1) != ((rd_T45 t219 x15_4).f1)) = true
                                      · rw [if_pos c40] at H
                                        have c40b0 : (((rd_T45 t223 x14_4).f1) != ((rd_T45 t219 x15_4).f1)) = true := c40
                                        (try (have c40b1 : decide (((rd_T45 t223 x14_4).f1) = ((rd_T45 t219 x15_4).f1)) = false := by simpa using c40))
                                        (try (have c40b2 : (((rd_T45 t223 x14_4).f1) == ((rd_T45 t219 x15_4).f1)) = false := by simpa using c40))
                                        (try (have c40b3 : ¬ (((rd_T45 t223 x14_4).f1) = ((rd_T45 t219 x15_4).f1)) := by simpa using c40))
                                        clear c40
                                        exact hatstandlaw14_HistoryThreads.j4_dead H HT0.out
                                      · rw [if_neg c40] at H
                                        have c40b0 : (((rd_T45 t223 x14_4).f1) != ((rd_T45 t219 x15_4).f1)) = false := by simpa using c40
                                        (try (have c40b1 : decide (((rd_T45 t223 x14_4).f1) = ((rd_T45 t219 x15_4).f1)) = true := by simpa using c40))
                                        (try (have c40b2 : (((rd_T45 t223 x14_4).f1) == ((rd_T45 t219 x15_4).f1)) = true := by simpa using c40))
                                        clear c40
                                        by_cases c42 : ((rd_T45 t223 x14_4).f2) = ((rd_T45 t219 x15_4).f2)
                                        · rw [if_pos c42] at H
                                          have c42b0 : (((rd_T45 t223 x14_4).f2) == ((rd_T45 t219 x15_4).f2)) = true := beq_iff_eq.mpr c42
                                          have c42b1 : (((rd_T45 t223 x14_4).f2) != ((rd_T45 t219 x15_4).f2)) = false := bne_eq_false_iff_eq.mpr c42
                                          clear c42
                                          by_cases c43 : ((rd_T45 t223 x14_4).f3) = ((rd_T45 t219 x15_4).f3)
                                          · rw [if_pos c43] at H
                                            have c43b0 : (((rd_T45 t223 x14_4).f3) == ((rd_T45 t219 x15_4).f3)) = true := beq_iff_eq.mpr c43
                                            have c43b1 : (((rd_T45 t223 x14_4).f3) != ((rd_T45 t219 x15_4).f3)) = false := bne_eq_false_iff_eq.mpr c43
                                            clear c43
                                            by_cases c44 : ((rd_T45 t223 x14_4).f4) = (wrap64 (2 * x14_4))
                                            · rw [if_pos c44] at H
                                              have c44b0 : (((rd_T45 t223 x14_4).f4) == (wrap64 (2 * x14_4))) = true := beq_iff_eq.mpr c44
                                              have c44b1 : (((rd_T45 t223 x14_4).f4) != (wrap64 (2 * x14_4))) = false := bne_eq_false_iff_eq.mpr c44
                                              clear c44
                                              by_cases c45 : ((rd_T45 t223 x14_4).f5) < 0
                                              · rw [if_pos c45] at H
                                                have c45b0 : decide (((rd_T45 t223 x14_4).f5) < 0) = true := decide_eq_true c45
                                                clear c45
                                                by_cases c46 : ((rd_T45 t219 x15_4).f5) < 0
                                                · rw [if_pos c46] at H
                                                  have c46b0 : decide (((rd_T45 t219 x15_4).f5) < 0) = true := decide_eq_true c46
                                                  clear c46
                                                  by_cases c47 : ((rd_T45 t223 x14_4).f5) ≥ 0
                                                  · rw [if_pos c47] at H
                                                    have c47b0 : decide (0 ≤ ((rd_T45 t223 x14_4).f5)) = true := decide_eq_true c47
                                                    clear c47
                                                    have H' := Aside0.mk H
                                                    clear H
                                                    obtain ⟨Ao48, co48, eo48⟩ := Kd.R_slice HO_12.out
                                                    subst eo48
                                                    have p229 : 0 ≤ (x14_4 : Int) := of_decide_eq_true (by first | (with_reducible assumption) | assumption)
                                                    have q229 : x14_4 < (t223.length : Int) := of_decide_eq_true (by first | (with_reducible assumption) | assumption)
                                                    obtain ⟨ad229, e229, hx229_0, hx229_1, hx229_2, hx229_3, hx229_4, hx229_5⟩ := at_T45 (Kd.R_reads' HO_12.out).2.2 x14_4 p229 q229
                                                    cases e229
                                                    replace p229 := eq_true p229
                                                    replace q229 := eq_true q229
                                                    have p230 : 0 ≤ (x15_4 : Int) := of_decide_eq_true (by first | (with_reducible assumption) | assumption)
                                                    have q230 : x15_4 < (t219.length : Int) := of_decide_eq_true (by first | (with_reducible assumption) | assumption)
                                                    obtain ⟨ad230, e230, hx230_0, hx230_1, hx230_2, hx230_3, hx230_4, hx230_5⟩ := at_T45 (Kd.R_reads' HO_10.out).2.2 x15_4 p230 q230
                                                    obtain rfl : ad228 = ad230 := (by injection e230)
                                                    replace p230 := eq_true p230
                                                    replace q230 := eq_true q230
                                                    have p231 : 0 ≤ (x14_4 : Int) := of_decide_eq_true (by first | (with_reducible assumption) | assumption)
                                                    have q231 : x14_4 < (t223.length : Int) := of_decide_eq_true (by first | (with_reducible assumption) | assumption)
                                                    obtain ⟨ad231, e231, hx231_0, hx231_1, hx231_2, hx231_3, hx231_4, hx231_5⟩ := at_T45 (Kd.R_reads' HO_12.out).2.2 x14_4 p231 q231
                                                    obtain rfl : ad229 = ad231 := (by injection e231)
                                                    replace p231 := eq_true p231
                                                    replace q231 := eq_true q231
                                                    have p232 : 0 ≤ (x15_4 : Int) := of_decide_eq_true (by first | (with_reducible assumption) | assumption)
                                                    have q232 : x15_4 < (t219.length : Int) := of_decide_eq_true (by first | (with_reducible assumption) | assumption)
                                                    obtain ⟨ad232, e232, hx232_0, hx232_1, hx232_2, hx232_3, hx232_4, hx232_5⟩ := at_T45 (Kd.R_reads' HO_10.out).2.2 x15_4 p232 q232
                                                    obtain rfl : ad228 = ad232 := (by injection e232)
                                                    replace p232 := eq_true p232
                                                    replace q232 := eq_true q232
                                                    have p233 : 0 ≤ (x14_4 : Int) := of_decide_eq_true (by first | (with_reducible assumption) | assumption)
                                                    have q233 : x14_4 < (t223.length : Int) := of_decide_eq_true (by first | (with_reducible assumption) | assumption)
                                                    obtain ⟨ad233, e233, hx233_0, hx233_1, hx233_2, hx233_3, hx233_4, hx233_5⟩ := at_T45 (Kd.R_reads' HO_12.out).2.2 x14_4 p233 q233
                                                    obtain rfl : ad229 = ad233 := (by injection e233)
                                                    replace p233 := eq_true p233
                                                    replace q233 := eq_true q233
                                                    have p234 : 0 ≤ (x15_4 : Int) := of_decide_eq_true (by first | (with_reducible assumption) | assumption)
                                                    have q234 : x15_4 < (t219.length : Int) := of_decide_eq_true (by first | (with_reducible assumption) | assumption)
                                                    obtain ⟨ad234, e234, hx234_0, hx234_1, hx234_2, hx234_3, hx234_4, hx234_5⟩ := at_T45 (Kd.R_reads' HO_10.out).2.2 x15_4 p234 q234
                                                    obtain rfl : ad228 = ad234 := (by injection e234)
                                                    replace p234 := eq_true p234
                                                    replace q234 := eq_true q234
                                                    have p235 : 0 ≤ (x14_4 : Int) := of_decide_eq_true (by first | (with_reducible assumption) | assumption)
                                                    have q235 : x14_4 < (t223.length : Int) := of_decide_eq_true (by first | (with_reducible assumption) | assumption)
                                                    obtain ⟨ad235, e235, hx235_0, hx235_1, hx235_2, hx235_3, hx235_4, hx235_5⟩ := at_T45 (Kd.R_reads' HO_12.out).2.2 x14_4 p235 q235
                                                    obtain rfl : ad229 = ad235 := (by injection e235)
                                                    replace p235 := eq_true p235
                                                    replace q235 := eq_true q235
                                                    have p236 : 0 ≤ (x14_4 : Int) := of_decide_eq_true (by first | (with_reducible assumption) | assumption)
                                                    have q236 : x14_4 < (t223.length : Int) := of_decide_eq_true (by first | (with_reducible assumption) | assumption)
                                                    obtain ⟨ad236, e236, hx236_0, hx236_1, hx236_2, hx236_3, hx236_4, hx236_5⟩ := at_T45 (Kd.R_reads' HO_12.out).2.2 x14_4 p236 q236
                                                    obtain rfl : ad229 = ad236 := (by injection e236)
                                                    replace p236 := eq_true p236
                                                    replace q236 := eq_true q236
                                                    have p237 : 0 ≤ (x15_4 : Int) := of_decide_eq_true (by first | (with_reducible assumption) | assumption)
                                                    have q237 : x15_4 < (t219.length : Int) := of_decide_eq_true (by first | (with_reducible assumption) | assumption)
                                                    obtain ⟨ad237, e237, hx237_0, hx237_1, hx237_2, hx237_3, hx237_4, hx237_5⟩ := at_T45 (Kd.R_reads' HO_10.out).2.2 x15_4 p237 q237
                                                    obtain rfl : ad228 = ad237 := (by injection e237)
                                                    replace p237 := eq_true p237
                                                    replace q237 := eq_true q237
                                                    have p238 : 0 ≤ (x14_4 : Int) := of_decide_eq_true (by first | (with_reducible assumption) | assumption)
                                                    have q238 : x14_4 < (t223.length : Int) := of_decide_eq_true (by first | (with_reducible assumption) | assumption)
                                                    obtain ⟨ad238, e238, hx238_0, hx238_1, hx238_2, hx238_3, hx238_4, hx238_5⟩ := at_T45 (Kd.R_reads' HO_12.out).2.2 x14_4 p238 q238
                                                    obtain rfl : ad229 = ad238 := (by injection e238)
                                                    replace p238 := eq_true p238
                                                    replace q238 := eq_true q238
                                                    have p239 : 0 ≤ (x14_4 : Int) := of_decide_eq_true (by first | (with_reducible assumption) | assumption)
                                                    have q239 : x14_4 < (t223.length : Int) := of_decide_eq_true (by first | (with_reducible assumption) | assumption)
                                                    obtain ⟨ad239, e239, hx239_0, hx239_1, hx239_2, hx239_3, hx239_4, hx239_5⟩ := at_T45 (Kd.R_reads' HO_12.out).2.2 x14_4 p239 q239
                                                    obtain rfl : ad229 = ad239 := (by injection e239)
                                                    replace p239 := eq_true p239
                                                    replace q239 := eq_true q239
                                                    go_wp2
                                                    (refine wp_region_quiet_lit (by kernel_rfl) HLX.out ?_); (repeat (go_big_quiet_step (fail))); refine wpQuiet_nil ?_; intro _ hw'; obtain ⟨nq, hw''⟩ := hw'; subst hw''; try go_wp2
                                                    go_meet
                                                    case rel => exact ⟨_, ((((rd_T45 t223 x14_4).f5) != (wrap64 ((wrap64 (2 * x14_4)) + 1)))), (by first | rfl | (simp; done) | (simp [*]; done)), H', ⟨by have := HJ3.out; have := HK2.out; have := HJ19.out; have := HK4.out; first | omega | exact Nat.le_refl _⟩, ⟨by (with_reducible repeat (first | apply Kd.R_alloc | apply Kd.R_drewN | apply Kd.R_drew)); exact HO_10.out⟩, ⟨by (with_reducible repeat (first | apply Kd.R_alloc | apply Kd.R_drewN | apply Kd.R_drew)); exact HO_12.out⟩, ⟨by repeat (first | (with_reducible first | exact HB.out | apply below_alloc | apply pw_below_drewN | apply below_drew1) | exact HB.out)⟩⟩
                                                  · rw [if_neg c47] at H
                                                    have c47b0 : decide (0 ≤ ((rd_T45 t223 x14_4).f5)) = false := decide_eq_false c47
                                                    clear c47
                                                    have H' := Aside0.mk H
                                                    clear H
                                                    obtain ⟨Ao49, co49, eo49⟩ := Kd.R_slice HO_12.out
                                                    subst eo49
                                                    have p229 : 0 ≤ (x14_4 : Int) := of_decide_eq_true (by first | (with_reducible assumption) | assumption)
                                                    have q229 : x14_4 < (t223.length : Int) := of_decide_eq_true (by first | (with_reducible assumption) | assumption)
                                                    obtain ⟨ad229, e229, hx229_0, hx229_1, hx229_2, hx229_3, hx229_4, hx229_5⟩ := at_T45 (Kd.R_reads' HO_12.out).2.2 x14_4 p229 q229
                                                    cases e229
                                                    replace p229 := eq_true p229
                                                    replace q229 := eq_true q229
                                                    have p230 : 0 ≤ (x15_4 : Int) := of_decide_eq_true (by first | (with_reducible assumption) | assumption)
                                                    have q230 : x15_4 < (t219.length : Int) := of_decide_eq_true (by first | (with_reducible assumption) | assumption)
                                                    obtain ⟨ad230, e230, hx230_0, hx230_1, hx230_2, hx230_3, hx230_4, hx230_5⟩ := at_T45 (Kd.R_reads' HO_10.out).2.2 x15_4 p230 q230
                                                    obtain rfl : ad228 = ad230 := (by injection e230)
                                                    replace p230 := eq_true p230
                                                    replace q230 := eq_true q230
                                                    have p231 : 0 ≤ (x14_4 : Int) := of_decide_eq_true (by first | (with_reducible assumption) | assumption)
                                                    have q231 : x14_4 < (t223.length : Int) := of_decide_eq_true (by first | (with_reducible assumption) | assumption)
                                                    obtain ⟨ad231, e231, hx231_0, hx231_1, hx231_2, hx231_3, hx231_4, hx231_5⟩ := at_T45 (Kd.R_reads' HO_12.out).2.2 x14_4 p231 q231
                                                    obtain rfl : ad229 = ad231 := (by injection e231)
                                                    replace p231 := eq_true p231
                                                    replace q231 := eq_true q231
                                                    have p232 : 0 ≤ (x15_4 : Int) := of_decide_eq_true (by first | (with_reducible assumption) | assumption)
                                                    have q232 : x15_4 < (t219.length : Int) := of_decide_eq_true (by first | (with_reducible assumption) | assumption)
                                                    obtain ⟨ad232, e232, hx232_0, hx232_1, hx232_2, hx232_3, hx232_4, hx232_5⟩ := at_T45 (Kd.R_reads' HO_10.out).2.2 x15_4 p232 q232
                                                    obtain rfl : ad228 = ad232 := (by injection e232)
                                                    replace p232 := eq_true p232
                                                    replace q232 := eq_true q232
                                                    have p233 : 0 ≤ (x14_4 : Int) := of_decide_eq_true (by first | (with_reducible assumption) | assumption)
                                                    have q233 : x14_4 < (t223.length : Int) := of_decide_eq_true (by first | (with_reducible assumption) | assumption)
                                                    obtain ⟨ad233, e233, hx233_0, hx233_1, hx233_2, hx233_3, hx233_4, hx233_5⟩ := at_T45 (Kd.R_reads' HO_12.out).2.2 x14_4 p233 q233
                                                    obtain rfl : ad229 = ad233 := (by injection e233)
                                                    replace p233 := eq_true p233
                                                    replace q233 := eq_true q233
                                                    have p234 : 0 ≤ (x15_4 : Int) := of_decide_eq_true (by first | (with_reducible assumption) | assumption)
                                                    have q234 : x15_4 < (t219.length : Int) := of_decide_eq_true (by first | (with_reducible assumption) | assumption)
                                                    obtain ⟨ad234, e234, hx234_0, hx234_1, hx234_2, hx234_3, hx234_4, hx234_5⟩ := at_T45 (Kd.R_reads' HO_10.out).2.2 x15_4 p234 q234
                                                    obtain rfl : ad228 = ad234 := (by injection e234)
                                                    replace p234 := eq_true p234
                                                    replace q234 := eq_true q234
                                                    have p235 : 0 ≤ (x14_4 : Int) := of_decide_eq_true (by first | (with_reducible assumption) | assumption)
                                                    have q235 : x14_4 < (t223.length : Int) := of_decide_eq_true (by first | (with_reducible assumption) | assumption)
                                                    obtain ⟨ad235, e235, hx235_0, hx235_1, hx235_2, hx235_3, hx235_4, hx235_5⟩ := at_T45 (Kd.R_reads' HO_12.out).2.2 x14_4 p235 q235
                                                    obtain rfl : ad229 = ad235 := (by injection e235)
                                                    replace p235 := eq_true p235
                                                    replace q235 := eq_true q235
                                                    have p236 : 0 ≤ (x14_4 : Int) := of_decide_eq_true (by first | (with_reducible assumption) | assumption)
                                                    have q236 : x14_4 < (t223.length : Int) := of_decide_eq_true (by first | (with_reducible assumption) | assumption)
                                                    obtain ⟨ad236, e236, hx236_0, hx236_1, hx236_2, hx236_3, hx236_4, hx236_5⟩ := at_T45 (Kd.R_reads' HO_12.out).2.2 x14_4 p236 q236
                                                    obtain rfl : ad229 = ad236 := (by injection e236)
                                                    replace p236 := eq_true p236
                                                    replace q236 := eq_true q236
                                                    have p237 : 0 ≤ (x15_4 : Int) := of_decide_eq_true (by first | (with_reducible assumption) | assumption)
                                                    have q237 : x15_4 < (t219.length : Int) := of_decide_eq_true (by first | (with_reducible assumption) | assumption)
                                                    obtain ⟨ad237, e237, hx237_0, hx237_1, hx237_2, hx237_3, hx237_4, hx237_5⟩ := at_T45 (Kd.R_reads' HO_10.out).2.2 x15_4 p237 q237
                                                    obtain rfl : ad228 = ad237 := (by injection e237)
                                                    replace p237 := eq_true p237
                                                    replace q237 := eq_true q237
                                                    have p238 : 0 ≤ (x14_4 : Int) := of_decide_eq_true (by first | (with_reducible assumption) | assumption)
                                                    have q238 : x14_4 < (t223.length : Int) := of_decide_eq_true (by first | (with_reducible assumption) | assumption)
                                                    obtain ⟨ad238, e238, hx238_0, hx238_1, hx238_2, hx238_3, hx238_4, hx238_5⟩ := at_T45 (Kd.R_reads' HO_12.out).2.2 x14_4 p238 q238
                                                    obtain rfl : ad229 = ad238 := (by injection e238)
                                                    replace p238 := eq_true p238
                                                    replace q238 := eq_true q238
                                                    go_wp2
                                                    (refine wp_region_quiet_lit (by kernel_rfl) HLX.out ?_); (repeat (go_big_quiet_step (fail))); refine wpQuiet_nil ?_; intro _ hw'; obtain ⟨nq, hw''⟩ := hw'; subst hw''; try go_wp2
                                                    go_meet
                                                    case rel => exact ⟨_, (false), (by first | rfl | (simp; done) | (simp [*]; done)), H', ⟨by have := HJ3.out; have := HK2.out; have := HJ19.out; have := HK4.out; first | omega | exact Nat.le_refl _⟩, ⟨by (with_reducible repeat (first | apply Kd.R_alloc | apply Kd.R_drewN | apply Kd.R_drew)); exact HO_10.out⟩, ⟨by (with_reducible repeat (first | apply Kd.R_alloc | apply Kd.R_drewN | apply Kd.R_drew)); exact HO_12.out⟩, ⟨by repeat (first | (with_reducible first | exact HB.out | apply below_alloc | apply pw_below_drewN | apply below_drew1) | exact HB.out)⟩⟩
                                                · rw [if_neg c46] at H
                                                  have c46b0 : decide (((rd_T45 t219 x15_4).f5) < 0) = false := decide_eq_false c46
                                                  clear c46
                                                  exact hatstandlaw14_HistoryThreads.j4_dead H HT0.out
                                              · rw [if_neg c45] at H
                                                have c45b0 : decide (((rd_T45 t223 x14_4).f5) < 0) = false := decide_eq_false c45
                                                clear c45
                                                by_cases c51 : ((rd_T45 t219 x15_4).f5) < 0
                                                · rw [if_pos c51] at H
                                                  have c51b0 : decide (((rd_T45 t219 x15_4).f5) < 0) = true := decide_eq_true c51
                                                  clear c51
                                                  exact hatstandlaw14_HistoryThreads.j4_dead H HT0.out
                                                · rw [if_neg c51] at H
                                                  have c51b0 : decide (((rd_T45 t219 x15_4).f5) < 0) = false := decide_eq_false c51
                                                  clear c51
                                                  by_cases c53 : ((rd_T45 t223 x14_4).f5) ≥ 0
                                                  · rw [if_pos c53] at H
                                                    have c53b0 : decide (0 ≤ ((rd_T45 t223 x14_4).f5)) = true := decide_eq_true c53
                                                    clear c53
                                                    have H' := Aside0.mk H
                                                    clear H
                                                    obtain ⟨Ao54, co54, eo54⟩ := Kd.R_slice HO_12.out
                                                    subst eo54
                                                    have p229 : 0 ≤ (x14_4 : Int) := of_decide_eq_true (by first | (with_reducible assumption) | assumption)
                                                    have q229 : x14_4 < (t223.length : Int) := of_decide_eq_true (by first | (with_reducible assumption) | assumption)
                                                    obtain ⟨ad229, e229, hx229_0, hx229_1, hx229_2, hx229_3, hx229_4, hx229_5⟩ := at_T45 (Kd.R_reads' HO_12.out).2.2 x14_4 p229 q229
                                                    cases e229
                                                    replace p229 := eq_true p229
                                                    replace q229 := eq_true q229
                                                    have p230 : 0 ≤ (x15_4 : Int) := of_decide_eq_true (by first | (with_reducible assumption) | assumption)
                                                    have q230 : x15_4 < (t219.length : Int) := of_decide_eq_true (by first | (with_reducible assumption) | assumption)
                                                    obtain ⟨ad230, e230, hx230_0, hx230_1, hx230_2, hx230_3, hx230_4, hx230_5⟩ := at_T45 (Kd.R_reads' HO_10.out).2.2 x15_4 p230 q230
                                                    obtain rfl : ad228 = ad230 := (by injection e230)
                                                    replace p230 := eq_true p230
                                                    replace q230 := eq_true q230
                                                    have p231 : 0 ≤ (x14_4 : Int) := of_decide_eq_true (by first | (with_reducible assumption) | assumption)
                                                    have q231 : x14_4 < (t223.length : Int) := of_decide_eq_true (by first | (with_reducible assumption) | assumption)
                                                    obtain ⟨ad231, e231, hx231_0, hx231_1, hx231_2, hx231_3, hx231_4, hx231_5⟩ := at_T45 (Kd.R_reads' HO_12.out).2.2 x14_4 p231 q231
                                                    obtain rfl : ad229 = ad231 := (by injection e231)
                                                    replace p231 := eq_true p231
                                                    replace q231 := eq_true q231
                                                    have p232 : 0 ≤ (x15_4 : Int) := of_decide_eq_true (by first | (with_reducible assumption) | assumption)
                                                    have q232 : x15_4 < (t219.length : Int) := of_decide_eq_true (by first | (with_reducible assumption) | assumption)
                                                    obtain ⟨ad232, e232, hx232_0, hx232_1, hx232_2, hx232_3, hx232_4, hx232_5⟩ := at_T45 (Kd.R_reads' HO_10.out).2.2 x15_4 p232 q232
                                                    obtain rfl : ad228 = ad232 := (by injection e232)
                                                    replace p232 := eq_true p232
                                                    replace q232 := eq_true q232
                                                    have p233 : 0 ≤ (x14_4 : Int) := of_decide_eq_true (by first | (with_reducible assumption) | assumption)
                                                    have q233 : x14_4 < (t223.length : Int) := of_decide_eq_true (by first | (with_reducible assumption) | assumption)
                                                    obtain ⟨ad233, e233, hx233_0, hx233_1, hx233_2, hx233_3, hx233_4, hx233_5⟩ := at_T45 (Kd.R_reads' HO_12.out).2.2 x14_4 p233 q233
                                                    obtain rfl : ad229 = ad233 := (by injection e233)
                                                    replace p233 := eq_true p233
                                                    replace q233 := eq_true q233
                                                    have p234 : 0 ≤ (x15_4 : Int) := of_decide_eq_true (by first | (with_reducible assumption) | assumption)
                                                    have q234 : x15_4 < (t219.length : Int) := of_decide_eq_true (by first | (with_reducible assumption) | assumption)
                                                    obtain ⟨ad234, e234, hx234_0, hx234_1, hx234_2, hx234_3, hx234_4, hx234_5⟩ := at_T45 (Kd.R_reads' HO_10.out).2.2 x15_4 p234 q234
                                                    obtain rfl : ad228 = ad234 := (by injection e234)
                                                    replace p234 := eq_true p234
                                                    replace q234 := eq_true q234
                                                    have p235 : 0 ≤ (x14_4 : Int) := of_decide_eq_true (by first | (with_reducible assumption) | assumption)
                                                    have q235 : x14_4 < (t223.length : Int) := of_decide_eq_true (by first | (with_reducible assumption) | assumption)
                                                    obtain ⟨ad235, e235, hx235_0, hx235_1, hx235_2, hx235_3, hx235_4, hx235_5⟩ := at_T45 (Kd.R_reads' HO_12.out).2.2 x14_4 p235 q235
                                                    obtain rfl : ad229 = ad235 := (by injection e235)
                                                    replace p235 := eq_true p235
                                                    replace q235 := eq_true q235
                                                    have p236 : 0 ≤ (x14_4 : Int) := of_decide_eq_true (by first | (with_reducible assumption) | assumption)
                                                    have q236 : x14_4 < (t223.length : Int) := of_decide_eq_true (by first | (with_reducible assumption) | assumption)
                                                    obtain ⟨ad236, e236, hx236_0, hx236_1, hx236_2, hx236_3, hx236_4, hx236_5⟩ := at_T45 (Kd.R_reads' HO_12.out).2.2 x14_4 p236 q236
                                                    obtain rfl : ad229 = ad236 := (by injection e236)
                                                    replace p236 := eq_true p236
                                                    replace q236 := eq_true q236
                                                    have p237 : 0 ≤ (x15_4 : Int) := of_decide_eq_true (by first | (with_reducible assumption) | assumption)
                                                    have q237 : x15_4 < (t219.length : Int) := of_decide_eq_true (by first | (with_reducible assumption) | assumption)
                                                    obtain ⟨ad237, e237, hx237_0, hx237_1, hx237_2, hx237_3, hx237_4, hx237_5⟩ := at_T45 (Kd.R_reads' HO_10.out).2.2 x15_4 p237 q237
                                                    obtain rfl : ad228 = ad237 := (by injection e237)
                                                    replace p237 := eq_true p237
                                                    replace q237 := eq_true q237
                                                    have p240 : 0 ≤ (x14_4 : Int) := of_decide_eq_true (by first | (with_reducible assumption) | assumption)
                                                    have q240 : x14_4 < (t223.length : Int) := of_decide_eq_true (by first | (with_reducible assumption) | assumption)
                                                    obtain ⟨ad240, e240, hx240_0, hx240_1, hx240_2, hx240_3, hx240_4, hx240_5⟩ := at_T45 (Kd.R_reads' HO_12.out).2.2 x14_4 p240 q240
                                                    obtain rfl : ad229 = ad240 := (by injection e240)
                                                    replace p240 := eq_true p240
                                                    replace q240 := eq_true q240
                                                    have p241 : 0 ≤ (x14_4 : Int) := of_decide_eq_true (by first | (with_reducible assumption) | assumption)
                                                    have q241 : x14_4 < (t223.length : Int) := of_decide_eq_true (by first | (with_reducible assumption) | assumption)
                                                    obtain ⟨ad241, e241, hx241_0, hx241_1, hx241_2, hx241_3, hx241_4, hx241_5⟩ := at_T45 (Kd.R_reads' HO_12.out).2.2 x14_4 p241 q241
                                                    obtain rfl : ad229 = ad241 := (by injection e241)
                                                    replace p241 := eq_true p241
                                                    replace q241 := eq_true q241
                                                    go_wp2
                                                    (refine wp_region_quiet_lit (by kernel_rfl) HLX.out ?_); (repeat (go_big_quiet_step (fail))); refine wpQuiet_nil ?_; intro _ hw'; obtain ⟨nq, hw''⟩ := hw'; subst hw''; try go_wp2
                                                    go_meet
                                                    case rel => exact ⟨_, ((((rd_T45 t223 x14_4).f5) != (wrap64 ((wrap64 (2 * x14_4)) + 1)))), (by first | rfl | (simp; done) | (simp [*]; done)), H', ⟨by have := HJ3.out; have := HK2.out; have := HJ19.out; have := HK4.out; first | omega | exact Nat.le_refl _⟩, ⟨by (with_reducible repeat (first | apply Kd.R_alloc | apply Kd.R_drewN | apply Kd.R_drew)); exact HO_10.out⟩, ⟨by (with_reducible repeat (first | apply Kd.R_alloc | apply Kd.R_drewN | apply Kd.R_drew)); exact HO_12.out⟩, ⟨by repeat (first | (with_reducible first | exact HB.out | apply below_alloc | apply pw_below_drewN | apply below_drew1) | exact HB.out)⟩⟩
                                                  · rw [if_neg c53] at H
                                                    have c53b0 : decide (0 ≤ ((rd_T45 t223 x14_4).f5)) = false := decide_eq_false c53
                                                    clear c53
                                                    have H' := Aside0.mk H
                                                    clear H
                                                    obtain ⟨Ao55, co55, eo55⟩ := Kd.R_slice HO_12.out
                                                    subst eo55
                                                    have p229 : 0 ≤ (x14_4 : Int) := of_decide_eq_true (by first | (with_reducible assumption) | assumption)
                                                    have q229 : x14_4 < (t223.length : Int) := of_decide_eq_true (by first | (with_reducible assumption) | assumption)
                                                    obtain ⟨ad229, e229, hx229_0, hx229_1, hx229_2, hx229_3, hx229_4, hx229_5⟩ := at_T45 (Kd.R_reads' HO_12.out).2.2 x14_4 p229 q229
                                                    cases e229
                                                    replace p229 := eq_true p229
                                                    replace q229 := eq_true q229
                                                    have p230 : 0 ≤ (x15_4 : Int) := of_decide_eq_true (by first | (with_reducible assumption) | assumption)
                                                    have q230 : x15_4 < (t219.length : Int) := of_decide_eq_true (by first | (with_reducible assumption) | assumption)
                                                    obtain ⟨ad230, e230, hx230_0, hx230_1, hx230_2, hx230_3, hx230_4, hx230_5⟩ := at_T45 (Kd.R_reads' HO_10.out).2.2 x15_4 p230 q230
                                                    obtain rfl : ad228 = ad230 := (by injection e230)
                                                    replace p230 := eq_true p230
                                                    replace q230 := eq_true q230
                                                    have p231 : 0 ≤ (x14_4 : Int) := of_decide_eq_true (by first | (with_reducible assumption) | assumption)
                                                    have q231 : x14_4 < (t223.length : Int) := of_decide_eq_true (by first | (with_reducible assumption) | assumption)
                                                    obtain ⟨ad231, e231, hx231_0, hx231_1, hx231_2, hx231_3, hx231_4, hx231_5⟩ := at_T45 (Kd.R_reads' HO_12.out).2.2 x14_4 p231 q231
                                                    obtain rfl : ad229 = ad231 := (by injection e231)
                                                    replace p231 := eq_true p231
                                                    replace q231 := eq_true q231
                                                    have p232 : 0 ≤ (x15_4 : Int) := of_decide_eq_true (by first | (with_reducible assumption) | assumption)
                                                    have q232 : x15_4 < (t219.length : Int) := of_decide_eq_true (by first | (with_reducible assumption) | assumption)
                                                    obtain ⟨ad232, e232, hx232_0, hx232_1, hx232_2, hx232_3, hx232_4, hx232_5⟩ := at_T45 (Kd.R_reads' HO_10.out).2.2 x15_4 p232 q232
                                                    obtain rfl : ad228 = ad232 := (by injection e232)
                                                    replace p232 := eq_true p232
                                                    replace q232 := eq_true q232
                                                    have p233 : 0 ≤ (x14_4 : Int) := of_decide_eq_true (by first | (with_reducible assumption) | assumption)
                                                    have q233 : x14_4 < (t223.length : Int) := of_decide_eq_true (by first | (with_reducible assumption) | assumption)
                                                    obtain ⟨ad233, e233, hx233_0, hx233_1, hx233_2, hx233_3, hx233_4, hx233_5⟩ := at_T45 (Kd.R_reads' HO_12.out).2.2 x14_4 p233 q233
                                                    obtain rfl : ad229 = ad233 := (by injection e233)
                                                    replace p233 := eq_true p233
                                                    replace q233 := eq_true q233
                                                    have p234 : 0 ≤ (x15_4 : Int) := of_decide_eq_true (by first | (with_reducible assumption) | assumption)
                                                    have q234 : x15_4 < (t219.length : Int) := of_decide_eq_true (by first | (with_reducible assumption) | assumption)
                                                    obtain ⟨ad234, e234, hx234_0, hx234_1, hx234_2, hx234_3, hx234_4, hx234_5⟩ := at_T45 (Kd.R_reads' HO_10.out).2.2 x15_4 p234 q234
                                                    obtain rfl : ad228 = ad234 := (by injection e234)
                                                    replace p234 := eq_true p234
                                                    replace q234 := eq_true q234
                                                    have p235 : 0 ≤ (x14_4 : Int) := of_decide_eq_true (by first | (with_reducible assumption) | assumption)
                                                    have q235 : x14_4 < (t223.length : Int) := of_decide_eq_true (by first | (with_reducible assumption) | assumption)
                                                    obtain ⟨ad235, e235, hx235_0, hx235_1, hx235_2, hx235_3, hx235_4, hx235_5⟩ := at_T45 (Kd.R_reads' HO_12.out).2.2 x14_4 p235 q235
                                                    obtain rfl : ad229 = ad235 := (by injection e235)
                                                    replace p235 := eq_true p235
                                                    replace q235 := eq_true q235
                                                    have p236 : 0 ≤ (x14_4 : Int) := of_decide_eq_true (by first | (with_reducible assumption) | assumption)
                                                    have q236 : x14_4 < (t223.length : Int) := of_decide_eq_true (by first | (with_reducible assumption) | assumption)
                                                    obtain ⟨ad236, e236, hx236_0, hx236_1, hx236_2, hx236_3, hx236_4, hx236_5⟩ := at_T45 (Kd.R_reads' HO_12.out).2.2 x14_4 p236 q236
                                                    obtain rfl : ad229 = ad236 := (by injection e236)
                                                    replace p236 := eq_true p236
                                                    replace q236 := eq_true q236
                                                    have p237 : 0 ≤ (x15_4 : Int) := of_decide_eq_true (by first | (with_reducible assumption) | assumption)
                                                    have q237 : x15_4 < (t219.length : Int) := of_decide_eq_true (by first | (with_reducible assumption) | assumption)
                                                    obtain ⟨ad237, e237, hx237_0, hx237_1, hx237_2, hx237_3, hx237_4, hx237_5⟩ := at_T45 (Kd.R_reads' HO_10.out).2.2 x15_4 p237 q237
                                                    obtain rfl : ad228 = ad237 := (by injection e237)
                                                    replace p237 := eq_true p237
                                                    replace q237 := eq_true q237
                                                    have p240 : 0 ≤ (x14_4 : Int) := of_decide_eq_true (by first | (with_reducible assumption) | assumption)
                                                    have q240 : x14_4 < (t223.length : Int) := of_decide_eq_true (by first | (with_reducible assumption) | assumption)
                                                    obtain ⟨ad240, e240, hx240_0, hx240_1, hx240_2, hx240_3, hx240_4, hx240_5⟩ := at_T45 (Kd.R_reads' HO_12.out).2.2 x14_4 p240 q240
                                                    obtain rfl : ad229 = ad240 := (by injection e240)
                                                    replace p240 := eq_true p240
                                                    replace q240 := eq_true q240
                                                    go_wp2
                                                    (refine wp_region_quiet_lit (by kernel_rfl) HLX.out ?_); (repeat (go_big_quiet_step (fail))); refine wpQuiet_nil ?_; intro _ hw'; obtain ⟨nq, hw''⟩ := hw'; subst hw''; try go_wp2
                                                    go_meet
                                                    case rel => exact ⟨_, (false), (by first | rfl | (simp; done) | (simp [*]; done)), H', ⟨by have := HJ3.out; have := HK2.out; have := HJ19.out; have := HK4.out; first | omega | exact Nat.le_refl _⟩, ⟨by (with_reducible repeat (first | apply Kd.R_alloc | apply Kd.R_drewN | apply Kd.R_drew)); exact HO_10.out⟩, ⟨by (with_reducible repeat (first | apply Kd.R_alloc | apply Kd.R_drewN | apply Kd.R_drew)); exact HO_12.out⟩, ⟨by repeat (first | (with_reducible first | exact HB.out | apply below_alloc | apply pw_below_drewN | apply below_drew1) | exact HB.out)⟩⟩
                                            · rw [if_neg c44] at H
                                              have c44b0 : (((rd_T45 t223 x14_4).f4) == (wrap64 (2 * x14_4))) = false := beq_eq_false_iff_ne.mpr c44
                                              have c44b1 : (((rd_T45 t223 x14_4).f4) != (wrap64 (2 * x14_4))) = true := bne_iff_ne.mpr c44
                                              exact hatstandlaw14_HistoryThreads.j4_dead H HT0.out
                                          · rw [if_neg c43] at H
                                            have c43b0 : (((rd_T45 t223 x14_4).f3) == ((rd_T45 t219 x15_4).f3)) = false := beq_eq_false_iff_ne.mpr c43
                                            have c43b1 : (((rd_T45 t223 x14_4).f3) != ((rd_T45 t219 x15_4).f3)) = true := bne_iff_ne.mpr c43
                                            exact hatstandlaw14_HistoryThreads.j4_dead H HT0.out
                                        · rw [if_neg c42] at H
                                          have c42b0 : (((rd_T45 t223 x14_4).f2) == ((rd_T45 t219 x15_4).f2)) = false := beq_eq_false_iff_ne.mpr c42
                                          have c42b1 : (((rd_T45 t223 x14_4).f2) != ((rd_T45 t219 x15_4).f2)) = true := bne_iff_ne.mpr c42
                                          exact hatstandlaw14_HistoryThreads.j4_dead H HT0.out
                                    · rw [if_neg c39] at H
                                      exact absurd H (by simp)
                                  · rw [if_neg c38] at H
                                    exact absurd H (by simp)
                              case rest =>
                                clear HC34
                                try clear p2
                                try clear q2
                                try clear hx2
                                try clear c3
                                try clear c4
                                try clear c5
                                try clear p6
                                try clear p22
                                try clear q22
                                try clear hx22
                                try clear p23
                                try clear q23
                                try clear hx23
                                try clear p24
                                try clear q24
                                try clear hx24
                                try clear c38
                                try clear c39
                                try clear c40
                                try clear c42
                                try clear c42b0
                                try clear c42b1
                                try clear c43
                                try clear c43b0
                                try clear c43b1
                                try clear c44
                                try clear c44b0
                                try clear c44b1
                                try clear c45
                                try clear c45b0
                                try clear c46
                                try clear c46b0
                                try clear c47
                                try clear c47b0
                                try clear c51
                                try clear c51b0
                                try clear c53
                                try clear c53b0
                                try clear hx229_0
                                try clear hx229_1
                                try clear hx229_2
                                try clear hx229_3
                                try clear hx229_4
                                try clear hx229_5
                                try clear hx230_0
                                try clear hx230_1
                                try clear hx230_2
                                try clear hx230_3
                                try clear hx230_4
                                try clear hx230_5
                                try clear hx231_0
                                try clear hx231_1
                                try clear hx231_2
                                try clear hx231_3
                                try clear hx231_4
                                try clear hx231_5
                                try clear hx232_0
                                try clear hx232_1
                                try clear hx232_2
                                try clear hx232_3
                                try clear hx232_4
                                try clear hx232_5
                                try clear hx233_0
                                try clear hx233_1
                                try clear hx233_2
                                try clear hx233_3
                                try clear hx233_4
                                try clear hx233_5
                                try clear hx234_0
                                try clear hx234_1
                                try clear hx234_2
                                try clear hx234_3
                                try clear hx234_4
                                try clear hx234_5
                                try clear hx235_0
                                try clear hx235_1
                                try clear hx235_2
                                try clear hx235_3
                                try clear hx235_4
                                try clear hx235_5
                                try clear hx236_0
                                try clear hx236_1
                                try clear hx236_2
                                try clear hx236_3
                                try clear hx236_4
                                try clear hx236_5
                                try clear hx237_0
                                try clear hx237_1
                                try clear hx237_2
                                try clear hx237_3
                                try clear hx237_4
                                try clear hx237_5
                                try clear hx238_0
                                try clear hx238_1
                                try clear hx238_2
                                try clear hx238_3
                                try clear hx238_4
                                try clear hx238_5
                                try clear hx239_0
                                try clear hx239_1
                                try clear hx239_2
                                try clear hx239_3
                                try clear hx239_4
                                try clear hx239_5
                                try clear hx240_0
                                try clear hx240_1
                                try clear hx240_2
                                try clear hx240_3
                                try clear hx240_4
                                try clear hx240_5
                                try clear hx241_0
                                try clear hx241_1
                                try clear hx241_2
                                try clear hx241_3
                                try clear hx241_4
                                try clear hx241_5
                                try clear p229
                                try clear p230
                                try clear p231
                                try clear p232
                                try clear p233
                                try clear p234
                                try clear p235
                                try clear p236
                                try clear p237
                                try clear p238
                                try clear p239
                                try clear p240
                                try clear p241
                                try clear q229
                                try clear q230
                                try clear q231
                                try clear q232
                                try clear q233
                                try clear q234
                                try clear q235
                                try clear q236
                                try clear q237
                                try clear q238
                                try clear q239
                                try clear q240
                                try clear q241
                                obtain ⟨kq, x169_33, rfl, HA, HJ33, HO_10, HO_12, HB⟩ := hcut
                                cases kq with
                                | zero => exact absurd HA.out (by simp [hatstandlaw14_HistoryThreads.j4])
                                | succ kj33 =>
                                  have H := HA.out
                                  clear HA
                                  simp only [hatstandlaw14_HistoryThreads.j4] at H
                                  by_cases c59 : x169_33 = true
                                  · subst c59
                                    have H1 : (some false) = some r := by rw [if_pos rfl] at H; exact H
                                    clear H
                                    have H := H1
                                    clear H1
                                    exact absurd ((Option.some.inj H).trans HT0.out) (by decide)
                                  · replace c59 := Bool.eq_false_iff.mpr c59
                                    subst c59
                                    have H1 : (hatstandlaw14_HistoryThreads.l1 kj33 t213 t219 t223 (wrap64 (x14_4 + 1)) (wrap64 (x15_4 + 1))) = some r := by rw [if_neg (show ¬ (false = true) by decide)] at H; exact H
                                    clear H
                                    have H := H1
                                    clear H1
                                    have H' := Aside0.mk H
                                    clear H
                                    go_wp2
                                    repeat (go_quiet (fail); try go_wp2)
                                    go_roundg kj33
                                    case measure => have := HJ3.out; have := HK2.out; have := HJ19.out; have := HK4.out; have := HJ33.out; omega
                                    case rel => exact ⟨(wrap64 (x14_4 + 1)), (wrap64 (x15_4 + 1)), (by first | rfl | (simp; done) | (simp [*]; done)), (by first | rfl | (simp; done) | (simp [*]; done)), H', ⟨by have := HJ3.out; have := HK2.out; have := HJ19.out; have := HK4.out; have := HJ33.out; omega⟩, ⟨by (with_reducible repeat (first | apply Kd.R_alloc | apply Kd.R_drewN | apply Kd.R_drew)); exact HO_10.out⟩, ⟨by (with_reducible repeat (first | apply Kd.R_alloc | apply Kd.R_drewN | apply Kd.R_drew)); exact HO_12.out⟩, ⟨by repeat (first | (with_reducible first | exact HB.out | apply below_alloc | apply pw_below_drewN | apply below_drew1) | exact HB.out)⟩⟩
                            · rw [if_neg c33] at H
                              have c33b0 : (((rd_T45 t219 x15_4).f0) == t213) = false := beq_eq_false_iff_ne.mpr c33
                              have c33b1 : (((rd_T45 t219 x15_4).f0) != t213) = true := bne_iff_ne.mpr c33
                              have H' := Aside0.mk H
                              clear H
                              obtain ⟨Ao60, co60, eo60⟩ := Kd.R_slice HO_10.out
                              subst eo60
                              have p228 : 0 ≤ (x15_4 : Int) := of_decide_eq_true (by first | (with_reducible assumption) | assumption)
                              have q228 : x15_4 < (t219.length : Int) := of_decide_eq_true (by first | (with_reducible assumption) | assumption)
                              obtain ⟨ad228, e228, hx228_0, hx228_1, hx228_2, hx228_3, hx228_4, hx228_5⟩ := at_T45 (Kd.R_reads' HO_10.out).2.2 x15_4 p228 q228
                              cases e228
                              replace p228 := eq_true p228
                              replace q228 := eq_true q228
                              go_wp2
                              repeat (go_quiet (fail); try go_wp2)
                              go_roundg k4
                              case measure => have := HJ3.out; have := HK2.out; have := HJ19.out; have := HK4.out; omega
                              case rel => exact ⟨(x14_4), (wrap64 (x15_4 + 1)), (by first | rfl | (simp; done) | (simp [*]; done)), (by first | rfl | (simp; done) | (simp [*]; done)), H', ⟨by have := HJ3.out; have := HK2.out; have := HJ19.out; have := HK4.out; omega⟩, ⟨by (with_reducible repeat (first | apply Kd.R_alloc | apply Kd.R_drewN | apply Kd.R_drew)); exact HO_10.out⟩, ⟨by (with_reducible repeat (first | apply Kd.R_alloc | apply Kd.R_drewN | apply Kd.R_drew)); exact HO_12.out⟩, ⟨by repeat (first | (with_reducible first | exact HB.out | apply below_alloc | apply pw_below_drewN | apply below_drew1) | exact HB.out)⟩⟩
                          · rw [if_neg c32] at H
                            exact absurd H (by simp)
                        · rw [if_neg c31] at H
                          have c31b0 : decide (x15_4 < (t219.length : Int)) = false := decide_eq_false c31
                          clear c31
                          obtain rfl := Option.some.inj H
                          obtain ⟨Ao61, co61, eo61⟩ := Kd.R_slice HO_10.out
                          subst eo61
                          obtain ⟨Ao62, co62, eo62⟩ := Kd.R_slice HO_12.out
                          subst eo62
                          go_wp2
                          repeat (go_quiet (fail); try go_wp2)
                          go_ret
                          exact ⟨by first | rfl | (simp [errW_none, errW_some] <;> rfl) | (simp [*, errW_none, errW_some] <;> rfl), by repeat (first | (with_reducible first | exact HB.out | apply below_alloc | apply pw_below_drewN | apply below_drew1) | exact HB.out)⟩

/-- THE ONE PURE STATEMENT of hatstandlaw14_HistoryThreads. -/
def hatstandlaw14_HistoryThreads.Pure : Prop := ∀ (l0 : List (S61)) (a1 : Int), l0.length ≤ maxLen → l0.length * 32 ≤ 140737488351232 → (∀ x ∈ l0, (Lit.int .i64 x.f0).wf = true ∧ (Lit.int .i64 x.f1).wf = true ∧ (Lit.int .u64 x.f3).wf = true) → (Lit.int .i64 a1).wf = true → ∃ k, hatstandlaw14_HistoryThreads.f k l0 a1 = some true
theorem hatstandlaw14_HistoryThreads.walk (P : hatstandlaw14_HistoryThreads.Pure) (A0 : Option Addr) (c0 : Nat) (l0 : List (S61)) (a1 : Int) (w : World) (hr0 : Kd.C k61 w A0 l0.length l0) (hc0 : l0.length ≤ c0) (hm0 : l0.length ≤ maxLen) (y0 : l0.length * 32 ≤ 140737488351232) (hw0 : (∀ x ∈ l0, (Lit.int .i64 x.f0).wf = true ∧ (Lit.int .i64 x.f1).wf = true ∧ (Lit.int .u64 x.f3).wf = true)) (hw1 : (Lit.int .i64 a1).wf = true) :
    Calls Try.prog 8 #[.slice A0 l0.length c0, .int .i64 a1] w fun e w' => e = .returned (.bool true) ∧ Below w.heap.size w w' := by
  obtain ⟨k, h⟩ := P l0 a1 hm0 y0 hw0 hw1
  refine (hatstandlaw14_HistoryThreads.calls k A0 c0 l0 a1 true w hr0 hc0 h rfl).mono ?_
  rintro e w' ⟨rfl, hd⟩
  exact ⟨rfl, hd⟩

end Go.Proofs.Ytmdjmfbinjnlcaa.P
