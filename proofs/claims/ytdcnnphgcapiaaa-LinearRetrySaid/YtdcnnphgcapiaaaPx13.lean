/- Walks, written by a program for this claim: each Go function that the laws reach comes to what its Lean function says. -/
import Derived.Test.YtdcnnphgcapiaaaPx0
import Derived.Test.YtdcnnphgcapiaaaPx2
import Derived.Test.YtdcnnphgcapiaaaPx8
import Derived.Test.YtdcnnphgcapiaaaPx9
namespace Go.Proofs.Ytdcnnphgcapiaaa.P
open Go.RowKit Go.Proofs.YtdcnnphgcapiaaaW.PrintWords Go.Proofs.YtdcnnphgcapiaaaW.PrintLast Go.Proofs.YtdcnnphgcapiaaaW.PrintMore
attribute [local go_sem] max2_int min2_int max_two min_two max_three min_three max_four min_four   -- for this text's walks alone
set_option linter.unusedVariables false
set_option linter.unusedSimpArgs false

/-! ### hatstandlaw15_LinearRetry: function 8 -/
mutual
def hatstandlaw15_LinearRetry.j0 : Nat → List (S51) → Int → Int → Int → Bool → Bool → Option (Bool)
  | 0, _, _, _, _, _, _ => none
  | k + 1, x0, x1, x2, x3, x9, x25 => if x25 = true then (some x9) else ((hatstandlaw15_pick.f x1 4).bind fun t311 => ((hatstandlaw15_made.f k x0 t311).bind fun t312 => (if (t312.length : Int) > 0 then (hatstandlaw15_LinearRetry.j1 k x2 x3 t311 t312 ((Int.tmod x2 3) == 0)) else (hatstandlaw15_LinearRetry.j1 k x2 x3 t311 t312 false))))
def hatstandlaw15_LinearRetry.j1 : Nat → Int → Int → Int → List (S30) → Bool → Option (Bool)
  | 0, _, _, _, _, _ => none
  | k + 1, x2, x3, x10, x11, x39 => if x39 = true then (if 0 ≤ (wrap64 ((x11.length : Int) - 1)) then (if (wrap64 ((x11.length : Int) - 1)) < (x11.length : Int) then (hatstandlaw15_LinearRetry.j2 k x2 x3 x10 (x11.set ((wrap64 ((x11.length : Int) - 1)) : Int).toNat (⟨(rd_T30 x11 (wrap64 ((x11.length : Int) - 1))).f0, (rd_T30 x11 (wrap64 ((x11.length : Int) - 1))).f1, IntKind.u64.wrap (((rd_T30 x11 (wrap64 ((x11.length : Int) - 1))).f2) + 1), (rd_T30 x11 (wrap64 ((x11.length : Int) - 1))).f3, (rd_T30 x11 (wrap64 ((x11.length : Int) - 1))).f4, (rd_T30 x11 (wrap64 ((x11.length : Int) - 1))).f5⟩ : S30))) else (none)) else (none)) else (hatstandlaw15_LinearRetry.j2 k x2 x3 x10 x11)
def hatstandlaw15_LinearRetry.j2 : Nat → Int → Int → Int → List (S30) → Option (Bool)
  | 0, _, _, _, _ => none
  | k + 1, x2, x3, x10, x11 => (hatstandlaw15_pick.f x2 1500).bind fun t317 => ((some (([] : List (S30)) : List (S30))).bind fun y318 => (if y318.length + x11.length < 2932031007402 then ((some (y318 ++ x11 : List (S30))).bind fun y321 => ((hatstandlaw15_pick.f x3 500).bind fun t324 => (if y321.length < 2932031007402 then ((linear_Find.f x11 x10).bind fun bt328 => ((linear_Find.f (y321 ++ [(⟨7, ((Int.tmod x3 2) == 0), 5, 6, t317, wrap64 ((wrap64 (t317 + 1)) + t324)⟩ : S30)]) x10).bind fun bt332 => (some (bt328.2 == bt332.2)))) else (none)))) else (none)))
end
def hatstandlaw15_LinearRetry.f (k : Nat) (l0 : List (S51)) (a1 : Int) (a2 : Int) (a3 : Int) : Option (Bool) := (hatstandlaw15_shown.f k).bind fun t310 => (if t310 = true then (hatstandlaw15_LinearRetry.j0 k l0 a1 a2 a3 t310 (decide ((l0.length : Int) > 5))) else (hatstandlaw15_LinearRetry.j0 k l0 a1 a2 a3 t310 true))
theorem hatstandlaw15_LinearRetry.mono_l : ∀ k, (∀ y0 y1 y2 y3 y4 y5, LeO (hatstandlaw15_LinearRetry.j0 k y0 y1 y2 y3 y4 y5) (hatstandlaw15_LinearRetry.j0 (k + 1) y0 y1 y2 y3 y4 y5)) ∧ (∀ y0 y1 y2 y3 y4, LeO (hatstandlaw15_LinearRetry.j1 k y0 y1 y2 y3 y4) (hatstandlaw15_LinearRetry.j1 (k + 1) y0 y1 y2 y3 y4)) ∧ (∀ y0 y1 y2 y3, LeO (hatstandlaw15_LinearRetry.j2 k y0 y1 y2 y3) (hatstandlaw15_LinearRetry.j2 (k + 1) y0 y1 y2 y3))
  | 0 => ⟨fun _ _ _ _ _ _ r h => by simp [hatstandlaw15_LinearRetry.j0] at h, fun _ _ _ _ _ r h => by simp [hatstandlaw15_LinearRetry.j1] at h, fun _ _ _ _ r h => by simp [hatstandlaw15_LinearRetry.j2] at h⟩
  | k + 1 => by
    obtain ⟨ih0, ih1, ih2⟩ := hatstandlaw15_LinearRetry.mono_l k
    refine ⟨?_, ?_, ?_⟩
    · intro y0 y1 y2 y3 y4 y5
      unfold hatstandlaw15_LinearRetry.j0
      repeat' first
      | (with_reducible exact ih0 _ _ _ _ _ _)
      | (with_reducible exact ih1 _ _ _ _ _)
      | (with_reducible exact ih2 _ _ _ _)
      | (with_reducible exact hatstandlaw15_made.mono _ _ _)
      | (with_reducible exact hatstandlaw15_shown.mono _)
      | (with_reducible exact LeO.refl _)
      | (with_reducible exact LeO.none _)
      | (with_reducible refine LeO.ite ?_ ?_)
      | (with_reducible refine LeO.bind ?_ (fun _ => ?_))
      | exact ih0 _ _ _ _ _ _
      | exact ih1 _ _ _ _ _
      | exact ih2 _ _ _ _
      | exact hatstandlaw15_made.mono _ _ _
      | exact hatstandlaw15_shown.mono _
      | exact LeO.none _
      | refine LeO.ite ?_ ?_
      | refine LeO.bind ?_ (fun _ => ?_)
    · intro y0 y1 y2 y3 y4
      unfold hatstandlaw15_LinearRetry.j1
      repeat' first
      | (with_reducible exact ih0 _ _ _ _ _ _)
      | (with_reducible exact ih1 _ _ _ _ _)
      | (with_reducible exact ih2 _ _ _ _)
      | (with_reducible exact hatstandlaw15_made.mono _ _ _)
      | (with_reducible exact hatstandlaw15_shown.mono _)
      | (with_reducible exact LeO.refl _)
      | (with_reducible exact LeO.none _)
      | (with_reducible refine LeO.ite ?_ ?_)
      | (with_reducible refine LeO.bind ?_ (fun _ => ?_))
      | exact ih0 _ _ _ _ _ _
      | exact ih1 _ _ _ _ _
      | exact ih2 _ _ _ _
      | exact hatstandlaw15_made.mono _ _ _
      | exact hatstandlaw15_shown.mono _
      | exact LeO.none _
      | refine LeO.ite ?_ ?_
      | refine LeO.bind ?_ (fun _ => ?_)
    · intro y0 y1 y2 y3
      unfold hatstandlaw15_LinearRetry.j2
      repeat' first
      | (with_reducible exact ih0 _ _ _ _ _ _)
      | (with_reducible exact ih1 _ _ _ _ _)
      | (with_reducible exact ih2 _ _ _ _)
      | (with_reducible exact hatstandlaw15_made.mono _ _ _)
      | (with_reducible exact hatstandlaw15_shown.mono _)
      | (with_reducible exact LeO.refl _)
      | (with_reducible exact LeO.none _)
      | (with_reducible refine LeO.ite ?_ ?_)
      | (with_reducible refine LeO.bind ?_ (fun _ => ?_))
      | exact ih0 _ _ _ _ _ _
      | exact ih1 _ _ _ _ _
      | exact ih2 _ _ _ _
      | exact hatstandlaw15_made.mono _ _ _
      | exact hatstandlaw15_shown.mono _
      | exact LeO.none _
      | refine LeO.ite ?_ ?_
      | refine LeO.bind ?_ (fun _ => ?_)
theorem hatstandlaw15_LinearRetry.mono : ∀ a0 a1 a2 a3 k, LeO (hatstandlaw15_LinearRetry.f k a0 a1 a2 a3) (hatstandlaw15_LinearRetry.f (k + 1) a0 a1 a2 a3) := by
  intro a0 a1 a2 a3 k
  obtain ⟨ih0, ih1, ih2⟩ := hatstandlaw15_LinearRetry.mono_l k
  unfold hatstandlaw15_LinearRetry.f
  repeat' first
      | (with_reducible exact ih0 _ _ _ _ _ _)
      | (with_reducible exact ih1 _ _ _ _ _)
      | (with_reducible exact ih2 _ _ _ _)
      | (with_reducible exact hatstandlaw15_made.mono _ _ _)
      | (with_reducible exact hatstandlaw15_shown.mono _)
      | (with_reducible exact LeO.refl _)
      | (with_reducible exact LeO.none _)
      | (with_reducible refine LeO.ite ?_ ?_)
      | (with_reducible refine LeO.bind ?_ (fun _ => ?_))
      | exact ih0 _ _ _ _ _ _
      | exact ih1 _ _ _ _ _
      | exact ih2 _ _ _ _
      | exact hatstandlaw15_made.mono _ _ _
      | exact hatstandlaw15_shown.mono _
      | exact LeO.none _
      | refine LeO.ite ?_ ?_
      | refine LeO.bind ?_ (fun _ => ?_)
set_option maxHeartbeats 8000000 in
set_option maxRecDepth 100000 in
theorem hatstandlaw15_LinearRetry.calls (k : Nat) (A0 : Option Addr) (c0 : Nat) (l0 : List (S51)) (a1 : Int) (a2 : Int) (a3 : Int) (r : Bool) (w : World) (hr0 : Kd.C k51 w A0 l0.length l0) (hc0 : l0.length ≤ c0) (h : hatstandlaw15_LinearRetry.f k l0 a1 a2 a3 = some r) (ht_ : r = true) :
    Calls Try.prog 8 #[.slice A0 l0.length c0, .int .i64 a1, .int .i64 a2, .int .i64 a3] w fun e w' => e = .returned (.bool r) ∧ Below w.heap.size w w' := by
  have hu30 := Try.underlying30
  have HR0 := Aside0.mk hr0
  have HC0 := Aside0.mk hc0
  clear hr0 hc0
  have HB := Aside0.mk (Below.refl w.heap.size w)
  have HT0 := Aside0.mk ht_
  clear ht_
  have H : ((hatstandlaw15_shown.f k).bind fun t310 => (if t310 = true then (hatstandlaw15_LinearRetry.j0 k l0 a1 a2 a3 t310 (decide ((l0.length : Int) > 5))) else (hatstandlaw15_LinearRetry.j0 k l0 a1 a2 a3 t310 true))) = some r := h
  clear h
  replace H := Option.bind_eq_some_iff.mp H
  obtain ⟨t310, A50, H⟩ := H
  replace H : (if t310 = true then (hatstandlaw15_LinearRetry.j0 k l0 a1 a2 a3 t310 (decide ((l0.length : Int) > 5))) else (hatstandlaw15_LinearRetry.j0 k l0 a1 a2 a3 t310 true)) = some r := H
  have A5 := Aside0.mk A50
  clear A50
  have HC6 := Aside0.mk H
  clear H
  go_enter Try.func8, Try.ntmps8
  go_upto_region 2 with (first | ((with_reducible refine gate_callee (f := 9) rfl ?_); refine goesL_ (some 18) rfl rfl Try.func9 (by kernel_rfl) rfl #[] rfl (by (try simp only [List.map_toArray, List.map_cons, List.map_nil]); first | done | rfl | (simp only [List.length_drop, List.length_take]; rfl)) ?_; (with_reducible refine (hatstandlaw15_shown.calls k  t310 _ A5.out).mono ?_); rintro e w7 ⟨rfl, hb⟩; refine ⟨_, rfl, ?_⟩; have n0_ := Aside0.mk (below_step (by repeat (first | (with_reducible first | exact HB.out | apply below_alloc | apply pw_below_drewN | apply below_drew1) | exact HB.out)) hb); clear HB; have HB := n0_; clear n0_; (try clear hb); (try clear hb2); (try clear hk); (try clear hi)))
  (try simp only [Act.put, List.setIfInBounds_toArray, List.set_cons_zero, List.set_cons_succ])
  go_cut [25] (fun v25 wc => ∃ (kq : Nat) (x25_5 : Bool), v25 = .bool x25_5 ∧ Aside0 (hatstandlaw15_LinearRetry.j0 kq l0 a1 a2 a3 t310 x25_5 = some r) ∧ Aside0 (kq ≤ k) ∧ Aside0 (Below w.heap.size w wc))
  case first =>
    have H := HC6.out
    clear HC6
    by_cases c8 : t310 = true
    · subst c8
      have H1 : (hatstandlaw15_LinearRetry.j0 k l0 a1 a2 a3 true (decide ((l0.length : Int) > 5))) = some r := by rw [if_pos rfl] at H; exact H
      clear H
      have H := H1
      clear H1
      have H' := Aside0.mk H
      clear H
      go_wp2
      go_meet
      case rel => exact ⟨_, (decide ((l0.length : Int) > 5)), (by first | rfl | (simp; done) | (simp [*]; done)), H', ⟨by first | omega | exact Nat.le_refl _⟩, ⟨by repeat (first | (with_reducible first | exact HB.out | apply below_alloc | apply pw_below_drewN | apply below_drew1) | exact HB.out)⟩⟩
    · replace c8 := Bool.eq_false_iff.mpr c8
      subst c8
      have H1 : (hatstandlaw15_LinearRetry.j0 k l0 a1 a2 a3 false true) = some r := by rw [if_neg (show ¬ (false = true) by decide)] at H; exact H
      clear H
      have H := H1
      clear H1
      have H' := Aside0.mk H
      clear H
      go_wp2
      go_meet
      case rel => exact ⟨_, (true), (by first | rfl | (simp; done) | (simp [*]; done)), H', ⟨by first | omega | exact Nat.le_refl _⟩, ⟨by repeat (first | (with_reducible first | exact HB.out | apply below_alloc | apply pw_below_drewN | apply below_drew1) | exact HB.out)⟩⟩
  case rest =>
    clear HC6
    try clear p2
    try clear c8
    obtain ⟨kq, x25_5, rfl, HA, HJ5, HB⟩ := hcut
    cases kq with
    | zero => exact absurd HA.out (by simp [hatstandlaw15_LinearRetry.j0])
    | succ kj5 =>
      have H := HA.out
      clear HA
      simp only [hatstandlaw15_LinearRetry.j0] at H
      by_cases c9 : x25_5 = true
      · subst c9
        have H1 : (some t310) = some r := by rw [if_pos rfl] at H; exact H
        clear H
        have H := H1
        clear H1
        obtain rfl := Option.some.inj H
        go_wp2
        go_ret
        exact ⟨by first | rfl | (simp [errW_none, errW_some] <;> rfl) | (simp [*, errW_none, errW_some] <;> rfl), by repeat (first | (with_reducible first | exact HB.out | apply below_alloc | apply pw_below_drewN | apply below_drew1) | exact HB.out)⟩
      · replace c9 := Bool.eq_false_iff.mpr c9
        subst c9
        have H1 : ((hatstandlaw15_pick.f a1 4).bind fun t311 => ((hatstandlaw15_made.f kj5 l0 t311).bind fun t312 => (if (t312.length : Int) > 0 then (hatstandlaw15_LinearRetry.j1 kj5 a2 a3 t311 t312 ((Int.tmod a2 3) == 0)) else (hatstandlaw15_LinearRetry.j1 kj5 a2 a3 t311 t312 false)))) = some r := by rw [if_neg (show ¬ (false = true) by decide)] at H; exact H
        clear H
        have H := H1
        clear H1
        replace H := Option.bind_eq_some_iff.mp H
        obtain ⟨t311, A100, H⟩ := H
        replace H : ((hatstandlaw15_made.f kj5 l0 t311).bind fun t312 => (if (t312.length : Int) > 0 then (hatstandlaw15_LinearRetry.j1 kj5 a2 a3 t311 t312 ((Int.tmod a2 3) == 0)) else (hatstandlaw15_LinearRetry.j1 kj5 a2 a3 t311 t312 false))) = some r := H
        have A10 := Aside0.mk A100
        clear A100
        replace H := Option.bind_eq_some_iff.mp H
        obtain ⟨t312, A110, H⟩ := H
        replace H : (if (t312.length : Int) > 0 then (hatstandlaw15_LinearRetry.j1 kj5 a2 a3 t311 t312 ((Int.tmod a2 3) == 0)) else (hatstandlaw15_LinearRetry.j1 kj5 a2 a3 t311 t312 false)) = some r := H
        have A11 := Aside0.mk A110
        clear A110
        have HC12 := Aside0.mk H
        clear H
        go_upto_region 6 with (first | ((with_reducible refine gate_callee (f := 10) rfl ?_); refine goesL_ (some 28) rfl rfl Try.func10 (by kernel_rfl) rfl #[.int .i64 a1, .int .i64 4] rfl (by (try simp only [List.map_toArray, List.map_cons, List.map_nil]); first | done | rfl | (simp only [List.length_drop, List.length_take]; rfl)) ?_; (with_reducible refine (hatstandlaw15_pick.calls a1 4 t311 _ A10.out).mono ?_); rintro e w' ⟨rfl, ⟨nd, rfl⟩⟩; refine ⟨_, rfl, ?_⟩) | ((with_reducible refine gate_callee (f := 11) rfl ?_); refine goesL_ (some 31) rfl rfl Try.func11 (by kernel_rfl) rfl #[.slice A0 l0.length c0, .int .i64 t311] rfl (by (try simp only [List.map_toArray, List.map_cons, List.map_nil]); first | done | rfl | (simp only [List.length_drop, List.length_take]; rfl)) ?_; (with_reducible refine (hatstandlaw15_made.calls kj5 _ _ l0 t311 t312 _ ?side1 ?side2 A11.out).mono ?_); (case side1 => repeat (first | exact (Kd.C_below HR0.out (by repeat (first | (with_reducible first | exact HB.out | apply below_alloc | apply pw_below_drewN | apply below_drew1) | exact HB.out))) | (with_reducible refine Kd.C_alloc ?_ _) | (with_reducible refine Kd.C_drewN ?_ _) | (with_reducible refine Kd.C_drew ?_))); (case side2 => exact HC0.out); rintro e w13 ⟨v313, rfl, ho0, hb⟩; refine ⟨_, rfl, ?_⟩; have n0_ := Aside0.mk (Kd.R_lower ho0 (below_size (by repeat (first | (with_reducible first | exact HB.out | apply below_alloc | apply pw_below_drewN | apply below_drew1) | exact HB.out)))); have n1_ := Aside0.mk (below_step (by repeat (first | (with_reducible first | exact HB.out | apply below_alloc | apply pw_below_drewN | apply below_drew1) | exact HB.out)) hb); clear HB; have HO314 := n0_; have HB := n1_; clear n0_ n1_; (try clear hb); (try clear hb2); (try clear hk); (try clear hi); (try clear ho0)))
        (try simp only [Act.put, List.setIfInBounds_toArray, List.set_cons_zero, List.set_cons_succ])
        go_cut [39] (fun v39 wc => ∃ (kq : Nat) (x39_11 : Bool), v39 = .bool x39_11 ∧ Aside0 (hatstandlaw15_LinearRetry.j1 kq a2 a3 t311 t312 x39_11 = some r) ∧ Aside0 (kq ≤ kj5) ∧ Aside0 (Kd.R k30 30 wc w.heap.size (fun _ => True) v313 t312) ∧ Aside0 (Below w.heap.size w wc))
        case first =>
          have H := HC12.out
          clear HC12
          by_cases c14 : (t312.length : Int) > 0
          · rw [if_pos c14] at H
            have c14b0 : decide (0 < (t312.length : Int)) = true := decide_eq_true c14
            have c14b1 : decide (0 < t312.length) = true := decide_eq_true (by omega)
            clear c14
            (first | rw [c14b0] | (simp only [i64_w, i32_w, Go.IntKind.wrap_u32]; rw [c14b0]) | skip)
            have H' := Aside0.mk H
            clear H
            obtain ⟨Ao15, co15, eo15⟩ := Kd.R_slice HO314.out
            subst eo15
            go_wp2
            go_meet
            case rel => exact ⟨_, (((Int.tmod a2 3) == 0)), (by first | rfl | (simp; done) | (simp [*]; done)), H', ⟨by have := HJ5.out; first | omega | exact Nat.le_refl _⟩, ⟨by (with_reducible repeat (first | apply Kd.R_alloc | apply Kd.R_drewN | apply Kd.R_drew)); exact HO314.out⟩, ⟨by repeat (first | (with_reducible first | exact HB.out | apply below_alloc | apply pw_below_drewN | apply below_drew1) | exact HB.out)⟩⟩
          · rw [if_neg c14] at H
            have c14b0 : decide (0 < (t312.length : Int)) = false := decide_eq_false c14
            have c14b1 : decide (0 < t312.length) = false := decide_eq_false (by omega)
            clear c14
            (first | rw [c14b0] | (simp only [i64_w, i32_w, Go.IntKind.wrap_u32]; rw [c14b0]) | skip)
            have H' := Aside0.mk H
            clear H
            obtain ⟨Ao16, co16, eo16⟩ := Kd.R_slice HO314.out
            subst eo16
            go_wp2
            go_meet
            case rel => exact ⟨_, (false), (by first | rfl | (simp; done) | (simp [*]; done)), H', ⟨by have := HJ5.out; first | omega | exact Nat.le_refl _⟩, ⟨by (with_reducible repeat (first | apply Kd.R_alloc | apply Kd.R_drewN | apply Kd.R_drew)); exact HO314.out⟩, ⟨by repeat (first | (with_reducible first | exact HB.out | apply below_alloc | apply pw_below_drewN | apply below_drew1) | exact HB.out)⟩⟩
        case rest =>
          clear HC12
          try clear c1
          try clear p2
          try clear c8
          try clear c9
          try clear c10
          try clear c11
          try clear c14
          try clear c14b0
          try clear c14b1
          try clear p2
          obtain ⟨kq, x39_11, rfl, HA, HJ11, HO_11, HB⟩ := hcut
          cases kq with
          | zero => exact absurd HA.out (by simp [hatstandlaw15_LinearRetry.j1])
          | succ kj11 =>
            have H := HA.out
            clear HA
            simp only [hatstandlaw15_LinearRetry.j1] at H
            have HC17 := Aside0.mk H
            clear H
            go_upto_if 39 with (fail)
            go_cut [] (fun wc => ∃ (kq : Nat) (x11_16 : List (S30)), Aside0 (hatstandlaw15_LinearRetry.j2 kq a2 a3 t311 x11_16 = some r) ∧ Aside0 (kq ≤ kj11) ∧ Aside0 (Kd.R k30 30 wc w.heap.size (fun _ => True) v313 x11_16) ∧ Aside0 (Below w.heap.size w wc))
            case first =>
              have H := HC17.out
              clear HC17
              by_cases c18 : x39_11 = true
              · subst c18
                have H1 : (if 0 ≤ (wrap64 ((t312.length : Int) - 1)) then (if (wrap64 ((t312.length : Int) - 1)) < (t312.length : Int) then (hatstandlaw15_LinearRetry.j2 kj11 a2 a3 t311 (t312.set ((wrap64 ((t312.length : Int) - 1)) : Int).toNat (⟨(rd_T30 t312 (wrap64 ((t312.length : Int) - 1))).f0, (rd_T30 t312 (wrap64 ((t312.length : Int) - 1))).f1, IntKind.u64.wrap (((rd_T30 t312 (wrap64 ((t312.length : Int) - 1))).f2) + 1), (rd_T30 t312 (wrap64 ((t312.length : Int) - 1))).f3, (rd_T30 t312 (wrap64 ((t312.length : Int) - 1))).f4, (rd_T30 t312 (wrap64 ((t312.length : Int) - 1))).f5⟩ : S30))) else (none)) else (none)) = some r := by rw [if_pos rfl] at H; exact H
                clear H
                have H := H1
                clear H1
                obtain ⟨ji19, hji19⟩ : ∃ j_ : Int, (wrap64 ((t312.length : Int) - 1)) = j_ := ⟨_, rfl⟩
                replace H : (if 0 ≤ (ji19) then (if (ji19) < (t312.length : Int) then (hatstandlaw15_LinearRetry.j2 kj11 a2 a3 t311 (t312.set ((ji19) : Int).toNat (⟨(rd_T30 t312 (ji19)).f0, (rd_T30 t312 (ji19)).f1, IntKind.u64.wrap (((rd_T30 t312 (ji19)).f2) + 1), (rd_T30 t312 (ji19)).f3, (rd_T30 t312 (ji19)).f4, (rd_T30 t312 (ji19)).f5⟩ : S30))) else (none)) else (none)) = some r := by first | (rw [hji19] at H; exact H) | (simp only [hji19] at H ⊢; exact H)
                have hji19w : (IntKind.i64.wrap ((t312.length : Int) - 1)) = ji19 := (i64_w _).trans hji19
                by_cases c20 : 0 ≤ (ji19)
                · rw [if_pos c20] at H
                  have c20b0 : decide (0 ≤ (ji19)) = true := decide_eq_true c20
                  clear c20
                  (first | rw [c20b0] | (simp only [i64_w, i32_w, Go.IntKind.wrap_u32]; rw [c20b0]) | skip)
                  by_cases c21 : (ji19) < (t312.length : Int)
                  · rw [if_pos c21] at H
                    have c21b0 : decide ((ji19) < (t312.length : Int)) = true := decide_eq_true c21
                    clear c21
                    obtain ⟨y316, hy316⟩ : ∃ y_ : List (S30), y_ = (t312.set ((ji19) : Int).toNat (⟨(rd_T30 t312 (ji19)).f0, (rd_T30 t312 (ji19)).f1, IntKind.u64.wrap (((rd_T30 t312 (ji19)).f2) + 1), (rd_T30 t312 (ji19)).f3, (rd_T30 t312 (ji19)).f4, (rd_T30 t312 (ji19)).f5⟩ : S30)) := ⟨_, rfl⟩
                    replace H : (hatstandlaw15_LinearRetry.j2 kj11 a2 a3 t311 y316) = some r := by first | (rw [hy316]; with_reducible exact H) | (have H2_ := (Option.bind_some _ _).symm.trans H; rw [hy316]; with_reducible exact H2_) | (have H2_ := (Option.bind_some _ _).symm.trans H; with_reducible exact H2_) | with_reducible exact H | (rw [hy316]; exact H) | exact H
                    have Ny316 := Aside0.mk hy316
                    clear hy316
                    have H' := Aside0.mk H
                    clear H
                    obtain ⟨Ao23, co23, eo23⟩ := Kd.R_slice HO_11.out
                    subst eo23
                    have p315 : 0 ≤ ((ji19) : Int) := of_decide_eq_true (by first | (with_reducible assumption) | assumption)
                    have q315 : (ji19) < (t312.length : Int) := of_decide_eq_true (by first | (with_reducible assumption) | assumption)
                    obtain ⟨ad315, e315, hx315_0, hx315_1, hx315_2, hx315_3, hx315_4, hx315_5⟩ := at_T30 (Kd.R_reads' HO_11.out).2.2 (ji19) p315 q315
                    cases e315
                    replace p315 := eq_true p315
                    replace q315 := eq_true q315
                    have p22 : 0 ≤ ((ji19) : Int) := of_decide_eq_true (by first | (with_reducible assumption) | assumption)
                    have q22 : ((ji19) : Int) < ((t312.length : Int) : Int) := of_decide_eq_true (by first | (with_reducible assumption) | assumption)
                    obtain ⟨go22, co22, eo22, gb22, gl22, cl22, HG22⟩ := Kd.R_form HO_11.out (by omega)
                    (first | cases eo22 | (injection eo22 with ea_ en_ ec_; (first | subst ea_ | (injection ea_ with ea_; subst ea_)); subst ec_; clear en_))
                    have GB22 := Aside0.mk gb22
                    have GG22 := Aside0.mk HG22
                    clear gb22 gl22 HG22
                    (first | simp only [add_plain] at hx315_0 | skip)
                    (first | simp only [add_plain] at hx315_1 | skip)
                    (first | simp only [add_plain] at hx315_2 | skip)
                    (first | simp only [add_plain] at hx315_3 | skip)
                    (first | simp only [add_plain] at hx315_4 | skip)
                    (first | simp only [add_plain] at hx315_5 | skip)
                    obtain ⟨ce22, hcl22, hM22, hcc22, hfr22⟩ := Kd.R_elem HO_11.out z30 ((ji19) : Int) p22 q22
                    obtain rfl := k30_openM hM22
                    have hx22_0 : wc.cell? ⟨go22, ((ji19) : Int).toNat * 6, none⟩ = some (.int .i64 ((rd_T30 t312 (ji19)).f0)) := hcc22 0 _ rfl
                    have hx22_1 : wc.cell? ⟨go22, ((ji19) : Int).toNat * 6 + 1, none⟩ = some (.bool ((rd_T30 t312 (ji19)).f1)) := hcc22 1 _ rfl
                    have hx22_2 : wc.cell? ⟨go22, ((ji19) : Int).toNat * 6 + 2, none⟩ = some (.int .u64 ((rd_T30 t312 (ji19)).f2)) := hcc22 2 _ rfl
                    have hx22_3 : wc.cell? ⟨go22, ((ji19) : Int).toNat * 6 + 3, none⟩ = some (.int .i64 ((rd_T30 t312 (ji19)).f3)) := hcc22 3 _ rfl
                    have hx22_4 : wc.cell? ⟨go22, ((ji19) : Int).toNat * 6 + 4, none⟩ = some (.int .i64 ((rd_T30 t312 (ji19)).f4)) := hcc22 4 _ rfl
                    have hx22_5 : wc.cell? ⟨go22, ((ji19) : Int).toNat * 6 + 5, none⟩ = some (.int .i64 ((rd_T30 t312 (ji19)).f5)) := hcc22 5 _ rfl
                    have hf22_0 : wc.frozen? ⟨go22, ((ji19) : Int).toNat * 6, none⟩ = false := hfr22 0
                    have hf22_1 : wc.frozen? ⟨go22, ((ji19) : Int).toNat * 6 + 1, none⟩ = false := hfr22 1
                    have hf22_2 : wc.frozen? ⟨go22, ((ji19) : Int).toNat * 6 + 2, none⟩ = false := hfr22 2
                    have hf22_3 : wc.frozen? ⟨go22, ((ji19) : Int).toNat * 6 + 3, none⟩ = false := hfr22 3
                    have hf22_4 : wc.frozen? ⟨go22, ((ji19) : Int).toNat * 6 + 4, none⟩ = false := hfr22 4
                    have hf22_5 : wc.frozen? ⟨go22, ((ji19) : Int).toNat * 6 + 5, none⟩ = false := hfr22 5
                    clear hcl22 hcc22 hfr22 hM22
                    replace p22 := eq_true p22
                    replace q22 := eq_true q22
                    have HX24 := Aside0.mk (show Kd.R k30 30 wc w.heap.size (fun _ => True) (.slice (some ⟨go22, 0, none⟩) t312.length co23) t312 from (by (with_reducible repeat (first | apply Kd.R_alloc | apply Kd.R_drewN | apply Kd.R_drew)); exact HO_11.out))
                    obtain ⟨ce24, hcl24, hM24, hcc24, hfr24⟩ := Kd.R_elem HX24.out z30 ((ji19) : Int) (of_decide_eq_true (by first | (with_reducible assumption) | assumption)) (by have h_ : ((ji19) : Int) < ((t312.length : Int) : Int) := of_decide_eq_true (by first | (with_reducible assumption) | assumption); first | exact h_ | (have e_ := (Kd.R_reads' HO_11.out).1; omega) | simpa using h_)
                    obtain rfl := k30_openM hM24
                    have HP24 := Kd.R_seg HX24.out ((ji19) : Int) (of_decide_eq_true (by first | (with_reducible assumption) | assumption)) (by have h_ : ((ji19) : Int) < ((t312.length : Int) : Int) := of_decide_eq_true (by first | (with_reducible assumption) | assumption); first | exact h_ | (have e_ := (Kd.R_reads' HO_11.out).1; omega) | simpa using h_) (seg := [.int .u64 (IntKind.u64.wrap (((rd_T30 t312 (ji19)).f2) + 1))]) (j := 2) hcl24 hcc24 (show 3 ≤ 6 from by decide) (x' := (⟨(rd_T30 t312 (ji19)).f0, (rd_T30 t312 (ji19)).f1, IntKind.u64.wrap (((rd_T30 t312 (ji19)).f2) + 1), (rd_T30 t312 (ji19)).f3, (rd_T30 t312 (ji19)).f4, (rd_T30 t312 (ji19)).f5⟩ : S30)) (k30_mkM _ _ _ (⟨(rd_T30 t312 (ji19)).f0, (rd_T30 t312 (ji19)).f1, IntKind.u64.wrap (((rd_T30 t312 (ji19)).f2) + 1), (rd_T30 t312 (ji19)).f3, (rd_T30 t312 (ji19)).f4, (rd_T30 t312 (ji19)).f5⟩ : S30) ) (fun _ hk => hk)
                    have hx24_2 := hcc24 2 _ rfl
                    (try simp only [show (k30).sz = 6 from rfl, Nat.mul_one, Nat.add_zero] at hx24_2)
                    have hf24_2 := hfr24 2
                    (try simp only [show (k30).sz = 6 from rfl, Nat.mul_one, Nat.add_zero] at hf24_2)
                    clear hcl24 hcc24 hfr24 hM24
                    go_wp2_with (first | ((with_reducible refine gate_store (t := 27) (p := 49) rfl ?_); refine store_event (t := 27) (p := 49) (v := ?vo_w25) (w1 := (wc.setCell ⟨go22, ((ji19) : Int).toNat * 6 + 2, none⟩ (.int .u64 (IntKind.u64.wrap (((rd_T30 t312 (ji19)).f2) + 1))))) ?hg ?ho ?hn ?hr ?_; (case ho => rfl); (case hg => rfl); (case hn => rfl); (case hr => first | (go_simp; done) | (go_simp; rfl)); intro w25 hw; have hg : wc.grownBy w25 (some go22) := (by rw [hw]; exact HP24.2); have hp_ : Kd.R k30 30 w25 w.heap.size (fun _ => True) (.slice (some ⟨go22, 0, none⟩) t312.length co23) y316 := (by rw [hw, Ny316.out]; exact HP24.1); clear HP24; have n0_ := Aside0.mk (hp_); have n1_ := Aside0.mk ((by rw [hw]; exact below_set (HB.out) GB22.out : Below w.heap.size w w25)); clear HO_11; clear HB; have HO_11 := n0_; have HB := n1_; clear n0_ n1_; clear hg hw hp_))
                    go_meet
                    case rel => exact ⟨_, (y316), H', ⟨by have := HJ5.out; have := HJ11.out; first | omega | exact Nat.le_refl _⟩, ⟨by (with_reducible repeat (first | apply Kd.R_alloc | apply Kd.R_drewN | apply Kd.R_drew)); exact HO_11.out⟩, ⟨by repeat (first | (with_reducible first | exact HB.out | apply below_alloc | apply pw_below_drewN | apply below_drew1) | exact HB.out)⟩⟩
                  · rw [if_neg c21] at H
                    exact absurd H (by simp)
                · rw [if_neg c20] at H
                  exact absurd H (by simp)
              · replace c18 := Bool.eq_false_iff.mpr c18
                subst c18
                have H1 : (hatstandlaw15_LinearRetry.j2 kj11 a2 a3 t311 t312) = some r := by rw [if_neg (show ¬ (false = true) by decide)] at H; exact H
                clear H
                have H := H1
                clear H1
                have H' := Aside0.mk H
                clear H
                go_wp2
                go_meet
                case rel => exact ⟨_, (t312), H', ⟨by have := HJ5.out; have := HJ11.out; first | omega | exact Nat.le_refl _⟩, ⟨by (with_reducible repeat (first | apply Kd.R_alloc | apply Kd.R_drewN | apply Kd.R_drew)); exact HO_11.out⟩, ⟨by repeat (first | (with_reducible first | exact HB.out | apply below_alloc | apply pw_below_drewN | apply below_drew1) | exact HB.out)⟩⟩
            case rest =>
              clear HC17
              try clear c1
              try clear c2
              try clear p2
              try clear q2
              try clear hx2
              try clear p3
              try clear q3
              try clear hx3
              try clear p6
              try clear c8
              try clear c9
              try clear c10
              try clear c11
              try clear c14
              try clear c14b0
              try clear c14b1
              try clear c18
              try clear c20
              try clear c20b0
              try clear c21
              try clear c21b0
              try clear c22
              try clear p22
              try clear q22
              try clear hx22
              try clear hf22
              try clear c24
              try clear hx24
              try clear hf24
              try clear hx22_0
              try clear hx22_1
              try clear hx22_2
              try clear hx22_3
              try clear hx22_4
              try clear hx22_5
              try clear hx24_2
              try clear hx315_0
              try clear hx315_1
              try clear hx315_2
              try clear hx315_3
              try clear hx315_4
              try clear hx315_5
              try clear p2
              try clear p22
              try clear p315
              try clear q22
              try clear q315
              obtain ⟨kq, x11_16, HA, HJ16, HO_11, HB⟩ := hcut
              cases kq with
              | zero => exact absurd HA.out (by simp [hatstandlaw15_LinearRetry.j2])
              | succ kj16 =>
                have H := HA.out
                clear HA
                simp only [hatstandlaw15_LinearRetry.j2] at H
                replace H := Option.bind_eq_some_iff.mp H
                obtain ⟨t317, A260, H⟩ := H
                replace H : ((some (([] : List (S30)) : List (S30))).bind fun y318 => (if y318.length + x11_16.length < 2932031007402 then ((some (y318 ++ x11_16 : List (S30))).bind fun y321 => ((hatstandlaw15_pick.f a3 500).bind fun t324 => (if y321.length < 2932031007402 then ((linear_Find.f x11_16 t311).bind fun bt328 => ((linear_Find.f (y321 ++ [(⟨7, ((Int.tmod a3 2) == 0), 5, 6, t317, wrap64 ((wrap64 (t317 + 1)) + t324)⟩ : S30)]) t311).bind fun bt332 => (some (bt328.2 == bt332.2)))) else (none)))) else (none))) = some r := H
                have A26 := Aside0.mk A260
                clear A260
                obtain ⟨y318, hy318⟩ : ∃ y_ : List (S30), y_ = (([] : List (S30))) := ⟨_, rfl⟩
                replace H : (if y318.length + x11_16.length < 2932031007402 then ((some (y318 ++ x11_16 : List (S30))).bind fun y321 => ((hatstandlaw15_pick.f a3 500).bind fun t324 => (if y321.length < 2932031007402 then ((linear_Find.f x11_16 t311).bind fun bt328 => ((linear_Find.f (y321 ++ [(⟨7, ((Int.tmod a3 2) == 0), 5, 6, t317, wrap64 ((wrap64 (t317 + 1)) + t324)⟩ : S30)]) t311).bind fun bt332 => (some (bt328.2 == bt332.2)))) else (none)))) else (none)) = some r := by first | (rw [hy318]; with_reducible exact H) | (have H2_ := (Option.bind_some _ _).symm.trans H; rw [hy318]; with_reducible exact H2_) | (have H2_ := (Option.bind_some _ _).symm.trans H; with_reducible exact H2_) | with_reducible exact H | (rw [hy318]; exact H) | exact H
                have Ny318 := Aside0.mk hy318
                clear hy318
                by_cases c27 : y318.length + x11_16.length < 2932031007402
                · rw [if_pos c27] at H
                  have LMc27 := Aside0.mk c27
                  clear c27
                  obtain ⟨y321, hy321⟩ : ∃ y_ : List (S30), y_ = (y318 ++ x11_16) := ⟨_, rfl⟩
                  replace H : ((hatstandlaw15_pick.f a3 500).bind fun t324 => (if y321.length < 2932031007402 then ((linear_Find.f x11_16 t311).bind fun bt328 => ((linear_Find.f (y321 ++ [(⟨7, ((Int.tmod a3 2) == 0), 5, 6, t317, wrap64 ((wrap64 (t317 + 1)) + t324)⟩ : S30)]) t311).bind fun bt332 => (some (bt328.2 == bt332.2)))) else (none))) = some r := by first | (rw [hy321]; with_reducible exact H) | (have H2_ := (Option.bind_some _ _).symm.trans H; rw [hy321]; with_reducible exact H2_) | (have H2_ := (Option.bind_some _ _).symm.trans H; with_reducible exact H2_) | with_reducible exact H | (rw [hy321]; exact H) | exact H
                  have Ny321 := Aside0.mk hy321
                  clear hy321
                  replace H := Option.bind_eq_some_iff.mp H
                  obtain ⟨t324, A280, H⟩ := H
                  replace H : (if y321.length < 2932031007402 then ((linear_Find.f x11_16 t311).bind fun bt328 => ((linear_Find.f (y321 ++ [(⟨7, ((Int.tmod a3 2) == 0), 5, 6, t317, wrap64 ((wrap64 (t317 + 1)) + t324)⟩ : S30)]) t311).bind fun bt332 => (some (bt328.2 == bt332.2)))) else (none)) = some r := H
                  have A28 := Aside0.mk A280
                  clear A280
                  by_cases c29 : y321.length < 2932031007402
                  · rw [if_pos c29] at H
                    have LMc29 := Aside0.mk c29
                    clear c29
                    obtain ⟨y325, hy325⟩ : ∃ y_ : List (S30), y_ = (y321 ++ [(⟨7, ((Int.tmod a3 2) == 0), 5, 6, t317, wrap64 ((wrap64 (t317 + 1)) + t324)⟩ : S30)]) := ⟨_, rfl⟩
                    replace H : ((linear_Find.f x11_16 t311).bind fun bt328 => ((linear_Find.f y325 t311).bind fun bt332 => (some (bt328.2 == bt332.2)))) = some r := by first | (rw [hy325]; with_reducible exact H) | (have H2_ := (Option.bind_some _ _).symm.trans H; rw [hy325]; with_reducible exact H2_) | (have H2_ := (Option.bind_some _ _).symm.trans H; with_reducible exact H2_) | with_reducible exact H | (rw [hy325]; exact H) | exact H
                    have Ny325 := Aside0.mk hy325
                    clear hy325
                    replace H := Option.bind_eq_some_iff.mp H
                    obtain ⟨⟨t328, t329⟩, A300, H⟩ := H
                    replace H : ((linear_Find.f y325 t311).bind fun bt332 => (some (t329 == bt332.2))) = some r := H
                    have A30 := Aside0.mk A300
                    clear A300
                    replace H := Option.bind_eq_some_iff.mp H
                    obtain ⟨⟨t332, t333⟩, A310, H⟩ := H
                    replace H : (some (t329 == t333)) = some r := H
                    have A31 := Aside0.mk A310
                    clear A310
                    obtain rfl := Option.some.inj H
                    go_wp2_with (first | ((with_reducible refine gate_callee (f := 10) rfl ?_); refine goesL_ (some 51) rfl rfl Try.func10 (by kernel_rfl) rfl #[.int .i64 a2, .int .i64 1500] rfl (by (try simp only [List.map_toArray, List.map_cons, List.map_nil]); first | done | rfl | (simp only [List.length_drop, List.length_take]; rfl)) ?_; (with_reducible refine (hatstandlaw15_pick.calls a2 1500 t317 _ A26.out).mono ?_); rintro e w' ⟨rfl, ⟨nd, rfl⟩⟩; refine ⟨_, rfl, ?_⟩) | ((with_reducible refine gate_dst (N := 52) rfl ?_); (try (refine gate_guard (by rfl) ?_; dsimp only)); refine Kd.R_lit k30 _ 30 ?hg (N := 52) ?hd (xs := ([] : List (S30))) (inner := []) (ok := fun _ => True) (okp := fun _ => True) ?hr ?hp (fun _ hk => hk) trivial (Below.refl _ _) (Nat.le_refl _) (by simp) ?_; (case hd => rfl); (case hg => rfl); (case hr => first | (go_simp; done) | (go_simp; rfl)); (case hp => exact (Reps.none _ _)); intro v319 w32 ho33 hb hg_ hnew_; clear hg_ hnew_; (first | rw [← Ny318.out] at ho33 | (simp only [Int.reduceToNat] at ho33; rw [← Ny318.out] at ho33)); have n0_ := Aside0.mk (Kd.R_elder' (by (with_reducible repeat (first | apply Kd.R_alloc | apply Kd.R_drewN | apply Kd.R_drew)); exact HO_11.out) (Kd.R_base ho33) hb); have n1_ := Aside0.mk (Kd.R_lower (Kd.R_new' ho33 (Kd.R_lt (by (with_reducible repeat (first | apply Kd.R_alloc | apply Kd.R_drewN | apply Kd.R_drew)); exact HO_11.out))) (below_size (by repeat (first | (with_reducible first | exact HB.out | apply below_alloc | apply pw_below_drewN | apply below_drew1) | exact HB.out)))); have n2_ := Aside0.mk (below_step (by repeat (first | (with_reducible first | exact HB.out | apply below_alloc | apply pw_below_drewN | apply below_drew1) | exact HB.out)) hb); clear HO_11; clear HB; have HO_11 := n0_; have HO320 := n1_; have HB := n2_; clear n0_ n1_ n2_; clear hb ho33; obtain ⟨Ao35, co35, eo35⟩ := Kd.R_slice HO_11.out; subst eo35) | ((with_reducible refine gate_builtin (b := .append) (xs := #[.tmp 52, .tmp 53]) rfl ?_); (try (refine gate_guard (by rfl) ?_; dsimp only)); at_builtin; refine Kd.R_append_rows k30 (w0 := w) w.heap.size rfl (.tmp 52) (.tmp 53) 25 30 (.agg #[(.int .i64 0), (.bool false), (.int .u64 0), (.int .i64 0), (.int .i64 0), (.int .i64 0)]) 48 rfl Try.underlying25 info30 rfl (by decide) (by omega) v319 y318 x11_16 _ _ _ (fun k_ => some k_ ≠ (.slice Ao35 x11_16.length co35 : Value).ownBlock) (fun _ => False) rfl rfl ?aO ?aR (fun _ _ h => h) (fun _ h => h.elim) ?aF ?aB ?aS ?aL ?_; (case aR => repeat (first | exact (Kd.R_reads' HO_11.out).2.2 | (with_reducible refine Kd.C_alloc ?_ _) | (with_reducible refine Kd.C_drewN ?_ _) | (with_reducible refine Kd.C_drew ?_))); (case aB => exact (by repeat (first | (with_reducible first | exact HB.out | apply below_alloc | apply pw_below_drewN | apply below_drew1) | exact HB.out))); (case aF => exact (fun k_ hk => Kd.fresh' (Kd.R_lt (by (with_reducible repeat (first | apply Kd.R_alloc | apply Kd.R_drewN | apply Kd.R_drew)); exact HO_11.out)) k_ hk)); (case aO => exact (by (with_reducible repeat (first | apply Kd.R_alloc | apply Kd.R_drewN | apply Kd.R_drew)); exact Kd.R_mono HO320.out (fun _ hk => hk.2))); (case aS => exact (below_size (by repeat (first | (with_reducible first | exact HB.out | apply below_alloc | apply pw_below_drewN | apply below_drew1) | exact HB.out)))); (case aL => have := LMc27.out; omega); intro v322 w34 ho hb hg hat; rw [← Ny321.out] at ho; have n0_ := Aside0.mk (Kd.R_after (ok := (fun _ => True)) (by (with_reducible repeat (first | apply Kd.R_alloc | apply Kd.R_drewN | apply Kd.R_drew)); exact HO_11.out) hg hat); have n1_ := Aside0.mk (hb); have n2_ := Aside0.mk (ho); clear HO_11; clear HB; clear HO320; have HO_11 := n0_; have HB := n1_; have HO323 := n2_; clear n0_ n1_ n2_; clear ho hb hg hat) | ((with_reducible refine gate_callee (f := 10) rfl ?_); refine goesL_ (some 62) rfl rfl Try.func10 (by kernel_rfl) rfl #[.int .i64 a3, .int .i64 500] rfl (by (try simp only [List.map_toArray, List.map_cons, List.map_nil]); first | done | rfl | (simp only [List.length_drop, List.length_take]; rfl)) ?_; (with_reducible refine (hatstandlaw15_pick.calls a3 500 t324 _ A28.out).mono ?_); rintro e w' ⟨rfl, ⟨nd, rfl⟩⟩; refine ⟨_, rfl, ?_⟩) | ((with_reducible refine gate_builtin (b := .append) (xs := #[.tmp 54, .tmp 65]) rfl ?_); (try (refine gate_guard (by rfl) ?_; dsimp only)); at_builtin; refine Kd.R_append k30 (w0 := w) w.heap.size rfl (.tmp 54) (.tmp 65) 25 30 (.agg #[(.int .i64 0), (.bool false), (.int .u64 0), (.int .i64 0), (.int .i64 0), (.int .i64 0)]) 48 rfl Try.underlying25 info30 rfl (by decide) (by omega) v322 y321 (⟨7, ((Int.tmod a3 2) == 0), 5, 6, t317, wrap64 ((wrap64 (t317 + 1)) + t324)⟩ : S30) [.int .i64 7, .bool ((Int.tmod a3 2) == 0), .int .u64 5, .int .i64 6, .int .i64 t317, .int .i64 (wrap64 ((wrap64 (t317 + 1)) + t324))] (fun k_ => some k_ ≠ (.slice Ao35 x11_16.length co35 : Value).ownBlock) (fun _ => False) rfl rfl ?aP (fun _ hk => hk.elim) ?aF ?aO ?aB ?aS ?aL ?_; (case aP => exact k30_mkM _ _ _ (⟨7, ((Int.tmod a3 2) == 0), 5, 6, t317, wrap64 ((wrap64 (t317 + 1)) + t324)⟩ : S30)); (case aB => exact (by repeat (first | (with_reducible first | exact HB.out | apply below_alloc | apply pw_below_drewN | apply below_drew1) | exact HB.out))); (case aF => exact (fun k_ hk => Kd.fresh' (Kd.R_lt (by (with_reducible repeat (first | apply Kd.R_alloc | apply Kd.R_drewN | apply Kd.R_drew)); exact HO_11.out)) k_ hk)); (case aO => exact (by (with_reducible repeat (first | apply Kd.R_alloc | apply Kd.R_drewN | apply Kd.R_drew)); exact HO323.out)); (case aS => exact (below_size (by repeat (first | (with_reducible first | exact HB.out | apply below_alloc | apply pw_below_drewN | apply below_drew1) | exact HB.out)))); (case aL => have := LMc29.out; omega); intro v326 w36 ho hb hg hat; rw [← Ny325.out] at ho; have n0_ := Aside0.mk (Kd.R_after (ok := (fun _ => True)) (by (with_reducible repeat (first | apply Kd.R_alloc | apply Kd.R_drewN | apply Kd.R_drew)); exact HO_11.out) hg hat); have n1_ := Aside0.mk (hb); have n2_ := Aside0.mk (ho); clear HO_11; clear HB; clear HO323; have HO_11 := n0_; have HB := n1_; have HO327 := n2_; clear n0_ n1_ n2_; clear ho hb hg hat) | ((with_reducible refine gate_callee (f := 12) rfl ?_); refine goesL_ (some 70) rfl rfl Try.func12 (by kernel_rfl) rfl #[.slice Ao35 x11_16.length co35, .int .i64 t311] rfl (by (try simp only [List.map_toArray, List.map_cons, List.map_nil]); first | done | rfl | (simp only [List.length_drop, List.length_take]; rfl)) ?_; (with_reducible refine (linear_Find.calls _ _ x11_16 t311 t328 t329 _ ?side1 ?side2 A30.out).mono ?_); (case side1 => repeat (first | exact (Kd.R_reads' HO_11.out).2.2 | (with_reducible refine Kd.C_alloc ?_ _) | (with_reducible refine Kd.C_drewN ?_ _) | (with_reducible refine Kd.C_drew ?_))); (case side2 => exact (Kd.R_reads' HO_11.out).2.1); rintro e w37 ⟨v330, rfl, ho0, hb⟩; refine ⟨_, rfl, ?_⟩; have n0_ := Aside0.mk (Kd.R_below (by (with_reducible repeat (first | apply Kd.R_alloc | apply Kd.R_drewN | apply Kd.R_drew)); exact HO_11.out) hb); have n1_ := Aside0.mk (Kd.R_below (by (with_reducible repeat (first | apply Kd.R_alloc | apply Kd.R_drewN | apply Kd.R_drew)); exact HO327.out) hb); have n2_ := Aside0.mk (Kd.R_lower ho0 (below_size (by repeat (first | (with_reducible first | exact HB.out | apply below_alloc | apply pw_below_drewN | apply below_drew1) | exact HB.out)))); have n3_ := Aside0.mk (below_step (by repeat (first | (with_reducible first | exact HB.out | apply below_alloc | apply pw_below_drewN | apply below_drew1) | exact HB.out)) hb); clear HO_11; clear HO327; clear HB; have HO_11 := n0_; have HO327 := n1_; have HO331 := n2_; have HB := n3_; clear n0_ n1_ n2_ n3_; (try clear hb); (try clear hb2); (try clear hk); (try clear hi); (try clear ho0); obtain ⟨Ao38, co38, eo38⟩ := Kd.R_slice HO327.out; subst eo38) | ((with_reducible refine gate_callee (f := 12) rfl ?_); refine goesL_ (some 76) rfl rfl Try.func12 (by kernel_rfl) rfl #[.slice Ao38 y325.length co38, .int .i64 t311] rfl (by (try simp only [List.map_toArray, List.map_cons, List.map_nil]); first | done | rfl | (simp only [List.length_drop, List.length_take]; rfl)) ?_; (with_reducible refine (linear_Find.calls _ _ y325 t311 t332 t333 _ ?side1 ?side2 A31.out).mono ?_); (case side1 => repeat (first | exact (Kd.R_reads' HO327.out).2.2 | (with_reducible refine Kd.C_alloc ?_ _) | (with_reducible refine Kd.C_drewN ?_ _) | (with_reducible refine Kd.C_drew ?_))); (case side2 => exact (Kd.R_reads' HO327.out).2.1); rintro e w39 ⟨v334, rfl, ho0, hb⟩; refine ⟨_, rfl, ?_⟩; have n0_ := Aside0.mk (Kd.R_below (by (with_reducible repeat (first | apply Kd.R_alloc | apply Kd.R_drewN | apply Kd.R_drew)); exact HO_11.out) hb); have n1_ := Aside0.mk (Kd.R_below (by (with_reducible repeat (first | apply Kd.R_alloc | apply Kd.R_drewN | apply Kd.R_drew)); exact HO327.out) hb); have n2_ := Aside0.mk (Kd.R_elder' (by (with_reducible repeat (first | apply Kd.R_alloc | apply Kd.R_drewN | apply Kd.R_drew)); exact HO331.out) (Kd.R_base ho0) hb); have n3_ := Aside0.mk (Kd.R_lower (Kd.R_new' ho0 (Kd.R_lt (by (with_reducible repeat (first | apply Kd.R_alloc | apply Kd.R_drewN | apply Kd.R_drew)); exact HO331.out))) (below_size (by repeat (first | (with_reducible first | exact HB.out | apply below_alloc | apply pw_below_drewN | apply below_drew1) | exact HB.out)))); have n4_ := Aside0.mk (below_step (by repeat (first | (with_reducible first | exact HB.out | apply below_alloc | apply pw_below_drewN | apply below_drew1) | exact HB.out)) hb); clear HO_11; clear HO327; clear HO331; clear HB; have HO_11 := n0_; have HO327 := n1_; have HO331 := n2_; have HO335 := n3_; have HB := n4_; clear n0_ n1_ n2_ n3_ n4_; (try clear hb); (try clear hb2); (try clear hk); (try clear hi); (try clear ho0)))
                    go_ret
                    exact ⟨by first | rfl | (simp [errW_none, errW_some] <;> rfl) | (simp [*, errW_none, errW_some] <;> rfl), by repeat (first | (with_reducible first | exact HB.out | apply below_alloc | apply pw_below_drewN | apply below_drew1) | exact HB.out)⟩
                  · rw [if_neg c29] at H
                    exact absurd H (by simp)
                · rw [if_neg c27] at H
                  exact absurd H (by simp)

/-- THE ONE PURE STATEMENT of hatstandlaw15_LinearRetry. -/
def hatstandlaw15_LinearRetry.Pure : Prop := ∀ (l0 : List (S51)) (a1 : Int) (a2 : Int) (a3 : Int), l0.length ≤ maxLen → l0.length * 24 ≤ 140737488351232 → (∀ x ∈ l0, (Lit.int .u64 x.f2).wf = true ∧ (Lit.int .i64 x.f3).wf = true) → (Lit.int .i64 a1).wf = true → (Lit.int .i64 a2).wf = true → (Lit.int .i64 a3).wf = true → ∃ k, hatstandlaw15_LinearRetry.f k l0 a1 a2 a3 = some true
theorem hatstandlaw15_LinearRetry.walk (P : hatstandlaw15_LinearRetry.Pure) (A0 : Option Addr) (c0 : Nat) (l0 : List (S51)) (a1 : Int) (a2 : Int) (a3 : Int) (w : World) (hr0 : Kd.C k51 w A0 l0.length l0) (hc0 : l0.length ≤ c0) (hm0 : l0.length ≤ maxLen) (y0 : l0.length * 24 ≤ 140737488351232) (hw0 : (∀ x ∈ l0, (Lit.int .u64 x.f2).wf = true ∧ (Lit.int .i64 x.f3).wf = true)) (hw1 : (Lit.int .i64 a1).wf = true) (hw2 : (Lit.int .i64 a2).wf = true) (hw3 : (Lit.int .i64 a3).wf = true) :
    Calls Try.prog 8 #[.slice A0 l0.length c0, .int .i64 a1, .int .i64 a2, .int .i64 a3] w fun e w' => e = .returned (.bool true) ∧ Below w.heap.size w w' := by
  obtain ⟨k, h⟩ := P l0 a1 a2 a3 hm0 y0 hw0 hw1 hw2 hw3
  refine (hatstandlaw15_LinearRetry.calls k A0 c0 l0 a1 a2 a3 true w hr0 hc0 h rfl).mono ?_
  rintro e w' ⟨rfl, hd⟩
  exact ⟨rfl, hd⟩

end Go.Proofs.Ytdcnnphgcapiaaa.P
