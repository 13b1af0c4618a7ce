/- Walks, written by a program for this claim: each Go function that the laws reach comes to what its Lean function says. -/
import Derived.Test.YtdcnnphgcapiaaaPx0
import Derived.Test.YtdcnnphgcapiaaaPx2
import Derived.Test.YtdcnnphgcapiaaaPx7
import Derived.Test.YtdcnnphgcapiaaaPx8
import Derived.Test.YtdcnnphgcapiaaaPx19
import Derived.Test.YtdcnnphgcapiaaaPx21
import Derived.Test.YtdcnnphgcapiaaaPx22
namespace Go.Proofs.Ytdcnnphgcapiaaa.P
open Go.RowKit Go.Proofs.YtdcnnphgcapiaaaW.PrintWords Go.Proofs.YtdcnnphgcapiaaaW.PrintLast Go.Proofs.YtdcnnphgcapiaaaW.PrintMore
attribute [local go_sem] max2_int min2_int max_two min_two max_three min_three max_four min_four   -- for this text's walks alone
set_option linter.unusedVariables false
set_option linter.unusedSimpArgs false

/-! ### hatstandlaw15_LinearTells: function 5 -/
def hatstandlaw15_LinearTells.j0 : Nat → List (S30) → Int → List Int → Bool → Bool → Option (Bool)
  | 0, _, _, _, _, _ => none
  | k + 1, x0, x1, x2, x7, x24 => if x24 = true then (some x7) else ((linear_Find.f x0 x1).bind fun bt460 => ((hatstandlaw15_as.f k x0).bind fun t464 => ((hatstandref15_Find.f k t464 x1).bind fun bt467 => ((linear_Fits.f k x0 x1 x2).bind fun t471 => ((hatstandlaw15_as.f k x0).bind fun t472 => ((hatstandref15_Fits.f k t472 x1 x2).bind fun t475 => (if (t471 == t475) = true then ((hatstandref15_SameInts.f k bt460.1 bt467.1).bind fun t476 => (if t476 = true then (some (bt460.2 == bt467.2)) else (some false))) else (some false))))))))
def hatstandlaw15_LinearTells.f (k : Nat) (l0 : List (S30)) (a1 : Int) (l2 : List Int) : Option (Bool) := (hatstandlaw15_shown.f k).bind fun t459 => (if t459 = true then (if (l0.length : Int) > 8 then (hatstandlaw15_LinearTells.j0 k l0 a1 l2 t459 true) else (hatstandlaw15_LinearTells.j0 k l0 a1 l2 t459 (decide ((l2.length : Int) > 20)))) else (hatstandlaw15_LinearTells.j0 k l0 a1 l2 t459 true))
theorem hatstandlaw15_LinearTells.mono_l : ∀ k, (∀ y0 y1 y2 y3 y4, LeO (hatstandlaw15_LinearTells.j0 k y0 y1 y2 y3 y4) (hatstandlaw15_LinearTells.j0 (k + 1) y0 y1 y2 y3 y4))
  | 0 => fun _ _ _ _ _ r h => by simp [hatstandlaw15_LinearTells.j0] at h
  | k + 1 => by
    have ih0 := hatstandlaw15_LinearTells.mono_l k
    · intro y0 y1 y2 y3 y4
      unfold hatstandlaw15_LinearTells.j0
      repeat' first
      | (with_reducible exact ih0 _ _ _ _ _)
      | (with_reducible exact hatstandlaw15_as.mono _ _)
      | (with_reducible exact hatstandlaw15_shown.mono _)
      | (with_reducible exact hatstandref15_Find.mono _ _ _)
      | (with_reducible exact hatstandref15_Fits.mono _ _ _ _)
      | (with_reducible exact hatstandref15_SameInts.mono _ _ _)
      | (with_reducible exact linear_Fits.mono _ _ _ _)
      | (with_reducible exact LeO.refl _)
      | (with_reducible exact LeO.none _)
      | (with_reducible refine LeO.ite ?_ ?_)
      | (with_reducible refine LeO.bind ?_ (fun _ => ?_))
      | exact ih0 _ _ _ _ _
      | exact hatstandlaw15_as.mono _ _
      | exact hatstandlaw15_shown.mono _
      | exact hatstandref15_Find.mono _ _ _
      | exact hatstandref15_Fits.mono _ _ _ _
      | exact hatstandref15_SameInts.mono _ _ _
      | exact linear_Fits.mono _ _ _ _
      | exact LeO.none _
      | refine LeO.ite ?_ ?_
      | refine LeO.bind ?_ (fun _ => ?_)
theorem hatstandlaw15_LinearTells.mono : ∀ a0 a1 a2 k, LeO (hatstandlaw15_LinearTells.f k a0 a1 a2) (hatstandlaw15_LinearTells.f (k + 1) a0 a1 a2) := by
  intro a0 a1 a2 k
  have ih0 := hatstandlaw15_LinearTells.mono_l k
  unfold hatstandlaw15_LinearTells.f
  repeat' first
      | (with_reducible exact ih0 _ _ _ _ _)
      | (with_reducible exact hatstandlaw15_as.mono _ _)
      | (with_reducible exact hatstandlaw15_shown.mono _)
      | (with_reducible exact hatstandref15_Find.mono _ _ _)
      | (with_reducible exact hatstandref15_Fits.mono _ _ _ _)
      | (with_reducible exact hatstandref15_SameInts.mono _ _ _)
      | (with_reducible exact linear_Fits.mono _ _ _ _)
      | (with_reducible exact LeO.refl _)
      | (with_reducible exact LeO.none _)
      | (with_reducible refine LeO.ite ?_ ?_)
      | (with_reducible refine LeO.bind ?_ (fun _ => ?_))
      | exact ih0 _ _ _ _ _
      | exact hatstandlaw15_as.mono _ _
      | exact hatstandlaw15_shown.mono _
      | exact hatstandref15_Find.mono _ _ _
      | exact hatstandref15_Fits.mono _ _ _ _
      | exact hatstandref15_SameInts.mono _ _ _
      | exact linear_Fits.mono _ _ _ _
      | exact LeO.none _
      | refine LeO.ite ?_ ?_
      | refine LeO.bind ?_ (fun _ => ?_)
set_option maxHeartbeats 8000000 in
set_option maxRecDepth 100000 in
theorem hatstandlaw15_LinearTells.calls (k : Nat) (A0 : Option Addr) (c0 : Nat) (l0 : List (S30)) (a1 : Int) (A2 : Option Addr) (c2 : Nat) (l2 : List Int) (r : Bool) (w : World) (hr0 : Kd.C k30 w A0 l0.length l0) (hc0 : l0.length ≤ c0) (hr2 : Kd.C (Kd.int .i64) w A2 l2.length l2) (hc2 : l2.length ≤ c2) (h : hatstandlaw15_LinearTells.f k l0 a1 l2 = some r) (ht_ : r = true) :
    Calls Try.prog 5 #[.slice A0 l0.length c0, .int .i64 a1, .slice A2 l2.length c2] w fun e w' => e = .returned (.bool r) ∧ Below w.heap.size w w' := by
  have HR0 := Aside0.mk hr0
  have HC0 := Aside0.mk hc0
  clear hr0 hc0
  have HR2 := Aside0.mk hr2
  have HC2 := Aside0.mk hc2
  clear hr2 hc2
  have HB := Aside0.mk (Below.refl w.heap.size w)
  have HT0 := Aside0.mk ht_
  clear ht_
  have H : ((hatstandlaw15_shown.f k).bind fun t459 => (if t459 = true then (if (l0.length : Int) > 8 then (hatstandlaw15_LinearTells.j0 k l0 a1 l2 t459 true) else (hatstandlaw15_LinearTells.j0 k l0 a1 l2 t459 (decide ((l2.length : Int) > 20)))) else (hatstandlaw15_LinearTells.j0 k l0 a1 l2 t459 true))) = some r := h
  clear h
  replace H := Option.bind_eq_some_iff.mp H
  obtain ⟨t459, A40, H⟩ := H
  replace H : (if t459 = true then (if (l0.length : Int) > 8 then (hatstandlaw15_LinearTells.j0 k l0 a1 l2 t459 true) else (hatstandlaw15_LinearTells.j0 k l0 a1 l2 t459 (decide ((l2.length : Int) > 20)))) else (hatstandlaw15_LinearTells.j0 k l0 a1 l2 t459 true)) = some r := H
  have A4 := Aside0.mk A40
  clear A40
  have HC5 := Aside0.mk H
  clear H
  go_enter Try.func5, Try.ntmps5
  go_upto_region 2 with (first | ((with_reducible refine gate_callee (f := 9) rfl ?_); refine goesL_ (some 12) rfl rfl Try.func9 (by kernel_rfl) rfl #[] rfl (by (try simp only [List.map_toArray, List.map_cons, List.map_nil]); first | done | rfl | (simp only [List.length_drop, List.length_take]; rfl)) ?_; (with_reducible refine (hatstandlaw15_shown.calls k  t459 _ A4.out).mono ?_); rintro e w6 ⟨rfl, hb⟩; refine ⟨_, rfl, ?_⟩; have n0_ := Aside0.mk (below_step (by repeat (first | (with_reducible first | exact HB.out | apply below_alloc | apply pw_below_drewN | apply below_drew1) | exact HB.out)) hb); clear HB; have HB := n0_; clear n0_; (try clear hb); (try clear hb2); (try clear hk); (try clear hi)))
  (try simp only [Act.put, List.setIfInBounds_toArray, List.set_cons_zero, List.set_cons_succ])
  go_cut [24] (fun v24 wc => ∃ (kq : Nat) (x24_4 : Bool), v24 = .bool x24_4 ∧ Aside0 (hatstandlaw15_LinearTells.j0 kq l0 a1 l2 t459 x24_4 = some r) ∧ Aside0 (kq ≤ k) ∧ Aside0 (Below w.heap.size w wc))
  case first =>
    have H := HC5.out
    clear HC5
    by_cases c7 : t459 = true
    · subst c7
      have H1 : (if (l0.length : Int) > 8 then (hatstandlaw15_LinearTells.j0 k l0 a1 l2 true true) else (hatstandlaw15_LinearTells.j0 k l0 a1 l2 true (decide ((l2.length : Int) > 20)))) = some r := by rw [if_pos rfl] at H; exact H
      clear H
      have H := H1
      clear H1
      by_cases c8 : (l0.length : Int) > 8
      · rw [if_pos c8] at H
        have c8b0 : decide (8 < (l0.length : Int)) = true := decide_eq_true c8
        have c8b1 : decide (8 < l0.length) = true := decide_eq_true (by omega)
        clear c8
        (first | rw [c8b0] | (simp only [i64_w, i32_w, Go.IntKind.wrap_u32]; rw [c8b0]) | skip)
        have H' := Aside0.mk H
        clear H
        go_wp2
        go_meet
        case rel => exact ⟨_, (true), (by first | rfl | (simp; done) | (simp [*]; done)), H', ⟨by first | omega | exact Nat.le_refl _⟩, ⟨by repeat (first | (with_reducible first | exact HB.out | apply below_alloc | apply pw_below_drewN | apply below_drew1) | exact HB.out)⟩⟩
      · rw [if_neg c8] at H
        have c8b0 : decide (8 < (l0.length : Int)) = false := decide_eq_false c8
        have c8b1 : decide (8 < l0.length) = false := decide_eq_false (by omega)
        clear c8
        (first | rw [c8b0] | (simp only [i64_w, i32_w, Go.IntKind.wrap_u32]; rw [c8b0]) | skip)
        have H' := Aside0.mk H
        clear H
        go_wp2
        go_meet
        case rel => exact ⟨_, (decide ((l2.length : Int) > 20)), (by first | rfl | (simp; done) | (simp [*]; done)), H', ⟨by first | omega | exact Nat.le_refl _⟩, ⟨by repeat (first | (with_reducible first | exact HB.out | apply below_alloc | apply pw_below_drewN | apply below_drew1) | exact HB.out)⟩⟩
    · replace c7 := Bool.eq_false_iff.mpr c7
      subst c7
      have H1 : (hatstandlaw15_LinearTells.j0 k l0 a1 l2 false true) = some r := by rw [if_neg (show ¬ (false = true) by decide)] at H; exact H
      clear H
      have H := H1
      clear H1
      have H' := Aside0.mk H
      clear H
      go_wp2
      go_meet
      case rel => exact ⟨_, (true), (by first | rfl | (simp; done) | (simp [*]; done)), H', ⟨by first | omega | exact Nat.le_refl _⟩, ⟨by repeat (first | (with_reducible first | exact HB.out | apply below_alloc | apply pw_below_drewN | apply below_drew1) | exact HB.out)⟩⟩
  case rest =>
    clear HC5
    try clear c2
    try clear p2
    try clear c5
    try clear c7
    try clear c8
    try clear c8b0
    try clear c8b1
    obtain ⟨kq, x24_4, rfl, HA, HJ4, HB⟩ := hcut
    cases kq with
    | zero => exact absurd HA.out (by simp [hatstandlaw15_LinearTells.j0])
    | succ kj4 =>
      have H := HA.out
      clear HA
      simp only [hatstandlaw15_LinearTells.j0] at H
      by_cases c9 : x24_4 = true
      · subst c9
        have H1 : (some t459) = some r := by rw [if_pos rfl] at H; exact H
        clear H
        have H := H1
        clear H1
        obtain rfl := Option.some.inj H
        go_wp2
        go_ret
        exact ⟨by first | rfl | (simp [errW_none, errW_some] <;> rfl) | (simp [*, errW_none, errW_some] <;> rfl), by repeat (first | (with_reducible first | exact HB.out | apply below_alloc | apply pw_below_drewN | apply below_drew1) | exact HB.out)⟩
      · replace c9 := Bool.eq_false_iff.mpr c9
        subst c9
        have H1 : ((linear_Find.f l0 a1).bind fun bt460 => ((hatstandlaw15_as.f kj4 l0).bind fun t464 => ((hatstandref15_Find.f kj4 t464 a1).bind fun bt467 => ((linear_Fits.f kj4 l0 a1 l2).bind fun t471 => ((hatstandlaw15_as.f kj4 l0).bind fun t472 => ((hatstandref15_Fits.f kj4 t472 a1 l2).bind fun t475 => (if (t471 == t475) = true then ((hatstandref15_SameInts.f kj4 bt460.1 bt467.1).bind fun t476 => (if t476 = true then (some (bt460.2 == bt467.2)) else (some false))) else (some false)))))))) = some r := by rw [if_neg (show ¬ (false = true) by decide)] at H; exact H
        clear H
        have H := H1
        clear H1
        replace H := Option.bind_eq_some_iff.mp H
        obtain ⟨⟨t460, t461⟩, A100, H⟩ := H
        replace H : ((hatstandlaw15_as.f kj4 l0).bind fun t464 => ((hatstandref15_Find.f kj4 t464 a1).bind fun bt467 => ((linear_Fits.f kj4 l0 a1 l2).bind fun t471 => ((hatstandlaw15_as.f kj4 l0).bind fun t472 => ((hatstandref15_Fits.f kj4 t472 a1 l2).bind fun t475 => (if (t471 == t475) = true then ((hatstandref15_SameInts.f kj4 t460 bt467.1).bind fun t476 => (if t476 = true then (some (t461 == bt467.2)) else (some false))) else (some false))))))) = some r := H
        have A10 := Aside0.mk A100
        clear A100
        replace H := Option.bind_eq_some_iff.mp H
        obtain ⟨t464, A110, H⟩ := H
        replace H : ((hatstandref15_Find.f kj4 t464 a1).bind fun bt467 => ((linear_Fits.f kj4 l0 a1 l2).bind fun t471 => ((hatstandlaw15_as.f kj4 l0).bind fun t472 => ((hatstandref15_Fits.f kj4 t472 a1 l2).bind fun t475 => (if (t471 == t475) = true then ((hatstandref15_SameInts.f kj4 t460 bt467.1).bind fun t476 => (if t476 = true then (some (t461 == bt467.2)) else (some false))) else (some false)))))) = some r := H
        have A11 := Aside0.mk A110
        clear A110
        replace H := Option.bind_eq_some_iff.mp H
        obtain ⟨⟨t467, t468⟩, A120, H⟩ := H
        replace H : ((linear_Fits.f kj4 l0 a1 l2).bind fun t471 => ((hatstandlaw15_as.f kj4 l0).bind fun t472 => ((hatstandref15_Fits.f kj4 t472 a1 l2).bind fun t475 => (if (t471 == t475) = true then ((hatstandref15_SameInts.f kj4 t460 t467).bind fun t476 => (if t476 = true then (some (t461 == t468)) else (some false))) else (some false))))) = some r := H
        have A12 := Aside0.mk A120
        clear A120
        replace H := Option.bind_eq_some_iff.mp H
        obtain ⟨t471, A130, H⟩ := H
        replace H : ((hatstandlaw15_as.f kj4 l0).bind fun t472 => ((hatstandref15_Fits.f kj4 t472 a1 l2).bind fun t475 => (if (t471 == t475) = true then ((hatstandref15_SameInts.f kj4 t460 t467).bind fun t476 => (if t476 = true then (some (t461 == t468)) else (some false))) else (some false)))) = some r := H
        have A13 := Aside0.mk A130
        clear A130
        replace H := Option.bind_eq_some_iff.mp H
        obtain ⟨t472, A140, H⟩ := H
        replace H : ((hatstandref15_Fits.f kj4 t472 a1 l2).bind fun t475 => (if (t471 == t475) = true then ((hatstandref15_SameInts.f kj4 t460 t467).bind fun t476 => (if t476 = true then (some (t461 == t468)) else (some false))) else (some false))) = some r := H
        have A14 := Aside0.mk A140
        clear A140
        replace H := Option.bind_eq_some_iff.mp H
        obtain ⟨t475, A150, H⟩ := H
        replace H : (if (t471 == t475) = true then ((hatstandref15_SameInts.f kj4 t460 t467).bind fun t476 => (if t476 = true then (some (t461 == t468)) else (some false))) else (some false)) = some r := H
        have A15 := Aside0.mk A150
        clear A150
        by_cases c16 : (t471 == t475) = true
        · rw [if_pos c16] at H
          have c16b0 : (t471 == t475) = true := c16
          (try (have c16b1 : decide (t471 = t475) = true := by simpa using c16))
          (try (have c16b2 : (t471 == t475) = true := by simpa using c16))
          clear c16
          replace H := Option.bind_eq_some_iff.mp H
          obtain ⟨t476, A170, H⟩ := H
          replace H : (if t476 = true then (some (t461 == t468)) else (some false)) = some r := H
          have A17 := Aside0.mk A170
          clear A170
          by_cases c18 : t476 = true
          · subst c18
            have H1 : (some (t461 == t468)) = some r := by rw [if_pos rfl] at H; exact H
            clear H
            have H := H1
            clear H1
            obtain rfl := Option.some.inj H
            go_wp2_with (first | ((with_reducible refine gate_callee (f := 12) rfl ?_); refine goesL_ (some 29) rfl rfl Try.func12 (by kernel_rfl) rfl #[.slice A0 l0.length c0, .int .i64 a1] rfl (by (try simp only [List.map_toArray, List.map_cons, List.map_nil]); first | done | rfl | (simp only [List.length_drop, List.length_take]; rfl)) ?_; (with_reducible refine (linear_Find.calls _ _ l0 a1 t460 t461 _ ?side1 ?side2 A10.out).mono ?_); (case side1 => repeat (first | exact (Kd.C_below HR0.out HB.out) | (with_reducible refine Kd.C_alloc ?_ _) | (with_reducible refine Kd.C_drewN ?_ _) | (with_reducible refine Kd.C_drew ?_))); (case side2 => exact HC0.out); rintro e w19 ⟨v462, rfl, ho0, hb⟩; refine ⟨_, rfl, ?_⟩; have n0_ := Aside0.mk (Kd.R_lower ho0 (below_size (by repeat (first | (with_reducible first | exact HB.out | apply below_alloc | apply pw_below_drewN | apply below_drew1) | exact HB.out)))); have n1_ := Aside0.mk (below_step (by repeat (first | (with_reducible first | exact HB.out | apply below_alloc | apply pw_below_drewN | apply below_drew1) | exact HB.out)) hb); clear HB; have HO463 := n0_; have HB := n1_; clear n0_ n1_; (try clear hb); (try clear hb2); (try clear hk); (try clear hi); (try clear ho0)) | ((with_reducible refine gate_callee (f := 18) rfl ?_); refine goesL_ (some 34) rfl rfl Try.func18 (by kernel_rfl) rfl #[.slice A0 l0.length c0] rfl (by (try simp only [List.map_toArray, List.map_cons, List.map_nil]); first | done | rfl | (simp only [List.length_drop, List.length_take]; rfl)) ?_; (with_reducible refine (hatstandlaw15_as.calls kj4 _ _ l0 t464 _ ?side1 ?side2 A11.out).mono ?_); (case side1 => repeat (first | exact (Kd.C_below HR0.out HB.out) | (with_reducible refine Kd.C_alloc ?_ _) | (with_reducible refine Kd.C_drewN ?_ _) | (with_reducible refine Kd.C_drew ?_))); (case side2 => exact HC0.out); rintro e w20 ⟨v465, rfl, ho0, hb⟩; refine ⟨_, rfl, ?_⟩; have n0_ := Aside0.mk (Kd.R_below (by (with_reducible repeat (first | apply Kd.R_alloc | apply Kd.R_drewN | apply Kd.R_drew)); exact HO463.out) hb); have n1_ := Aside0.mk (Kd.R_lower ho0 (below_size (by repeat (first | (with_reducible first | exact HB.out | apply below_alloc | apply pw_below_drewN | apply below_drew1) | exact HB.out)))); have n2_ := Aside0.mk (below_step (by repeat (first | (with_reducible first | exact HB.out | apply below_alloc | apply pw_below_drewN | apply below_drew1) | exact HB.out)) hb); clear HO463; clear HB; have HO463 := n0_; have HO466 := n1_; have HB := n2_; clear n0_ n1_ n2_; (try clear hb); (try clear hb2); (try clear hk); (try clear hi); (try clear ho0); obtain ⟨Ao21, co21, eo21⟩ := Kd.R_slice HO466.out; subst eo21) | ((with_reducible refine gate_callee (f := 17) rfl ?_); refine goesL_ (some 36) rfl rfl Try.func17 (by kernel_rfl) rfl #[.slice Ao21 t464.length co21, .int .i64 a1] rfl (by (try simp only [List.map_toArray, List.map_cons, List.map_nil]); first | done | rfl | (simp only [List.length_drop, List.length_take]; rfl)) ?_; (with_reducible refine (hatstandref15_Find.calls kj4 _ _ t464 a1 t467 t468 _ ?side1 ?side2 A12.out).mono ?_); (case side1 => repeat (first | exact (Kd.R_reads' HO466.out).2.2 | (with_reducible refine Kd.C_alloc ?_ _) | (with_reducible refine Kd.C_drewN ?_ _) | (with_reducible refine Kd.C_drew ?_))); (case side2 => exact (Kd.R_reads' HO466.out).2.1); rintro e w22 ⟨v469, rfl, ho0, hb⟩; refine ⟨_, rfl, ?_⟩; have n0_ := Aside0.mk (Kd.R_elder' (by (with_reducible repeat (first | apply Kd.R_alloc | apply Kd.R_drewN | apply Kd.R_drew)); exact HO463.out) (Kd.R_base ho0) hb); have n1_ := Aside0.mk (Kd.R_below (by (with_reducible repeat (first | apply Kd.R_alloc | apply Kd.R_drewN | apply Kd.R_drew)); exact HO466.out) hb); have n2_ := Aside0.mk (Kd.R_lower (Kd.R_new' ho0 (Kd.R_lt (by (with_reducible repeat (first | apply Kd.R_alloc | apply Kd.R_drewN | apply Kd.R_drew)); exact HO463.out))) (below_size (by repeat (first | (with_reducible first | exact HB.out | apply below_alloc | apply pw_below_drewN | apply below_drew1) | exact HB.out)))); have n3_ := Aside0.mk (below_step (by repeat (first | (with_reducible first | exact HB.out | apply below_alloc | apply pw_below_drewN | apply below_drew1) | exact HB.out)) hb); clear HO463; clear HO466; clear HB; have HO463 := n0_; have HO466 := n1_; have HO470 := n2_; have HB := n3_; clear n0_ n1_ n2_ n3_; (try clear hb); (try clear hb2); (try clear hk); (try clear hi); (try clear ho0)) | ((with_reducible refine gate_callee (f := 13) rfl ?_); refine goesL_ (some 42) rfl rfl Try.func13 (by kernel_rfl) rfl #[.slice A0 l0.length c0, .int .i64 a1, .slice A2 l2.length c2] rfl (by (try simp only [List.map_toArray, List.map_cons, List.map_nil]); first | done | rfl | (simp only [List.length_drop, List.length_take]; rfl)) ?_; (with_reducible refine (linear_Fits.calls kj4 _ _ l0 a1 _ _ l2 t471 _ ?side1 ?side2 ?side3 ?side4 A13.out).mono ?_); (case side1 => repeat (first | exact (Kd.C_below HR0.out HB.out) | (with_reducible refine Kd.C_alloc ?_ _) | (with_reducible refine Kd.C_drewN ?_ _) | (with_reducible refine Kd.C_drew ?_))); (case side2 => exact HC0.out); (case side3 => repeat (first | exact (Kd.C_below HR2.out HB.out) | (with_reducible refine Kd.C_alloc ?_ _) | (with_reducible refine Kd.C_drewN ?_ _) | (with_reducible refine Kd.C_drew ?_))); (case side4 => exact HC2.out); rintro e w23 ⟨rfl, hb⟩; refine ⟨_, rfl, ?_⟩; have n0_ := Aside0.mk (Kd.R_below (by (with_reducible repeat (first | apply Kd.R_alloc | apply Kd.R_drewN | apply Kd.R_drew)); exact HO463.out) hb); have n1_ := Aside0.mk (Kd.R_below (by (with_reducible repeat (first | apply Kd.R_alloc | apply Kd.R_drewN | apply Kd.R_drew)); exact HO466.out) hb); have n2_ := Aside0.mk (Kd.R_below (by (with_reducible repeat (first | apply Kd.R_alloc | apply Kd.R_drewN | apply Kd.R_drew)); exact HO470.out) hb); have n3_ := Aside0.mk (below_step (by repeat (first | (with_reducible first | exact HB.out | apply below_alloc | apply pw_below_drewN | apply below_drew1) | exact HB.out)) hb); clear HO463; clear HO466; clear HO470; clear HB; have HO463 := n0_; have HO466 := n1_; have HO470 := n2_; have HB := n3_; clear n0_ n1_ n2_ n3_; (try clear hb); (try clear hb2); (try clear hk); (try clear hi)) | ((with_reducible refine gate_callee (f := 18) rfl ?_); refine goesL_ (some 44) rfl rfl Try.func18 (by kernel_rfl) rfl #[.slice A0 l0.length c0] rfl (by (try simp only [List.map_toArray, List.map_cons, List.map_nil]); first | done | rfl | (simp only [List.length_drop, List.length_take]; rfl)) ?_; (with_reducible refine (hatstandlaw15_as.calls kj4 _ _ l0 t472 _ ?side1 ?side2 A14.out).mono ?_); (case side1 => repeat (first | exact (Kd.C_below HR0.out HB.out) | (with_reducible refine Kd.C_alloc ?_ _) | (with_reducible refine Kd.C_drewN ?_ _) | (with_reducible refine Kd.C_drew ?_))); (case side2 => exact HC0.out); rintro e w24 ⟨v473, rfl, ho0, hb⟩; refine ⟨_, rfl, ?_⟩; have n0_ := Aside0.mk (Kd.R_below (by (with_reducible repeat (first | apply Kd.R_alloc | apply Kd.R_drewN | apply Kd.R_drew)); exact HO463.out) hb); have n1_ := Aside0.mk (Kd.R_elder' (by (with_reducible repeat (first | apply Kd.R_alloc | apply Kd.R_drewN | apply Kd.R_drew)); exact HO466.out) (Kd.R_base ho0) hb); have n2_ := Aside0.mk (Kd.R_below (by (with_reducible repeat (first | apply Kd.R_alloc | apply Kd.R_drewN | apply Kd.R_drew)); exact HO470.out) hb); have n3_ := Aside0.mk (Kd.R_lower (Kd.R_new' ho0 (Kd.R_lt (by (with_reducible repeat (first | apply Kd.R_alloc | apply Kd.R_drewN | apply Kd.R_drew)); exact HO466.out))) (below_size (by repeat (first | (with_reducible first | exact HB.out | apply below_alloc | apply pw_below_drewN | apply below_drew1) | exact HB.out)))); have n4_ := Aside0.mk (below_step (by repeat (first | (with_reducible first | exact HB.out | apply below_alloc | apply pw_below_drewN | apply below_drew1) | exact HB.out)) hb); clear HO463; clear HO466; clear HO470; clear HB; have HO463 := n0_; have HO466 := n1_; have HO470 := n2_; have HO474 := n3_; have HB := n4_; clear n0_ n1_ n2_ n3_ n4_; (try clear hb); (try clear hb2); (try clear hk); (try clear hi); (try clear ho0); obtain ⟨Ao25, co25, eo25⟩ := Kd.R_slice HO474.out; subst eo25) | ((with_reducible refine gate_callee (f := 19) rfl ?_); refine goesL_ (some 47) rfl rfl Try.func19 (by kernel_rfl) rfl #[.slice Ao25 t472.length co25, .int .i64 a1, .slice A2 l2.length c2] rfl (by (try simp only [List.map_toArray, List.map_cons, List.map_nil]); first | done | rfl | (simp only [List.length_drop, List.length_take]; rfl)) ?_; (with_reducible refine (hatstandref15_Fits.calls kj4 _ _ t472 a1 _ _ l2 t475 _ ?side1 ?side2 ?side3 ?side4 A15.out).mono ?_); (case side1 => repeat (first | exact (Kd.R_reads' HO474.out).2.2 | (with_reducible refine Kd.C_alloc ?_ _) | (with_reducible refine Kd.C_drewN ?_ _) | (with_reducible refine Kd.C_drew ?_))); (case side2 => exact (Kd.R_reads' HO474.out).2.1); (case side3 => repeat (first | exact (Kd.C_below HR2.out HB.out) | (with_reducible refine Kd.C_alloc ?_ _) | (with_reducible refine Kd.C_drewN ?_ _) | (with_reducible refine Kd.C_drew ?_))); (case side4 => exact HC2.out); rintro e w26 ⟨rfl, hb⟩; refine ⟨_, rfl, ?_⟩; have n0_ := Aside0.mk (Kd.R_below (by (with_reducible repeat (first | apply Kd.R_alloc | apply Kd.R_drewN | apply Kd.R_drew)); exact HO463.out) hb); have n1_ := Aside0.mk (Kd.R_below (by (with_reducible repeat (first | apply Kd.R_alloc | apply Kd.R_drewN | apply Kd.R_drew)); exact HO466.out) hb); have n2_ := Aside0.mk (Kd.R_below (by (with_reducible repeat (first | apply Kd.R_alloc | apply Kd.R_drewN | apply Kd.R_drew)); exact HO470.out) hb); have n3_ := Aside0.mk (Kd.R_below (by (with_reducible repeat (first | apply Kd.R_alloc | apply Kd.R_drewN | apply Kd.R_drew)); exact HO474.out) hb); have n4_ := Aside0.mk (below_step (by repeat (first | (with_reducible first | exact HB.out | apply below_alloc | apply pw_below_drewN | apply below_drew1) | exact HB.out)) hb); clear HO463; clear HO466; clear HO470; clear HO474; clear HB; have HO463 := n0_; have HO466 := n1_; have HO470 := n2_; have HO474 := n3_; have HB := n4_; clear n0_ n1_ n2_ n3_ n4_; (try clear hb); (try clear hb2); (try clear hk); (try clear hi); obtain ⟨Ao27, co27, eo27⟩ := Kd.R_slice HO463.out; subst eo27; obtain ⟨Ao28, co28, eo28⟩ := Kd.R_slice HO470.out; subst eo28) | (go_at_call 15; (with_reducible refine (hatstandref15_SameInts.calls kj4 _ _ t460 _ _ t467 true _ ?side1 ?side2 ?side3 ?side4 A17.out).mono ?_); (case side1 => repeat (first | exact (Kd.R_reads' HO463.out).2.2 | (with_reducible refine Kd.C_alloc ?_ _) | (with_reducible refine Kd.C_drewN ?_ _) | (with_reducible refine Kd.C_drew ?_))); (case side2 => exact (Kd.R_reads' HO463.out).2.1); (case side3 => repeat (first | exact (Kd.R_reads' HO470.out).2.2 | (with_reducible refine Kd.C_alloc ?_ _) | (with_reducible refine Kd.C_drewN ?_ _) | (with_reducible refine Kd.C_drew ?_))); (case side4 => exact (Kd.R_reads' HO470.out).2.1); rintro e w' ⟨rfl, ⟨nd, rfl⟩⟩))
            go_ret
            exact ⟨by first | rfl | (simp [errW_none, errW_some] <;> rfl) | (simp [*, errW_none, errW_some] <;> rfl), by repeat (first | (with_reducible first | exact HB.out | apply below_alloc | apply pw_below_drewN | apply below_drew1) | exact HB.out)⟩
          · replace c18 := Bool.eq_false_iff.mpr c18
            subst c18
            have H1 : (some false) = some r := by rw [if_neg (show ¬ (false = true) by decide)] at H; exact H
            clear H
            have H := H1
            clear H1
            exact absurd ((Option.some.inj H).trans HT0.out) (by decide)
        · rw [if_neg c16] at H
          have c16b0 : (t471 == t475) = false := by simpa using c16
          (try (have c16b1 : decide (t471 = t475) = false := by simpa using c16))
          (try (have c16b2 : (t471 == t475) = false := by simpa using c16))
          (try (have c16b3 : ¬ (t471 = t475) := by simpa using c16))
          clear c16
          exact absurd ((Option.some.inj H).trans HT0.out) (by decide)

/-- THE ONE PURE STATEMENT of hatstandlaw15_LinearTells. -/
def hatstandlaw15_LinearTells.Pure : Prop := ∀ (l0 : List (S30)) (a1 : Int) (l2 : List Int), l0.length ≤ maxLen → l0.length * 48 ≤ 140737488351232 → (∀ x ∈ l0, (Lit.int .i64 x.f0).wf = true ∧ (Lit.int .u64 x.f2).wf = true ∧ (Lit.int .i64 x.f3).wf = true ∧ (Lit.int .i64 x.f4).wf = true ∧ (Lit.int .i64 x.f5).wf = true) → (Lit.int .i64 a1).wf = true → l2.length ≤ maxLen → l2.length * 8 ≤ 140737488351232 → (∀ x ∈ l2, (Lit.int .i64 x).wf = true) → ∃ k, hatstandlaw15_LinearTells.f k l0 a1 l2 = some true
theorem hatstandlaw15_LinearTells.walk (P : hatstandlaw15_LinearTells.Pure) (A0 : Option Addr) (c0 : Nat) (l0 : List (S30)) (a1 : Int) (A2 : Option Addr) (c2 : Nat) (l2 : List Int) (w : World) (hr0 : Kd.C k30 w A0 l0.length l0) (hc0 : l0.length ≤ c0) (hr2 : Kd.C (Kd.int .i64) w A2 l2.length l2) (hc2 : l2.length ≤ c2) (hm0 : l0.length ≤ maxLen) (y0 : l0.length * 48 ≤ 140737488351232) (hw0 : (∀ x ∈ l0, (Lit.int .i64 x.f0).wf = true ∧ (Lit.int .u64 x.f2).wf = true ∧ (Lit.int .i64 x.f3).wf = true ∧ (Lit.int .i64 x.f4).wf = true ∧ (Lit.int .i64 x.f5).wf = true)) (hw1 : (Lit.int .i64 a1).wf = true) (hm2 : l2.length ≤ maxLen) (y2 : l2.length * 8 ≤ 140737488351232) (hw2 : (∀ x ∈ l2, (Lit.int .i64 x).wf = true)) :
    Calls Try.prog 5 #[.slice A0 l0.length c0, .int .i64 a1, .slice A2 l2.length c2] w fun e w' => e = .returned (.bool true) ∧ Below w.heap.size w w' := by
  obtain ⟨k, h⟩ := P l0 a1 l2 hm0 y0 hw0 hw1 hm2 y2 hw2
  refine (hatstandlaw15_LinearTells.calls k A0 c0 l0 a1 A2 c2 l2 true w hr0 hc0 hr2 hc2 h rfl).mono ?_
  rintro e w' ⟨rfl, hd⟩
  exact ⟨rfl, hd⟩

end Go.Proofs.Ytdcnnphgcapiaaa.P
