/- Walks, written by a program for this claim: each Go function that the laws reach comes to what its Lean function says. -/
import Derived.Test.YtijkmjhfhnhjeaaPx0
import Derived.Test.YtijkmjhfhnhjeaaPx1
namespace Go.Proofs.Ytijkmjhfhnhjeaa.P
open Go.RowKit Go.Proofs.YtijkmjhfhnhjeaaW.PrintWords Go.Proofs.YtijkmjhfhnhjeaaW.PrintLast Go.Proofs.YtijkmjhfhnhjeaaW.PrintMore
attribute [local go_sem] max2_int min2_int max_two min_two max_three min_three max_four min_four   -- for this text's walks alone
set_option linter.unusedVariables false
set_option linter.unusedSimpArgs false

/-! ### hatstandref9_Claim: function 19 -/
mutual
def hatstandref9_Claim.j0 : Nat → Int → Bool → Int → Bool → Option (Int × Bool)
  | 0, _, _, _, _ => none
  | k + 1, x0, x1, x2, x13 => if x13 = true then ((hatstandref9_Stamp.f x0).bind fun t127 => ((hatstandref9_Word.f 3 x2 t127).bind fun t128 => (some (t128, true)))) else (if x1 = true then (hatstandref9_Claim.j1 k x0 false) else ((hatstandref9_State.f x0).bind fun t129 => (hatstandref9_Claim.j1 k x0 (t129 == 1))))
def hatstandref9_Claim.j1 : Nat → Int → Bool → Option (Int × Bool)
  | 0, _, _ => none
  | k + 1, x0, x24 => if x24 = true then ((hatstandref9_Index.f x0).bind fun t130 => ((hatstandref9_Stamp.f x0).bind fun t131 => ((hatstandref9_Word.f 3 t130 t131).bind fun t132 => (some (t132, true))))) else (some (0, false))
end
def hatstandref9_Claim.f (k : Nat) (a0 : Int) (a1 : Bool) (a2 : Int) : Option (Int × Bool) := if a1 = true then ((hatstandref9_State.f a0).bind fun t126 => (hatstandref9_Claim.j0 k a0 a1 a2 (t126 == 2))) else (hatstandref9_Claim.j0 k a0 a1 a2 false)
theorem hatstandref9_Claim.mono_l : ∀ k, (∀ y0 y1 y2 y3, LeO (hatstandref9_Claim.j0 k y0 y1 y2 y3) (hatstandref9_Claim.j0 (k + 1) y0 y1 y2 y3)) ∧ (∀ y0 y1, LeO (hatstandref9_Claim.j1 k y0 y1) (hatstandref9_Claim.j1 (k + 1) y0 y1))
  | 0 => ⟨fun _ _ _ _ r h => by simp [hatstandref9_Claim.j0] at h, fun _ _ r h => by simp [hatstandref9_Claim.j1] at h⟩
  | k + 1 => by
    obtain ⟨ih0, ih1⟩ := hatstandref9_Claim.mono_l k
    refine ⟨?_, ?_⟩
    · intro y0 y1 y2 y3
      unfold hatstandref9_Claim.j0
      repeat' first
      | (with_reducible exact ih0 _ _ _ _)
      | (with_reducible exact ih1 _ _)
      | (with_reducible exact LeO.refl _)
      | (with_reducible exact LeO.none _)
      | (with_reducible refine LeO.ite ?_ ?_)
      | (with_reducible refine LeO.bind ?_ (fun _ => ?_))
      | exact ih0 _ _ _ _
      | exact ih1 _ _
      | exact LeO.none _
      | refine LeO.ite ?_ ?_
      | refine LeO.bind ?_ (fun _ => ?_)
    · intro y0 y1
      unfold hatstandref9_Claim.j1
      repeat' first
      | (with_reducible exact ih0 _ _ _ _)
      | (with_reducible exact ih1 _ _)
      | (with_reducible exact LeO.refl _)
      | (with_reducible exact LeO.none _)
      | (with_reducible refine LeO.ite ?_ ?_)
      | (with_reducible refine LeO.bind ?_ (fun _ => ?_))
      | exact ih0 _ _ _ _
      | exact ih1 _ _
      | exact LeO.none _
      | refine LeO.ite ?_ ?_
      | refine LeO.bind ?_ (fun _ => ?_)
theorem hatstandref9_Claim.mono : ∀ a0 a1 a2 k, LeO (hatstandref9_Claim.f k a0 a1 a2) (hatstandref9_Claim.f (k + 1) a0 a1 a2) := by
  intro a0 a1 a2 k
  obtain ⟨ih0, ih1⟩ := hatstandref9_Claim.mono_l k
  unfold hatstandref9_Claim.f
  repeat' first
      | (with_reducible exact ih0 _ _ _ _)
      | (with_reducible exact ih1 _ _)
      | (with_reducible exact LeO.refl _)
      | (with_reducible exact LeO.none _)
      | (with_reducible refine LeO.ite ?_ ?_)
      | (with_reducible refine LeO.bind ?_ (fun _ => ?_))
      | exact ih0 _ _ _ _
      | exact ih1 _ _
      | exact LeO.none _
      | refine LeO.ite ?_ ?_
      | refine LeO.bind ?_ (fun _ => ?_)
set_option maxHeartbeats 8000000 in
set_option maxRecDepth 100000 in
theorem hatstandref9_Claim.calls (k : Nat) (a0 : Int) (a1 : Bool) (a2 : Int) (r1 : Int) (r2 : Bool) (w : World) (h : hatstandref9_Claim.f k a0 a1 a2 = some (r1, r2)) :
    Calls Try.prog 19 #[.int .u64 a0, .bool a1, .int .u32 a2] w fun e w' => e = .returned (.tuple #[.int .u64 r1, .bool r2]) ∧ Drawn0 w w' := by
  have H : (if a1 = true then ((hatstandref9_State.f a0).bind fun t126 => (hatstandref9_Claim.j0 k a0 a1 a2 (t126 == 2))) else (hatstandref9_Claim.j0 k a0 a1 a2 false)) = some (r1, r2) := h
  clear h
  have HC4 := Aside0.mk H
  clear H
  go_enter Try.func19, Try.ntmps19
  go_upto_region 1 with (fail)
  go_cut [13] (fun v13 wc => ∃ (kq : Nat) (x13_3 : Bool), v13 = .bool x13_3 ∧ Aside0 (hatstandref9_Claim.j0 kq a0 a1 a2 x13_3 = some (r1, r2)) ∧ Aside0 (kq ≤ k) ∧ Drawn0 w wc)
  case first =>
    have H := HC4.out
    clear HC4
    by_cases c5 : a1 = true
    · subst c5
      have H1 : ((hatstandref9_State.f a0).bind fun t126 => (hatstandref9_Claim.j0 k a0 true a2 (t126 == 2))) = some (r1, r2) := by rw [if_pos rfl] at H; exact H
      clear H
      have H := H1
      clear H1
      replace H := Option.bind_eq_some_iff.mp H
      obtain ⟨t126, A60, H⟩ := H
      replace H : (hatstandref9_Claim.j0 k a0 true a2 (t126 == 2)) = some (r1, r2) := H
      have A6 := Aside0.mk A60
      clear A60
      have H' := Aside0.mk H
      clear H
      go_wp2_with (first | (go_at_call 21; (with_reducible refine (hatstandref9_State.calls a0 t126 _ A6.out).mono ?_); rintro e w' ⟨rfl, ⟨nd, rfl⟩⟩))
      go_meet
      case rel => exact ⟨_, ((t126 == 2)), (by first | rfl | (simp; done) | (simp [*]; done)), H', ⟨by first | omega | exact Nat.le_refl _⟩, by repeat (first | exact Drawn0.refl _ | apply Drawn0.step)⟩
    · replace c5 := Bool.eq_false_iff.mpr c5
      subst c5
      have H1 : (hatstandref9_Claim.j0 k a0 false a2 false) = some (r1, r2) := by rw [if_neg (show ¬ (false = true) by decide)] at H; exact H
      clear H
      have H := H1
      clear H1
      have H' := Aside0.mk H
      clear H
      go_wp2
      go_meet
      case rel => exact ⟨_, (false), (by first | rfl | (simp; done) | (simp [*]; done)), H', ⟨by first | omega | exact Nat.le_refl _⟩, by repeat (first | exact Drawn0.refl _ | apply Drawn0.step)⟩
  case rest =>
    clear HC4
    try clear c1
    try clear p2
    try clear c5
    obtain ⟨kq, x13_3, rfl, HA, HJ3, ⟨mc3, rfl⟩⟩ := hcut
    cases kq with
    | zero => exact absurd HA.out (by simp [hatstandref9_Claim.j0])
    | succ kj3 =>
      have H := HA.out
      clear HA
      simp only [hatstandref9_Claim.j0] at H
      by_cases c7 : x13_3 = true
      · subst c7
        have H1 : ((hatstandref9_Stamp.f a0).bind fun t127 => ((hatstandref9_Word.f 3 a2 t127).bind fun t128 => (some (t128, true)))) = some (r1, r2) := by rw [if_pos rfl] at H; exact H
        clear H
        have H := H1
        clear H1
        replace H := Option.bind_eq_some_iff.mp H
        obtain ⟨t127, A80, H⟩ := H
        replace H : ((hatstandref9_Word.f 3 a2 t127).bind fun t128 => (some (t128, true))) = some (r1, r2) := H
        have A8 := Aside0.mk A80
        clear A80
        replace H := Option.bind_eq_some_iff.mp H
        obtain ⟨t128, A90, H⟩ := H
        replace H : (some (t128, true)) = some (r1, r2) := H
        have A9 := Aside0.mk A90
        clear A90
        simp only [Option.some.injEq, Prod.mk.injEq] at H
        obtain ⟨rfl, rfl⟩ := H
        go_wp2_with (first | ((with_reducible refine gate_callee (f := 23) rfl ?_); refine goesL_ (some 16) rfl rfl Try.func23 (by kernel_rfl) rfl #[.int .u64 a0] rfl (by (try simp only [List.map_toArray, List.map_cons, List.map_nil]); first | done | rfl | (simp only [List.length_drop, List.length_take]; rfl)) ?_; (with_reducible refine (hatstandref9_Stamp.calls a0 t127 _ A8.out).mono ?_); rintro e w' ⟨rfl, ⟨nd, rfl⟩⟩; refine ⟨_, rfl, ?_⟩) | ((with_reducible refine gate_callee (f := 20) rfl ?_); refine goesL_ (some 17) rfl rfl Try.func20 (by kernel_rfl) rfl #[.int .i64 3, .int .u32 a2, .int .u32 t127] rfl (by (try simp only [List.map_toArray, List.map_cons, List.map_nil]); first | done | rfl | (simp only [List.length_drop, List.length_take]; rfl)) ?_; (with_reducible refine (hatstandref9_Word.calls 3 a2 t127 t128 _ A9.out).mono ?_); rintro e w' ⟨rfl, ⟨nd, rfl⟩⟩; refine ⟨_, rfl, ?_⟩))
        go_ret2
        exact ⟨by first | rfl | (simp; done) | (simp [*]; done), by repeat (first | exact Drawn0.refl _ | apply Drawn0.step)⟩
      · replace c7 := Bool.eq_false_iff.mpr c7
        subst c7
        have H1 : (if a1 = true then (hatstandref9_Claim.j1 kj3 a0 false) else ((hatstandref9_State.f a0).bind fun t129 => (hatstandref9_Claim.j1 kj3 a0 (t129 == 1)))) = some (r1, r2) := by rw [if_neg (show ¬ (false = true) by decide)] at H; exact H
        clear H
        have H := H1
        clear H1
        have HC10 := Aside0.mk H
        clear H
        go_upto_region 3 with (fail)
        go_cut [24] (fun v24 wc => ∃ (kq : Nat) (x24_9 : Bool), v24 = .bool x24_9 ∧ Aside0 (hatstandref9_Claim.j1 kq a0 x24_9 = some (r1, r2)) ∧ Aside0 (kq ≤ kj3) ∧ Drawn0 w wc)
        case first =>
          have H := HC10.out
          clear HC10
          by_cases c11 : a1 = true
          · subst c11
            have H1 : (hatstandref9_Claim.j1 kj3 a0 false) = some (r1, r2) := by rw [if_pos rfl] at H; exact H
            clear H
            have H := H1
            clear H1
            have H' := Aside0.mk H
            clear H
            go_wp2
            go_meet
            case rel => exact ⟨_, (false), (by first | rfl | (simp; done) | (simp [*]; done)), H', ⟨by have := HJ3.out; first | omega | exact Nat.le_refl _⟩, by repeat (first | exact Drawn0.refl _ | apply Drawn0.step)⟩
          · replace c11 := Bool.eq_false_iff.mpr c11
            subst c11
            have H1 : ((hatstandref9_State.f a0).bind fun t129 => (hatstandref9_Claim.j1 kj3 a0 (t129 == 1))) = some (r1, r2) := by rw [if_neg (show ¬ (false = true) by decide)] at H; exact H
            clear H
            have H := H1
            clear H1
            replace H := Option.bind_eq_some_iff.mp H
            obtain ⟨t129, A120, H⟩ := H
            replace H : (hatstandref9_Claim.j1 kj3 a0 (t129 == 1)) = some (r1, r2) := H
            have A12 := Aside0.mk A120
            clear A120
            have H' := Aside0.mk H
            clear H
            go_wp2_with (first | (go_at_call 21; (with_reducible refine (hatstandref9_State.calls a0 t129 _ A12.out).mono ?_); rintro e w' ⟨rfl, ⟨nd, rfl⟩⟩))
            go_meet
            case rel => exact ⟨_, ((t129 == 1)), (by first | rfl | (simp; done) | (simp [*]; done)), H', ⟨by have := HJ3.out; first | omega | exact Nat.le_refl _⟩, by repeat (first | exact Drawn0.refl _ | apply Drawn0.step)⟩
        case rest =>
          clear HC10
          try clear c1
          try clear c2
          try clear p2
          try clear c3
          try clear c5
          try clear c7
          try clear c11
          try clear p2
          obtain ⟨kq, x24_9, rfl, HA, HJ9, ⟨mc9, rfl⟩⟩ := hcut
          cases kq with
          | zero => exact absurd HA.out (by simp [hatstandref9_Claim.j1])
          | succ kj9 =>
            have H := HA.out
            clear HA
            simp only [hatstandref9_Claim.j1] at H
            by_cases c13 : x24_9 = true
            · subst c13
              have H1 : ((hatstandref9_Index.f a0).bind fun t130 => ((hatstandref9_Stamp.f a0).bind fun t131 => ((hatstandref9_Word.f 3 t130 t131).bind fun t132 => (some (t132, true))))) = some (r1, r2) := by rw [if_pos rfl] at H; exact H
              clear H
              have H := H1
              clear H1
              replace H := Option.bind_eq_some_iff.mp H
              obtain ⟨t130, A140, H⟩ := H
              replace H : ((hatstandref9_Stamp.f a0).bind fun t131 => ((hatstandref9_Word.f 3 t130 t131).bind fun t132 => (some (t132, true)))) = some (r1, r2) := H
              have A14 := Aside0.mk A140
              clear A140
              replace H := Option.bind_eq_some_iff.mp H
              obtain ⟨t131, A150, H⟩ := H
              replace H : ((hatstandref9_Word.f 3 t130 t131).bind fun t132 => (some (t132, true))) = some (r1, r2) := H
              have A15 := Aside0.mk A150
              clear A150
              replace H := Option.bind_eq_some_iff.mp H
              obtain ⟨t132, A160, H⟩ := H
              replace H : (some (t132, true)) = some (r1, r2) := H
              have A16 := Aside0.mk A160
              clear A160
              simp only [Option.some.injEq, Prod.mk.injEq] at H
              obtain ⟨rfl, rfl⟩ := H
              go_wp2_with (first | ((with_reducible refine gate_callee (f := 22) rfl ?_); refine goesL_ (some 26) rfl rfl Try.func22 (by kernel_rfl) rfl #[.int .u64 a0] rfl (by (try simp only [List.map_toArray, List.map_cons, List.map_nil]); first | done | rfl | (simp only [List.length_drop, List.length_take]; rfl)) ?_; (with_reducible refine (hatstandref9_Index.calls a0 t130 _ A14.out).mono ?_); rintro e w' ⟨rfl, ⟨nd, rfl⟩⟩; refine ⟨_, rfl, ?_⟩) | ((with_reducible refine gate_callee (f := 23) rfl ?_); refine goesL_ (some 28) rfl rfl Try.func23 (by kernel_rfl) rfl #[.int .u64 a0] rfl (by (try simp only [List.map_toArray, List.map_cons, List.map_nil]); first | done | rfl | (simp only [List.length_drop, List.length_take]; rfl)) ?_; (with_reducible refine (hatstandref9_Stamp.calls a0 t131 _ A15.out).mono ?_); rintro e w' ⟨rfl, ⟨nd, rfl⟩⟩; refine ⟨_, rfl, ?_⟩) | ((with_reducible refine gate_callee (f := 20) rfl ?_); refine goesL_ (some 29) rfl rfl Try.func20 (by kernel_rfl) rfl #[.int .i64 3, .int .u32 t130, .int .u32 t131] rfl (by (try simp only [List.map_toArray, List.map_cons, List.map_nil]); first | done | rfl | (simp only [List.length_drop, List.length_take]; rfl)) ?_; (with_reducible refine (hatstandref9_Word.calls 3 t130 t131 t132 _ A16.out).mono ?_); rintro e w' ⟨rfl, ⟨nd, rfl⟩⟩; refine ⟨_, rfl, ?_⟩))
              go_ret2
              exact ⟨by first | rfl | (simp; done) | (simp [*]; done), by repeat (first | exact Drawn0.refl _ | apply Drawn0.step)⟩
            · replace c13 := Bool.eq_false_iff.mpr c13
              subst c13
              have H1 : (some (0, false)) = some (r1, r2) := by rw [if_neg (show ¬ (false = true) by decide)] at H; exact H
              clear H
              have H := H1
              clear H1
              simp only [Option.some.injEq, Prod.mk.injEq] at H
              obtain ⟨rfl, rfl⟩ := H
              go_wp2
              go_ret2
              exact ⟨by first | rfl | (simp; done) | (simp [*]; done), by repeat (first | exact Drawn0.refl _ | apply Drawn0.step)⟩

/-! ### hatstandref9_Meets: function 24 -/
def hatstandref9_Meets.f (a0 : Int) (a1 : Bool) : Option (Bool) := if a1 = true then ((hatstandref9_State.f a0).bind fun t133 => (if t133 = 2 then (some true) else (some false))) else ((hatstandref9_State.f a0).bind fun t134 => (some (t134 == 1)))
set_option maxHeartbeats 8000000 in
set_option maxRecDepth 100000 in
theorem hatstandref9_Meets.calls (a0 : Int) (a1 : Bool) (r : Bool) (w : World) (h : hatstandref9_Meets.f a0 a1 = some r) :
    Calls Try.prog 24 #[.int .u64 a0, .bool a1] w fun e w' => e = .returned (.bool r) ∧ Drawn0 w w' := by
  have H : (if a1 = true then ((hatstandref9_State.f a0).bind fun t133 => (if t133 = 2 then (some true) else (some false))) else ((hatstandref9_State.f a0).bind fun t134 => (some (t134 == 1)))) = some r := h
  clear h
  by_cases c3 : a1 = true
  · subst c3
    have H1 : ((hatstandref9_State.f a0).bind fun t133 => (if t133 = 2 then (some true) else (some false))) = some r := by rw [if_pos rfl] at H; exact H
    clear H
    have H := H1
    clear H1
    replace H := Option.bind_eq_some_iff.mp H
    obtain ⟨t133, A40, H⟩ := H
    replace H : (if t133 = 2 then (some true) else (some false)) = some r := H
    have A4 := Aside0.mk A40
    clear A40
    by_cases c5 : t133 = 2
    · rw [if_pos c5] at H
      have c5b0 : (t133 == 2) = true := beq_iff_eq.mpr c5
      have c5b1 : (t133 != 2) = false := bne_eq_false_iff_eq.mpr c5
      clear c5
      obtain rfl := Option.some.inj H
      go_enter Try.func24, Try.ntmps24
      go_wp2_with (first | (go_at_call 21; (with_reducible refine (hatstandref9_State.calls a0 t133 _ A4.out).mono ?_); rintro e w' ⟨rfl, ⟨nd, rfl⟩⟩))
      go_ret
      exact ⟨by first | rfl | (simp; done) | (simp [*]; done), by repeat (first | exact Drawn0.refl _ | apply Drawn0.step)⟩
    · rw [if_neg c5] at H
      have c5b0 : (t133 == 2) = false := beq_eq_false_iff_ne.mpr c5
      have c5b1 : (t133 != 2) = true := bne_iff_ne.mpr c5
      obtain rfl := Option.some.inj H
      go_enter Try.func24, Try.ntmps24
      go_wp2_with (first | (go_at_call 21; (with_reducible refine (hatstandref9_State.calls a0 t133 _ A4.out).mono ?_); rintro e w' ⟨rfl, ⟨nd, rfl⟩⟩))
      go_ret
      exact ⟨by first | rfl | (simp; done) | (simp [*]; done), by repeat (first | exact Drawn0.refl _ | apply Drawn0.step)⟩
  · replace c3 := Bool.eq_false_iff.mpr c3
    subst c3
    have H1 : ((hatstandref9_State.f a0).bind fun t134 => (some (t134 == 1))) = some r := by rw [if_neg (show ¬ (false = true) by decide)] at H; exact H
    clear H
    have H := H1
    clear H1
    replace H := Option.bind_eq_some_iff.mp H
    obtain ⟨t134, A60, H⟩ := H
    replace H : (some (t134 == 1)) = some r := H
    have A6 := Aside0.mk A60
    clear A60
    obtain rfl := Option.some.inj H
    go_enter Try.func24, Try.ntmps24
    go_wp2_with (first | (go_at_call 21; (with_reducible refine (hatstandref9_State.calls a0 t134 _ A6.out).mono ?_); rintro e w' ⟨rfl, ⟨nd, rfl⟩⟩))
    go_ret
    exact ⟨by first | rfl | (simp; done) | (simp [*]; done), by repeat (first | exact Drawn0.refl _ | apply Drawn0.step)⟩

/-! ### slot_Clear: function 25 -/
def slot_Clear.f (a0 : Int) : Option (Int) := (slot_Stamp.f a0).bind fun t135 => ((slot_Word.f 0 0 ((t135 + 1) % 4294967296)).bind fun t136 => (some t136))
set_option maxHeartbeats 8000000 in
set_option maxRecDepth 100000 in
theorem slot_Clear.calls (a0 : Int) (r : Int) (w : World) (h : slot_Clear.f a0 = some r) :
    Calls Try.prog 25 #[.int .u64 a0] w fun e w' => e = .returned (.int .u64 r) ∧ Drawn0 w w' := by
  have H : ((slot_Stamp.f a0).bind fun t135 => ((slot_Word.f 0 0 ((t135 + 1) % 4294967296)).bind fun t136 => (some t136))) = some r := h
  clear h
  replace H := Option.bind_eq_some_iff.mp H
  obtain ⟨t135, A20, H⟩ := H
  replace H : ((slot_Word.f 0 0 ((t135 + 1) % 4294967296)).bind fun t136 => (some t136)) = some r := H
  have A2 := Aside0.mk A20
  clear A20
  replace H := Option.bind_eq_some_iff.mp H
  obtain ⟨t136, A30, H⟩ := H
  replace H : (some t136) = some r := H
  have A3 := Aside0.mk A30
  clear A30
  obtain rfl := Option.some.inj H
  go_enter Try.func25, Try.ntmps25
  go_wp2_with (first | ((with_reducible refine gate_callee (f := 14) rfl ?_); refine goesL_ (some 4) rfl rfl Try.func14 (by kernel_rfl) rfl #[.int .u64 a0] rfl (by (try simp only [List.map_toArray, List.map_cons, List.map_nil]); first | done | rfl | (simp only [List.length_drop, List.length_take]; rfl)) ?_; (with_reducible refine (slot_Stamp.calls a0 t135 _ A2.out).mono ?_); rintro e w' ⟨rfl, ⟨nd, rfl⟩⟩; refine ⟨_, rfl, ?_⟩) | ((with_reducible refine gate_callee (f := 11) rfl ?_); refine goesL_ (some 6) rfl rfl Try.func11 (by kernel_rfl) rfl #[.int .i64 0, .int .u32 0, .int .u32 ((t135 + 1) % 4294967296)] rfl (by (try simp only [List.map_toArray, List.map_cons, List.map_nil]); first | done | rfl | (simp only [List.length_drop, List.length_take]; rfl)) ?_; (with_reducible refine (slot_Word.calls 0 0 ((t135 + 1) % 4294967296) t136 _ A3.out).mono ?_); rintro e w' ⟨rfl, ⟨nd, rfl⟩⟩; refine ⟨_, rfl, ?_⟩))
  go_ret
  exact ⟨by first | rfl | (simp; done) | (simp [*]; done), by repeat (first | exact Drawn0.refl _ | apply Drawn0.step)⟩

/-! ### hatstandref9_Clear: function 26 -/
def hatstandref9_Clear.f (a0 : Int) : Option (Int) := (hatstandref9_Stamp.f a0).bind fun t137 => ((hatstandref9_Word.f 0 0 ((Int.tmod (IntKind.u64.wrap ((IntKind.u64.wrap (t137)) + 1)) 4294967296) % 4294967296)).bind fun t138 => (some t138))
set_option maxHeartbeats 8000000 in
set_option maxRecDepth 100000 in
theorem hatstandref9_Clear.calls (a0 : Int) (r : Int) (w : World) (h : hatstandref9_Clear.f a0 = some r) :
    Calls Try.prog 26 #[.int .u64 a0] w fun e w' => e = .returned (.int .u64 r) ∧ Drawn0 w w' := by
  have H : ((hatstandref9_Stamp.f a0).bind fun t137 => ((hatstandref9_Word.f 0 0 ((Int.tmod (IntKind.u64.wrap ((IntKind.u64.wrap (t137)) + 1)) 4294967296) % 4294967296)).bind fun t138 => (some t138))) = some r := h
  clear h
  replace H := Option.bind_eq_some_iff.mp H
  obtain ⟨t137, A20, H⟩ := H
  replace H : ((hatstandref9_Word.f 0 0 ((Int.tmod (IntKind.u64.wrap ((IntKind.u64.wrap (t137)) + 1)) 4294967296) % 4294967296)).bind fun t138 => (some t138)) = some r := H
  have A2 := Aside0.mk A20
  clear A20
  replace H := Option.bind_eq_some_iff.mp H
  obtain ⟨t138, A30, H⟩ := H
  replace H : (some t138) = some r := H
  have A3 := Aside0.mk A30
  clear A30
  obtain rfl := Option.some.inj H
  go_enter Try.func26, Try.ntmps26
  go_wp2_with (first | ((with_reducible refine gate_callee (f := 23) rfl ?_); refine goesL_ (some 4) rfl rfl Try.func23 (by kernel_rfl) rfl #[.int .u64 a0] rfl (by (try simp only [List.map_toArray, List.map_cons, List.map_nil]); first | done | rfl | (simp only [List.length_drop, List.length_take]; rfl)) ?_; (with_reducible refine (hatstandref9_Stamp.calls a0 t137 _ A2.out).mono ?_); rintro e w' ⟨rfl, ⟨nd, rfl⟩⟩; refine ⟨_, rfl, ?_⟩) | ((with_reducible refine gate_callee (f := 20) rfl ?_); refine goesL_ (some 9) rfl rfl Try.func20 (by kernel_rfl) rfl #[.int .i64 0, .int .u32 0, .int .u32 ((Int.tmod (IntKind.u64.wrap ((IntKind.u64.wrap (t137)) + 1)) 4294967296) % 4294967296)] rfl (by (try simp only [List.map_toArray, List.map_cons, List.map_nil]); first | done | rfl | (simp only [List.length_drop, List.length_take]; rfl)) ?_; (with_reducible refine (hatstandref9_Word.calls 0 0 ((Int.tmod (IntKind.u64.wrap ((IntKind.u64.wrap (t137)) + 1)) 4294967296) % 4294967296) t138 _ A3.out).mono ?_); rintro e w' ⟨rfl, ⟨nd, rfl⟩⟩; refine ⟨_, rfl, ?_⟩))
  go_ret
  exact ⟨by first | rfl | (simp; done) | (simp [*]; done), by repeat (first | exact Drawn0.refl _ | apply Drawn0.step)⟩

end Go.Proofs.Ytijkmjhfhnhjeaa.P
