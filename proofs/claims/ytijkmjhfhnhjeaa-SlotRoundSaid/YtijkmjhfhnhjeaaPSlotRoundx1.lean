-- PRINTED BY print.sh 35421559b90ae4d0a3588c463048766b98c2df88dd9212a6774a882060cdf62d: not written by this session
import Derived.Test.YtijkmjhfhnhjeaaPSlotRoundx0
namespace Go.Proofs.Ytijkmjhfhnhjeaa.PSlotRound
open Go.RowKit Go.Proofs.YtijkmjhfhnhjeaaW.PrintWords Go.Proofs.YtijkmjhfhnhjeaaW.PrintLast Go.Proofs.YtijkmjhfhnhjeaaW.PrintMore
attribute [local go_sem] max2_int min2_int max_two min_two max_three min_three max_four min_four   -- for this text's walks alone
set_option linter.unusedVariables false
set_option linter.unusedSimpArgs false

/-! ### slot_Word: function 11 -/
def slot_Word.f (a0 : Int) (a1 : Int) (a2 : Int) : Option (Int) := some (Go.bits .or .u64 (Go.bits .or .u64 (Go.bits .and .u64 (IntKind.u64.wrap (a0)) 3) (IntKind.u64.wrap ((Go.bits .and .u64 (IntKind.u64.wrap (a1)) 1073741823) * 4))) (IntKind.u64.wrap ((IntKind.u64.wrap (a2)) * 4294967296)))
set_option maxHeartbeats 8000000 in
set_option maxRecDepth 100000 in
theorem slot_Word.calls (a0 : Int) (a1 : Int) (a2 : Int) (r : Int) (w : World) (h : slot_Word.f a0 a1 a2 = some r) :
    Calls Try.prog 11 #[.int .i64 a0, .int .u32 a1, .int .u32 a2] w fun e w' => e = .returned (.int .u64 r) ∧ Drawn0 w w' := by
  have H : (some (Go.bits .or .u64 (Go.bits .or .u64 (Go.bits .and .u64 (IntKind.u64.wrap (a0)) 3) (IntKind.u64.wrap ((Go.bits .and .u64 (IntKind.u64.wrap (a1)) 1073741823) * 4))) (IntKind.u64.wrap ((IntKind.u64.wrap (a2)) * 4294967296)))) = some r := h
  clear h
  obtain rfl := Option.some.inj H
  go_enter Try.func11, Try.ntmps11
  go_wp2
  go_ret
  exact ⟨by first | rfl | (simp; done) | (simp [*]; done), by repeat (first | exact Drawn0.refl _ | apply Drawn0.step)⟩

/-! ### slot_State: function 12 -/
def slot_State.f (a0 : Int) : Option (Int) := some (wrap64 (Go.bits .and .u64 a0 3))
set_option maxHeartbeats 8000000 in
set_option maxRecDepth 100000 in
theorem slot_State.calls (a0 : Int) (r : Int) (w : World) (h : slot_State.f a0 = some r) :
    Calls Try.prog 12 #[.int .u64 a0] w fun e w' => e = .returned (.int .i64 r) ∧ Drawn0 w w' := by
  have H : (some (wrap64 (Go.bits .and .u64 a0 3))) = some r := h
  clear h
  obtain rfl := Option.some.inj H
  go_enter Try.func12, Try.ntmps12
  go_wp2
  go_ret
  exact ⟨by first | rfl | (simp; done) | (simp [*]; done), by repeat (first | exact Drawn0.refl _ | apply Drawn0.step)⟩

/-! ### slot_Index: function 13 -/
def slot_Index.f (a0 : Int) : Option (Int) := some ((Go.bits .and .u64 (a0 / 4) 1073741823) % 4294967296)
set_option maxHeartbeats 8000000 in
set_option maxRecDepth 100000 in
theorem slot_Index.calls (a0 : Int) (r : Int) (w : World) (h : slot_Index.f a0 = some r) :
    Calls Try.prog 13 #[.int .u64 a0] w fun e w' => e = .returned (.int .u32 r) ∧ Drawn0 w w' := by
  have H : (some ((Go.bits .and .u64 (a0 / 4) 1073741823) % 4294967296)) = some r := h
  clear h
  obtain rfl := Option.some.inj H
  go_enter Try.func13, Try.ntmps13
  go_wp2
  go_ret
  exact ⟨by first | rfl | (simp; done) | (simp [*]; done), by repeat (first | exact Drawn0.refl _ | apply Drawn0.step)⟩

/-! ### slot_Stamp: function 14 -/
def slot_Stamp.f (a0 : Int) : Option (Int) := some ((a0 / 4294967296) % 4294967296)
set_option maxHeartbeats 8000000 in
set_option maxRecDepth 100000 in
theorem slot_Stamp.calls (a0 : Int) (r : Int) (w : World) (h : slot_Stamp.f a0 = some r) :
    Calls Try.prog 14 #[.int .u64 a0] w fun e w' => e = .returned (.int .u32 r) ∧ Drawn0 w w' := by
  have H : (some ((a0 / 4294967296) % 4294967296)) = some r := h
  clear h
  obtain rfl := Option.some.inj H
  go_enter Try.func14, Try.ntmps14
  go_wp2
  go_ret
  exact ⟨by first | rfl | (simp; done) | (simp [*]; done), by repeat (first | exact Drawn0.refl _ | apply Drawn0.step)⟩

/-! ### slot_waits: function 27 -/
def slot_waits.f (a0 : Bool) : Option (Int) := if a0 = true then (some 1) else (some 2)
set_option maxHeartbeats 8000000 in
set_option maxRecDepth 100000 in
theorem slot_waits.calls (a0 : Bool) (r : Int) (w : World) (h : slot_waits.f a0 = some r) :
    Calls Try.prog 27 #[.bool a0] w fun e w' => e = .returned (.int .i64 r) ∧ Drawn0 w w' := by
  have H : (if a0 = true then (some 1) else (some 2)) = some r := h
  clear h
  by_cases c2 : a0 = true
  · subst c2
    have H1 : (some 1) = some r := by rw [if_pos rfl] at H; exact H
    clear H
    have H := H1
    clear H1
    obtain rfl := Option.some.inj H
    go_enter Try.func27, Try.ntmps27
    go_wp2
    go_ret
    exact ⟨by first | rfl | (simp; done) | (simp [*]; done), by repeat (first | exact Drawn0.refl _ | apply Drawn0.step)⟩
  · replace c2 := Bool.eq_false_iff.mpr c2
    subst c2
    have H1 : (some 2) = some r := by rw [if_neg (show ¬ (false = true) by decide)] at H; exact H
    clear H
    have H := H1
    clear H1
    obtain rfl := Option.some.inj H
    go_enter Try.func27, Try.ntmps27
    go_wp2
    go_ret
    exact ⟨by first | rfl | (simp; done) | (simp [*]; done), by repeat (first | exact Drawn0.refl _ | apply Drawn0.step)⟩

/-! ### slot_Meets: function 17 -/
def slot_Meets.f (a0 : Int) (a1 : Bool) : Option (Bool) := (slot_State.f a0).bind fun t101 => ((slot_waits.f (!a1)).bind fun t102 => (some (t101 == t102)))
set_option maxHeartbeats 8000000 in
set_option maxRecDepth 100000 in
theorem slot_Meets.calls (a0 : Int) (a1 : Bool) (r : Bool) (w : World) (h : slot_Meets.f a0 a1 = some r) :
    Calls Try.prog 17 #[.int .u64 a0, .bool a1] w fun e w' => e = .returned (.bool r) ∧ Drawn0 w w' := by
  have H : ((slot_State.f a0).bind fun t101 => ((slot_waits.f (!a1)).bind fun t102 => (some (t101 == t102)))) = some r := h
  clear h
  replace H := Option.bind_eq_some_iff.mp H
  obtain ⟨t101, A30, H⟩ := H
  replace H : ((slot_waits.f (!a1)).bind fun t102 => (some (t101 == t102))) = some r := H
  have A3 := Aside0.mk A30
  clear A30
  replace H := Option.bind_eq_some_iff.mp H
  obtain ⟨t102, A40, H⟩ := H
  replace H : (some (t101 == t102)) = some r := H
  have A4 := Aside0.mk A40
  clear A40
  obtain rfl := Option.some.inj H
  go_enter Try.func17, Try.ntmps17
  go_wp2_with (first | ((with_reducible refine gate_callee (f := 12) rfl ?_); refine goesL_ (some 6) rfl rfl Try.func12 (by kernel_rfl) rfl #[.int .u64 a0] rfl (by (try simp only [List.map_toArray, List.map_cons, List.map_nil]); first | done | rfl | (simp only [List.length_drop, List.length_take]; rfl)) ?_; (with_reducible refine (slot_State.calls a0 t101 _ A3.out).mono ?_); rintro e w' ⟨rfl, ⟨nd, rfl⟩⟩; refine ⟨_, rfl, ?_⟩) | ((with_reducible refine gate_callee (f := 27) rfl ?_); refine goesL_ (some 9) rfl rfl Try.func27 (by kernel_rfl) rfl #[.bool (!a1)] rfl (by (try simp only [List.map_toArray, List.map_cons, List.map_nil]); first | done | rfl | (simp only [List.length_drop, List.length_take]; rfl)) ?_; (with_reducible refine (slot_waits.calls (!a1) t102 _ A4.out).mono ?_); rintro e w' ⟨rfl, ⟨nd, rfl⟩⟩; refine ⟨_, rfl, ?_⟩))
  go_ret
  exact ⟨by first | rfl | (simp; done) | (simp [*]; done), by repeat (first | exact Drawn0.refl _ | apply Drawn0.step)⟩

/-! ### slot_Claim: function 16 -/
def slot_Claim.f (a0 : Int) (a1 : Bool) (a2 : Int) : Option (Int × Bool) := (slot_Meets.f a0 a1).bind fun t103 => (if t103 = true then (if a1 = true then ((slot_Stamp.f a0).bind fun t104 => ((slot_Word.f 3 a2 t104).bind fun t105 => (some (t105, true)))) else ((slot_Index.f a0).bind fun t106 => ((slot_Stamp.f a0).bind fun t107 => ((slot_Word.f 3 t106 t107).bind fun t108 => (some (t108, true)))))) else (some (0, false)))
set_option maxHeartbeats 8000000 in
set_option maxRecDepth 100000 in
theorem slot_Claim.calls (a0 : Int) (a1 : Bool) (a2 : Int) (r1 : Int) (r2 : Bool) (w : World) (h : slot_Claim.f a0 a1 a2 = some (r1, r2)) :
    Calls Try.prog 16 #[.int .u64 a0, .bool a1, .int .u32 a2] w fun e w' => e = .returned (.tuple #[.int .u64 r1, .bool r2]) ∧ Drawn0 w w' := by
  have H : ((slot_Meets.f a0 a1).bind fun t103 => (if t103 = true then (if a1 = true then ((slot_Stamp.f a0).bind fun t104 => ((slot_Word.f 3 a2 t104).bind fun t105 => (some (t105, true)))) else ((slot_Index.f a0).bind fun t106 => ((slot_Stamp.f a0).bind fun t107 => ((slot_Word.f 3 t106 t107).bind fun t108 => (some (t108, true)))))) else (some (0, false)))) = some (r1, r2) := h
  clear h
  replace H := Option.bind_eq_some_iff.mp H
  obtain ⟨t103, A40, H⟩ := H
  replace H : (if t103 = true then (if a1 = true then ((slot_Stamp.f a0).bind fun t104 => ((slot_Word.f 3 a2 t104).bind fun t105 => (some (t105, true)))) else ((slot_Index.f a0).bind fun t106 => ((slot_Stamp.f a0).bind fun t107 => ((slot_Word.f 3 t106 t107).bind fun t108 => (some (t108, true)))))) else (some (0, false))) = some (r1, r2) := H
  have A4 := Aside0.mk A40
  clear A40
  by_cases c5 : t103 = true
  · subst c5
    have H1 : (if a1 = true then ((slot_Stamp.f a0).bind fun t104 => ((slot_Word.f 3 a2 t104).bind fun t105 => (some (t105, true)))) else ((slot_Index.f a0).bind fun t106 => ((slot_Stamp.f a0).bind fun t107 => ((slot_Word.f 3 t106 t107).bind fun t108 => (some (t108, true)))))) = some (r1, r2) := by rw [if_pos rfl] at H; exact H
    clear H
    have H := H1
    clear H1
    by_cases c6 : a1 = true
    · subst c6
      have H1 : ((slot_Stamp.f a0).bind fun t104 => ((slot_Word.f 3 a2 t104).bind fun t105 => (some (t105, true)))) = some (r1, r2) := by rw [if_pos rfl] at H; exact H
      clear H
      have H := H1
      clear H1
      replace H := Option.bind_eq_some_iff.mp H
      obtain ⟨t104, A70, H⟩ := H
      replace H : ((slot_Word.f 3 a2 t104).bind fun t105 => (some (t105, true))) = some (r1, r2) := H
      have A7 := Aside0.mk A70
      clear A70
      replace H := Option.bind_eq_some_iff.mp H
      obtain ⟨t105, A80, H⟩ := H
      replace H : (some (t105, true)) = some (r1, r2) := H
      have A8 := Aside0.mk A80
      clear A80
      simp only [Option.some.injEq, Prod.mk.injEq] at H
      obtain ⟨rfl, rfl⟩ := H
      go_enter Try.func16, Try.ntmps16
      go_wp2_with (first | ((with_reducible refine gate_callee (f := 17) rfl ?_); refine goesL_ (some 10) rfl rfl Try.func17 (by kernel_rfl) rfl #[.int .u64 a0, .bool true] rfl (by (try simp only [List.map_toArray, List.map_cons, List.map_nil]); first | done | rfl | (simp only [List.length_drop, List.length_take]; rfl)) ?_; (with_reducible refine (slot_Meets.calls a0 true true _ A4.out).mono ?_); rintro e w' ⟨rfl, ⟨nd, rfl⟩⟩; refine ⟨_, rfl, ?_⟩) | ((with_reducible refine gate_callee (f := 14) rfl ?_); refine goesL_ (some 18) rfl rfl Try.func14 (by kernel_rfl) rfl #[.int .u64 a0] rfl (by (try simp only [List.map_toArray, List.map_cons, List.map_nil]); first | done | rfl | (simp only [List.length_drop, List.length_take]; rfl)) ?_; (with_reducible refine (slot_Stamp.calls a0 t104 _ A7.out).mono ?_); rintro e w' ⟨rfl, ⟨nd, rfl⟩⟩; refine ⟨_, rfl, ?_⟩) | ((with_reducible refine gate_callee (f := 11) rfl ?_); refine goesL_ (some 19) rfl rfl Try.func11 (by kernel_rfl) rfl #[.int .i64 3, .int .u32 a2, .int .u32 t104] rfl (by (try simp only [List.map_toArray, List.map_cons, List.map_nil]); first | done | rfl | (simp only [List.length_drop, List.length_take]; rfl)) ?_; (with_reducible refine (slot_Word.calls 3 a2 t104 t105 _ A8.out).mono ?_); rintro e w' ⟨rfl, ⟨nd, rfl⟩⟩; refine ⟨_, rfl, ?_⟩))
      go_ret2
      exact ⟨by first | rfl | (simp; done) | (simp [*]; done), by repeat (first | exact Drawn0.refl _ | apply Drawn0.step)⟩
    · replace c6 := Bool.eq_false_iff.mpr c6
      subst c6
      have H1 : ((slot_Index.f a0).bind fun t106 => ((slot_Stamp.f a0).bind fun t107 => ((slot_Word.f 3 t106 t107).bind fun t108 => (some (t108, true))))) = some (r1, r2) := by rw [if_neg (show ¬ (false = true) by decide)] at H; exact H
      clear H
      have H := H1
      clear H1
      replace H := Option.bind_eq_some_iff.mp H
      obtain ⟨t106, A90, H⟩ := H
      replace H : ((slot_Stamp.f a0).bind fun t107 => ((slot_Word.f 3 t106 t107).bind fun t108 => (some (t108, true)))) = some (r1, r2) := H
      have A9 := Aside0.mk A90
      clear A90
      replace H := Option.bind_eq_some_iff.mp H
      obtain ⟨t107, A100, H⟩ := H
      replace H : ((slot_Word.f 3 t106 t107).bind fun t108 => (some (t108, true))) = some (r1, r2) := H
      have A10 := Aside0.mk A100
      clear A100
      replace H := Option.bind_eq_some_iff.mp H
      obtain ⟨t108, A110, H⟩ := H
      replace H : (some (t108, true)) = some (r1, r2) := H
      have A11 := Aside0.mk A110
      clear A110
      simp only [Option.some.injEq, Prod.mk.injEq] at H
      obtain ⟨rfl, rfl⟩ := H
      go_enter Try.func16, Try.ntmps16
      go_wp2_with (first | ((with_reducible refine gate_callee (f := 17) rfl ?_); refine goesL_ (some 10) rfl rfl Try.func17 (by kernel_rfl) rfl #[.int .u64 a0, .bool false] rfl (by (try simp only [List.map_toArray, List.map_cons, List.map_nil]); first | done | rfl | (simp only [List.length_drop, List.length_take]; rfl)) ?_; (with_reducible refine (slot_Meets.calls a0 false true _ A4.out).mono ?_); rintro e w' ⟨rfl, ⟨nd, rfl⟩⟩; refine ⟨_, rfl, ?_⟩) | ((with_reducible refine gate_callee (f := 13) rfl ?_); refine goesL_ (some 15) rfl rfl Try.func13 (by kernel_rfl) rfl #[.int .u64 a0] rfl (by (try simp only [List.map_toArray, List.map_cons, List.map_nil]); first | done | rfl | (simp only [List.length_drop, List.length_take]; rfl)) ?_; (with_reducible refine (slot_Index.calls a0 t106 _ A9.out).mono ?_); rintro e w' ⟨rfl, ⟨nd, rfl⟩⟩; refine ⟨_, rfl, ?_⟩) | ((with_reducible refine gate_callee (f := 14) rfl ?_); refine goesL_ (some 18) rfl rfl Try.func14 (by kernel_rfl) rfl #[.int .u64 a0] rfl (by (try simp only [List.map_toArray, List.map_cons, List.map_nil]); first | done | rfl | (simp only [List.length_drop, List.length_take]; rfl)) ?_; (with_reducible refine (slot_Stamp.calls a0 t107 _ A10.out).mono ?_); rintro e w' ⟨rfl, ⟨nd, rfl⟩⟩; refine ⟨_, rfl, ?_⟩) | ((with_reducible refine gate_callee (f := 11) rfl ?_); refine goesL_ (some 19) rfl rfl Try.func11 (by kernel_rfl) rfl #[.int .i64 3, .int .u32 t106, .int .u32 t107] rfl (by (try simp only [List.map_toArray, List.map_cons, List.map_nil]); first | done | rfl | (simp only [List.length_drop, List.length_take]; rfl)) ?_; (with_reducible refine (slot_Word.calls 3 t106 t107 t108 _ A11.out).mono ?_); rintro e w' ⟨rfl, ⟨nd, rfl⟩⟩; refine ⟨_, rfl, ?_⟩))
      go_ret2
      exact ⟨by first | rfl | (simp; done) | (simp [*]; done), by repeat (first | exact Drawn0.refl _ | apply Drawn0.step)⟩
  · replace c5 := Bool.eq_false_iff.mpr c5
    subst c5
    have H1 : (some (0, false)) = some (r1, r2) := by rw [if_neg (show ¬ (false = true) by decide)] at H; exact H
    clear H
    have H := H1
    clear H1
    simp only [Option.some.injEq, Prod.mk.injEq] at H
    obtain ⟨rfl, rfl⟩ := H
    go_enter Try.func16, Try.ntmps16
    go_wp2_with (first | ((with_reducible refine gate_callee (f := 17) rfl ?_); refine goesL_ (some 10) rfl rfl Try.func17 (by kernel_rfl) rfl #[.int .u64 a0, .bool a1] rfl (by (try simp only [List.map_toArray, List.map_cons, List.map_nil]); first | done | rfl | (simp only [List.length_drop, List.length_take]; rfl)) ?_; (with_reducible refine (slot_Meets.calls a0 a1 false _ A4.out).mono ?_); rintro e w' ⟨rfl, ⟨nd, rfl⟩⟩; refine ⟨_, rfl, ?_⟩))
    go_ret2
    exact ⟨by first | rfl | (simp; done) | (simp [*]; done), by repeat (first | exact Drawn0.refl _ | apply Drawn0.step)⟩

/-! ### hatstandlaw9_shown: function 9 -/
def hatstandlaw9_shown.f  : Option (Bool) := (slot_Word.f 1 5 1).bind fun t109 => ((slot_Claim.f t109 false 9).bind fun bt110 => (if t109 = 4294967317 then (if bt110.2 = true then ((slot_Word.f 3 5 1).bind fun t112 => (if bt110.1 = t112 then ((slot_State.f bt110.1).bind fun t113 => (some (t113 == 3))) else (some false))) else (some false)) else (some false)))
set_option maxHeartbeats 8000000 in
set_option maxRecDepth 100000 in
theorem hatstandlaw9_shown.calls  (r : Bool) (w : World) (h : hatstandlaw9_shown.f  = some r) :
    Calls Try.prog 9 #[] w fun e w' => e = .returned (.bool r) ∧ Drawn0 w w' := by
  have H : ((slot_Word.f 1 5 1).bind fun t109 => ((slot_Claim.f t109 false 9).bind fun bt110 => (if t109 = 4294967317 then (if bt110.2 = true then ((slot_Word.f 3 5 1).bind fun t112 => (if bt110.1 = t112 then ((slot_State.f bt110.1).bind fun t113 => (some (t113 == 3))) else (some false))) else (some false)) else (some false)))) = some r := h
  clear h
  replace H := Option.bind_eq_some_iff.mp H
  obtain ⟨t109, A10, H⟩ := H
  replace H : ((slot_Claim.f t109 false 9).bind fun bt110 => (if t109 = 4294967317 then (if bt110.2 = true then ((slot_Word.f 3 5 1).bind fun t112 => (if bt110.1 = t112 then ((slot_State.f bt110.1).bind fun t113 => (some (t113 == 3))) else (some false))) else (some false)) else (some false))) = some r := H
  have A1 := Aside0.mk A10
  clear A10
  replace H := Option.bind_eq_some_iff.mp H
  obtain ⟨⟨t110, t111⟩, A20, H⟩ := H
  replace H : (if t109 = 4294967317 then (if t111 = true then ((slot_Word.f 3 5 1).bind fun t112 => (if t110 = t112 then ((slot_State.f t110).bind fun t113 => (some (t113 == 3))) else (some false))) else (some false)) else (some false)) = some r := H
  have A2 := Aside0.mk A20
  clear A20
  by_cases c3 : t109 = 4294967317
  · rw [if_pos c3] at H
    have c3b0 : (t109 == 4294967317) = true := beq_iff_eq.mpr c3
    have c3b1 : (t109 != 4294967317) = false := bne_eq_false_iff_eq.mpr c3
    clear c3
    by_cases c4 : t111 = true
    · subst c4
      have H1 : ((slot_Word.f 3 5 1).bind fun t112 => (if t110 = t112 then ((slot_State.f t110).bind fun t113 => (some (t113 == 3))) else (some false))) = some r := by rw [if_pos rfl] at H; exact H
      clear H
      have H := H1
      clear H1
      replace H := Option.bind_eq_some_iff.mp H
      obtain ⟨t112, A50, H⟩ := H
      replace H : (if t110 = t112 then ((slot_State.f t110).bind fun t113 => (some (t113 == 3))) else (some false)) = some r := H
      have A5 := Aside0.mk A50
      clear A50
      by_cases c6 : t110 = t112
      · rw [if_pos c6] at H
        have c6b0 : (t110 == t112) = true := beq_iff_eq.mpr c6
        have c6b1 : (t110 != t112) = false := bne_eq_false_iff_eq.mpr c6
        clear c6
        replace H := Option.bind_eq_some_iff.mp H
        obtain ⟨t113, A70, H⟩ := H
        replace H : (some (t113 == 3)) = some r := H
        have A7 := Aside0.mk A70
        clear A70
        obtain rfl := Option.some.inj H
        go_enter Try.func9, Try.ntmps9
        go_wp2_with (first | ((with_reducible refine gate_callee (f := 11) rfl ?_); refine goesL_ (some 4) rfl rfl Try.func11 (by kernel_rfl) rfl #[.int .i64 1, .int .u32 5, .int .u32 1] rfl (by (try simp only [List.map_toArray, List.map_cons, List.map_nil]); first | done | rfl | (simp only [List.length_drop, List.length_take]; rfl)) ?_; (with_reducible refine (slot_Word.calls 1 5 1 t109 _ A1.out).mono ?_); rintro e w' ⟨rfl, ⟨nd, rfl⟩⟩; refine ⟨_, rfl, ?_⟩) | ((with_reducible refine gate_callee (f := 16) rfl ?_); refine goesL_ (some 7) rfl rfl Try.func16 (by kernel_rfl) rfl #[.int .u64 t109, .bool false, .int .u32 9] rfl (by (try simp only [List.map_toArray, List.map_cons, List.map_nil]); first | done | rfl | (simp only [List.length_drop, List.length_take]; rfl)) ?_; (with_reducible refine (slot_Claim.calls t109 false 9 t110 true _ A2.out).mono ?_); rintro e w' ⟨rfl, ⟨nd, rfl⟩⟩; refine ⟨_, rfl, ?_⟩) | (go_at_call 11; (with_reducible refine (slot_Word.calls 3 5 1 t112 _ A5.out).mono ?_); rintro e w' ⟨rfl, ⟨nd, rfl⟩⟩) | (go_at_call 12; (with_reducible refine (slot_State.calls t110 t113 _ A7.out).mono ?_); rintro e w' ⟨rfl, ⟨nd, rfl⟩⟩))
        go_ret
        exact ⟨by first | rfl | (simp; done) | (simp [*]; done), by repeat (first | exact Drawn0.refl _ | apply Drawn0.step)⟩
      · rw [if_neg c6] at H
        have c6b0 : (t110 == t112) = false := beq_eq_false_iff_ne.mpr c6
        have c6b1 : (t110 != t112) = true := bne_iff_ne.mpr c6
        obtain rfl := Option.some.inj H
        go_enter Try.func9, Try.ntmps9
        go_wp2_with (first | ((with_reducible refine gate_callee (f := 11) rfl ?_); refine goesL_ (some 4) rfl rfl Try.func11 (by kernel_rfl) rfl #[.int .i64 1, .int .u32 5, .int .u32 1] rfl (by (try simp only [List.map_toArray, List.map_cons, List.map_nil]); first | done | rfl | (simp only [List.length_drop, List.length_take]; rfl)) ?_; (with_reducible refine (slot_Word.calls 1 5 1 t109 _ A1.out).mono ?_); rintro e w' ⟨rfl, ⟨nd, rfl⟩⟩; refine ⟨_, rfl, ?_⟩) | ((with_reducible refine gate_callee (f := 16) rfl ?_); refine goesL_ (some 7) rfl rfl Try.func16 (by kernel_rfl) rfl #[.int .u64 t109, .bool false, .int .u32 9] rfl (by (try simp only [List.map_toArray, List.map_cons, List.map_nil]); first | done | rfl | (simp only [List.length_drop, List.length_take]; rfl)) ?_; (with_reducible refine (slot_Claim.calls t109 false 9 t110 true _ A2.out).mono ?_); rintro e w' ⟨rfl, ⟨nd, rfl⟩⟩; refine ⟨_, rfl, ?_⟩) | (go_at_call 11; (with_reducible refine (slot_Word.calls 3 5 1 t112 _ A5.out).mono ?_); rintro e w' ⟨rfl, ⟨nd, rfl⟩⟩))
        go_ret
        exact ⟨by first | rfl | (simp; done) | (simp [*]; done), by repeat (first | exact Drawn0.refl _ | apply Drawn0.step)⟩
    · replace c4 := Bool.eq_false_iff.mpr c4
      subst c4
      have H1 : (some false) = some r := by rw [if_neg (show ¬ (false = true) by decide)] at H; exact H
      clear H
      have H := H1
      clear H1
      obtain rfl := Option.some.inj H
      go_enter Try.func9, Try.ntmps9
      go_wp2_with (first | ((with_reducible refine gate_callee (f := 11) rfl ?_); refine goesL_ (some 4) rfl rfl Try.func11 (by kernel_rfl) rfl #[.int .i64 1, .int .u32 5, .int .u32 1] rfl (by (try simp only [List.map_toArray, List.map_cons, List.map_nil]); first | done | rfl | (simp only [List.length_drop, List.length_take]; rfl)) ?_; (with_reducible refine (slot_Word.calls 1 5 1 t109 _ A1.out).mono ?_); rintro e w' ⟨rfl, ⟨nd, rfl⟩⟩; refine ⟨_, rfl, ?_⟩) | ((with_reducible refine gate_callee (f := 16) rfl ?_); refine goesL_ (some 7) rfl rfl Try.func16 (by kernel_rfl) rfl #[.int .u64 t109, .bool false, .int .u32 9] rfl (by (try simp only [List.map_toArray, List.map_cons, List.map_nil]); first | done | rfl | (simp only [List.length_drop, List.length_take]; rfl)) ?_; (with_reducible refine (slot_Claim.calls t109 false 9 t110 false _ A2.out).mono ?_); rintro e w' ⟨rfl, ⟨nd, rfl⟩⟩; refine ⟨_, rfl, ?_⟩))
      go_ret
      exact ⟨by first | rfl | (simp; done) | (simp [*]; done), by repeat (first | exact Drawn0.refl _ | apply Drawn0.step)⟩
  · rw [if_neg c3] at H
    have c3b0 : (t109 == 4294967317) = false := beq_eq_false_iff_ne.mpr c3
    have c3b1 : (t109 != 4294967317) = true := bne_iff_ne.mpr c3
    obtain rfl := Option.some.inj H
    go_enter Try.func9, Try.ntmps9
    go_wp2_with (first | ((with_reducible refine gate_callee (f := 11) rfl ?_); refine goesL_ (some 4) rfl rfl Try.func11 (by kernel_rfl) rfl #[.int .i64 1, .int .u32 5, .int .u32 1] rfl (by (try simp only [List.map_toArray, List.map_cons, List.map_nil]); first | done | rfl | (simp only [List.length_drop, List.length_take]; rfl)) ?_; (with_reducible refine (slot_Word.calls 1 5 1 t109 _ A1.out).mono ?_); rintro e w' ⟨rfl, ⟨nd, rfl⟩⟩; refine ⟨_, rfl, ?_⟩) | ((with_reducible refine gate_callee (f := 16) rfl ?_); refine goesL_ (some 7) rfl rfl Try.func16 (by kernel_rfl) rfl #[.int .u64 t109, .bool false, .int .u32 9] rfl (by (try simp only [List.map_toArray, List.map_cons, List.map_nil]); first | done | rfl | (simp only [List.length_drop, List.length_take]; rfl)) ?_; (with_reducible refine (slot_Claim.calls t109 false 9 t110 t111 _ A2.out).mono ?_); rintro e w' ⟨rfl, ⟨nd, rfl⟩⟩; refine ⟨_, rfl, ?_⟩))
    go_ret
    exact ⟨by first | rfl | (simp; done) | (simp [*]; done), by repeat (first | exact Drawn0.refl _ | apply Drawn0.step)⟩

/-! ### slot_Offer: function 15 -/
def slot_Offer.f (a0 : Int) (a1 : Bool) (a2 : Int) : Option (Int × Bool) := (slot_State.f a0).bind fun t114 => (if t114 = 0 then (if a1 = true then ((slot_waits.f a1).bind fun t115 => ((slot_Stamp.f a0).bind fun t116 => ((slot_Word.f t115 a2 t116).bind fun t117 => (some (t117, true))))) else ((slot_waits.f a1).bind fun t118 => ((slot_Stamp.f a0).bind fun t119 => ((slot_Word.f t118 0 t119).bind fun t120 => (some (t120, true)))))) else (some (0, false)))
set_option maxHeartbeats 8000000 in
set_option maxRecDepth 100000 in
theorem slot_Offer.calls (a0 : Int) (a1 : Bool) (a2 : Int) (r1 : Int) (r2 : Bool) (w : World) (h : slot_Offer.f a0 a1 a2 = some (r1, r2)) :
    Calls Try.prog 15 #[.int .u64 a0, .bool a1, .int .u32 a2] w fun e w' => e = .returned (.tuple #[.int .u64 r1, .bool r2]) ∧ Drawn0 w w' := by
  have H : ((slot_State.f a0).bind fun t114 => (if t114 = 0 then (if a1 = true then ((slot_waits.f a1).bind fun t115 => ((slot_Stamp.f a0).bind fun t116 => ((slot_Word.f t115 a2 t116).bind fun t117 => (some (t117, true))))) else ((slot_waits.f a1).bind fun t118 => ((slot_Stamp.f a0).bind fun t119 => ((slot_Word.f t118 0 t119).bind fun t120 => (some (t120, true)))))) else (some (0, false)))) = some (r1, r2) := h
  clear h
  replace H := Option.bind_eq_some_iff.mp H
  obtain ⟨t114, A40, H⟩ := H
  replace H : (if t114 = 0 then (if a1 = true then ((slot_waits.f a1).bind fun t115 => ((slot_Stamp.f a0).bind fun t116 => ((slot_Word.f t115 a2 t116).bind fun t117 => (some (t117, true))))) else ((slot_waits.f a1).bind fun t118 => ((slot_Stamp.f a0).bind fun t119 => ((slot_Word.f t118 0 t119).bind fun t120 => (some (t120, true)))))) else (some (0, false))) = some (r1, r2) := H
  have A4 := Aside0.mk A40
  clear A40
  by_cases c5 : t114 = 0
  · rw [if_pos c5] at H
    have c5b0 : (t114 == 0) = true := beq_iff_eq.mpr c5
    have c5b1 : (t114 != 0) = false := bne_eq_false_iff_eq.mpr c5
    clear c5
    by_cases c6 : a1 = true
    · subst c6
      have H1 : ((slot_waits.f true).bind fun t115 => ((slot_Stamp.f a0).bind fun t116 => ((slot_Word.f t115 a2 t116).bind fun t117 => (some (t117, true))))) = some (r1, r2) := by rw [if_pos rfl] at H; exact H
      clear H
      have H := H1
      clear H1
      replace H := Option.bind_eq_some_iff.mp H
      obtain ⟨t115, A70, H⟩ := H
      replace H : ((slot_Stamp.f a0).bind fun t116 => ((slot_Word.f t115 a2 t116).bind fun t117 => (some (t117, true)))) = some (r1, r2) := H
      have A7 := Aside0.mk A70
      clear A70
      replace H := Option.bind_eq_some_iff.mp H
      obtain ⟨t116, A80, H⟩ := H
      replace H : ((slot_Word.f t115 a2 t116).bind fun t117 => (some (t117, true))) = some (r1, r2) := H
      have A8 := Aside0.mk A80
      clear A80
      replace H := Option.bind_eq_some_iff.mp H
      obtain ⟨t117, A90, H⟩ := H
      replace H : (some (t117, true)) = some (r1, r2) := H
      have A9 := Aside0.mk A90
      clear A90
      simp only [Option.some.injEq, Prod.mk.injEq] at H
      obtain ⟨rfl, rfl⟩ := H
      go_enter Try.func15, Try.ntmps15
      go_wp2_with (first | ((with_reducible refine gate_callee (f := 12) rfl ?_); refine goesL_ (some 9) rfl rfl Try.func12 (by kernel_rfl) rfl #[.int .u64 a0] rfl (by (try simp only [List.map_toArray, List.map_cons, List.map_nil]); first | done | rfl | (simp only [List.length_drop, List.length_take]; rfl)) ?_; (with_reducible refine (slot_State.calls a0 t114 _ A4.out).mono ?_); rintro e w' ⟨rfl, ⟨nd, rfl⟩⟩; refine ⟨_, rfl, ?_⟩) | ((with_reducible refine gate_callee (f := 27) rfl ?_); refine goesL_ (some 14) rfl rfl Try.func27 (by kernel_rfl) rfl #[.bool true] rfl (by (try simp only [List.map_toArray, List.map_cons, List.map_nil]); first | done | rfl | (simp only [List.length_drop, List.length_take]; rfl)) ?_; (with_reducible refine (slot_waits.calls true t115 _ A7.out).mono ?_); rintro e w' ⟨rfl, ⟨nd, rfl⟩⟩; refine ⟨_, rfl, ?_⟩) | ((with_reducible refine gate_callee (f := 14) rfl ?_); refine goesL_ (some 17) rfl rfl Try.func14 (by kernel_rfl) rfl #[.int .u64 a0] rfl (by (try simp only [List.map_toArray, List.map_cons, List.map_nil]); first | done | rfl | (simp only [List.length_drop, List.length_take]; rfl)) ?_; (with_reducible refine (slot_Stamp.calls a0 t116 _ A8.out).mono ?_); rintro e w' ⟨rfl, ⟨nd, rfl⟩⟩; refine ⟨_, rfl, ?_⟩) | ((with_reducible refine gate_callee (f := 11) rfl ?_); refine goesL_ (some 18) rfl rfl Try.func11 (by kernel_rfl) rfl #[.int .i64 t115, .int .u32 a2, .int .u32 t116] rfl (by (try simp only [List.map_toArray, List.map_cons, List.map_nil]); first | done | rfl | (simp only [List.length_drop, List.length_take]; rfl)) ?_; (with_reducible refine (slot_Word.calls t115 a2 t116 t117 _ A9.out).mono ?_); rintro e w' ⟨rfl, ⟨nd, rfl⟩⟩; refine ⟨_, rfl, ?_⟩))
      go_ret2
      exact ⟨by first | rfl | (simp; done) | (simp [*]; done), by repeat (first | exact Drawn0.refl _ | apply Drawn0.step)⟩
    · replace c6 := Bool.eq_false_iff.mpr c6
      subst c6
      have H1 : ((slot_waits.f false).bind fun t118 => ((slot_Stamp.f a0).bind fun t119 => ((slot_Word.f t118 0 t119).bind fun t120 => (some (t120, true))))) = some (r1, r2) := by rw [if_neg (show ¬ (false = true) by decide)] at H; exact H
      clear H
      have H := H1
      clear H1
      replace H := Option.bind_eq_some_iff.mp H
      obtain ⟨t118, A100, H⟩ := H
      replace H : ((slot_Stamp.f a0).bind fun t119 => ((slot_Word.f t118 0 t119).bind fun t120 => (some (t120, true)))) = some (r1, r2) := H
      have A10 := Aside0.mk A100
      clear A100
      replace H := Option.bind_eq_some_iff.mp H
      obtain ⟨t119, A110, H⟩ := H
      replace H : ((slot_Word.f t118 0 t119).bind fun t120 => (some (t120, true))) = some (r1, r2) := H
      have A11 := Aside0.mk A110
      clear A110
      replace H := Option.bind_eq_some_iff.mp H
      obtain ⟨t120, A120, H⟩ := H
      replace H : (some (t120, true)) = some (r1, r2) := H
      have A12 := Aside0.mk A120
      clear A120
      simp only [Option.some.injEq, Prod.mk.injEq] at H
      obtain ⟨rfl, rfl⟩ := H
      go_enter Try.func15, Try.ntmps15
      go_wp2_with (first | ((with_reducible refine gate_callee (f := 12) rfl ?_); refine goesL_ (some 9) rfl rfl Try.func12 (by kernel_rfl) rfl #[.int .u64 a0] rfl (by (try simp only [List.map_toArray, List.map_cons, List.map_nil]); first | done | rfl | (simp only [List.length_drop, List.length_take]; rfl)) ?_; (with_reducible refine (slot_State.calls a0 t114 _ A4.out).mono ?_); rintro e w' ⟨rfl, ⟨nd, rfl⟩⟩; refine ⟨_, rfl, ?_⟩) | ((with_reducible refine gate_callee (f := 27) rfl ?_); refine goesL_ (some 14) rfl rfl Try.func27 (by kernel_rfl) rfl #[.bool false] rfl (by (try simp only [List.map_toArray, List.map_cons, List.map_nil]); first | done | rfl | (simp only [List.length_drop, List.length_take]; rfl)) ?_; (with_reducible refine (slot_waits.calls false t118 _ A10.out).mono ?_); rintro e w' ⟨rfl, ⟨nd, rfl⟩⟩; refine ⟨_, rfl, ?_⟩) | ((with_reducible refine gate_callee (f := 14) rfl ?_); refine goesL_ (some 17) rfl rfl Try.func14 (by kernel_rfl) rfl #[.int .u64 a0] rfl (by (try simp only [List.map_toArray, List.map_cons, List.map_nil]); first | done | rfl | (simp only [List.length_drop, List.length_take]; rfl)) ?_; (with_reducible refine (slot_Stamp.calls a0 t119 _ A11.out).mono ?_); rintro e w' ⟨rfl, ⟨nd, rfl⟩⟩; refine ⟨_, rfl, ?_⟩) | ((with_reducible refine gate_callee (f := 11) rfl ?_); refine goesL_ (some 18) rfl rfl Try.func11 (by kernel_rfl) rfl #[.int .i64 t118, .int .u32 0, .int .u32 t119] rfl (by (try simp only [List.map_toArray, List.map_cons, List.map_nil]); first | done | rfl | (simp only [List.length_drop, List.length_take]; rfl)) ?_; (with_reducible refine (slot_Word.calls t118 0 t119 t120 _ A12.out).mono ?_); rintro e w' ⟨rfl, ⟨nd, rfl⟩⟩; refine ⟨_, rfl, ?_⟩))
      go_ret2
      exact ⟨by first | rfl | (simp; done) | (simp [*]; done), by repeat (first | exact Drawn0.refl _ | apply Drawn0.step)⟩
  · rw [if_neg c5] at H
    have c5b0 : (t114 == 0) = false := beq_eq_false_iff_ne.mpr c5
    have c5b1 : (t114 != 0) = true := bne_iff_ne.mpr c5
    simp only [Option.some.injEq, Prod.mk.injEq] at H
    obtain ⟨rfl, rfl⟩ := H
    go_enter Try.func15, Try.ntmps15
    go_wp2_with (first | ((with_reducible refine gate_callee (f := 12) rfl ?_); refine goesL_ (some 9) rfl rfl Try.func12 (by kernel_rfl) rfl #[.int .u64 a0] rfl (by (try simp only [List.map_toArray, List.map_cons, List.map_nil]); first | done | rfl | (simp only [List.length_drop, List.length_take]; rfl)) ?_; (with_reducible refine (slot_State.calls a0 t114 _ A4.out).mono ?_); rintro e w' ⟨rfl, ⟨nd, rfl⟩⟩; refine ⟨_, rfl, ?_⟩))
    go_ret2
    exact ⟨by first | rfl | (simp; done) | (simp [*]; done), by repeat (first | exact Drawn0.refl _ | apply Drawn0.step)⟩

/-! ### slot_Clear: function 25 -/
def slot_Clear.f (a0 : Int) : Option (Int) := (slot_Stamp.f a0).bind fun t121 => ((slot_Word.f 0 0 ((t121 + 1) % 4294967296)).bind fun t122 => (some t122))
set_option maxHeartbeats 8000000 in
set_option maxRecDepth 100000 in
theorem slot_Clear.calls (a0 : Int) (r : Int) (w : World) (h : slot_Clear.f a0 = some r) :
    Calls Try.prog 25 #[.int .u64 a0] w fun e w' => e = .returned (.int .u64 r) ∧ Drawn0 w w' := by
  have H : ((slot_Stamp.f a0).bind fun t121 => ((slot_Word.f 0 0 ((t121 + 1) % 4294967296)).bind fun t122 => (some t122))) = some r := h
  clear h
  replace H := Option.bind_eq_some_iff.mp H
  obtain ⟨t121, A20, H⟩ := H
  replace H : ((slot_Word.f 0 0 ((t121 + 1) % 4294967296)).bind fun t122 => (some t122)) = some r := H
  have A2 := Aside0.mk A20
  clear A20
  replace H := Option.bind_eq_some_iff.mp H
  obtain ⟨t122, A30, H⟩ := H
  replace H : (some t122) = some r := H
  have A3 := Aside0.mk A30
  clear A30
  obtain rfl := Option.some.inj H
  go_enter Try.func25, Try.ntmps25
  go_wp2_with (first | ((with_reducible refine gate_callee (f := 14) rfl ?_); refine goesL_ (some 4) rfl rfl Try.func14 (by kernel_rfl) rfl #[.int .u64 a0] rfl (by (try simp only [List.map_toArray, List.map_cons, List.map_nil]); first | done | rfl | (simp only [List.length_drop, List.length_take]; rfl)) ?_; (with_reducible refine (slot_Stamp.calls a0 t121 _ A2.out).mono ?_); rintro e w' ⟨rfl, ⟨nd, rfl⟩⟩; refine ⟨_, rfl, ?_⟩) | ((with_reducible refine gate_callee (f := 11) rfl ?_); refine goesL_ (some 6) rfl rfl Try.func11 (by kernel_rfl) rfl #[.int .i64 0, .int .u32 0, .int .u32 ((t121 + 1) % 4294967296)] rfl (by (try simp only [List.map_toArray, List.map_cons, List.map_nil]); first | done | rfl | (simp only [List.length_drop, List.length_take]; rfl)) ?_; (with_reducible refine (slot_Word.calls 0 0 ((t121 + 1) % 4294967296) t122 _ A3.out).mono ?_); rintro e w' ⟨rfl, ⟨nd, rfl⟩⟩; refine ⟨_, rfl, ?_⟩))
  go_ret
  exact ⟨by first | rfl | (simp; done) | (simp [*]; done), by repeat (first | exact Drawn0.refl _ | apply Drawn0.step)⟩

/-! ### hatstandlaw9_SlotRound: function 7 -/
mutual
def hatstandlaw9_SlotRound.j0 : Nat → Int → Bool → Int → Int → Bool → Int → Bool → Int → Option (Bool)
  | 0, _, _, _, _, _, _, _, _ => none
  | k + 1, x0, x3, x10, x13, x14, x15, x16, x17 => if x14 = true then (if x16 = true then ((slot_State.f x15).bind fun t129 => (if t129 = 3 then ((slot_Index.f x15).bind fun t130 => (if t130 = x17 then ((slot_Stamp.f x15).bind fun t131 => (if t131 = x0 then ((slot_Stamp.f x13).bind fun t132 => (hatstandlaw9_SlotRound.j1 k x0 x3 x10 x13 x15 (t132 != x0))) else (hatstandlaw9_SlotRound.j1 k x0 x3 x10 x13 x15 true))) else (hatstandlaw9_SlotRound.j1 k x0 x3 x10 x13 x15 true))) else (hatstandlaw9_SlotRound.j1 k x0 x3 x10 x13 x15 true))) else (hatstandlaw9_SlotRound.j1 k x0 x3 x10 x13 x15 true)) else (hatstandlaw9_SlotRound.j1 k x0 x3 x10 x13 x15 true)
def hatstandlaw9_SlotRound.j1 : Nat → Int → Bool → Int → Int → Int → Bool → Option (Bool)
  | 0, _, _, _, _, _, _ => none
  | k + 1, x0, x3, x10, x13, x15, x73 => if x73 = true then (some false) else ((slot_Clear.f x15).bind fun t133 => ((slot_Word.f 0 0 ((x0 + 1) % 4294967296)).bind fun t134 => (if t133 = t134 then ((slot_Clear.f x13).bind fun t135 => ((slot_Clear.f x15).bind fun t136 => (if t135 = t136 then ((slot_Meets.f x13 (!x3)).bind fun t137 => (if t137 = true then ((slot_Meets.f x13 x3).bind fun t138 => (if t138 = true then (some false) else (if x13 = x10 then (some false) else (some (x15 != x13))))) else (some false))) else (some false)))) else (some false))))
end
def hatstandlaw9_SlotRound.f (k : Nat) (a0 : Int) (a1 : Int) (a2 : Int) (a3 : Bool) : Option (Bool) := (hatstandlaw9_shown.f).bind fun t123 => (if t123 = true then ((slot_Word.f 0 0 a0).bind fun t124 => ((slot_Offer.f t124 a3 (Int.tmod a1 1073741824)).bind fun bt125 => ((slot_Claim.f bt125.1 (!a3) (Int.tmod a2 1073741824)).bind fun bt127 => (if a3 = true then (hatstandlaw9_SlotRound.j0 k a0 a3 t124 bt125.1 bt125.2 bt127.1 bt127.2 (Int.tmod a1 1073741824)) else (hatstandlaw9_SlotRound.j0 k a0 a3 t124 bt125.1 bt125.2 bt127.1 bt127.2 (Int.tmod a2 1073741824)))))) else (some false))
theorem hatstandlaw9_SlotRound.mono_l : ∀ k, (∀ y0 y1 y2 y3 y4 y5 y6 y7, LeO (hatstandlaw9_SlotRound.j0 k y0 y1 y2 y3 y4 y5 y6 y7) (hatstandlaw9_SlotRound.j0 (k + 1) y0 y1 y2 y3 y4 y5 y6 y7)) ∧ (∀ y0 y1 y2 y3 y4 y5, LeO (hatstandlaw9_SlotRound.j1 k y0 y1 y2 y3 y4 y5) (hatstandlaw9_SlotRound.j1 (k + 1) y0 y1 y2 y3 y4 y5))
  | 0 => ⟨fun _ _ _ _ _ _ _ _ r h => by simp [hatstandlaw9_SlotRound.j0] at h, fun _ _ _ _ _ _ r h => by simp [hatstandlaw9_SlotRound.j1] at h⟩
  | k + 1 => by
    obtain ⟨ih0, ih1⟩ := hatstandlaw9_SlotRound.mono_l k
    refine ⟨?_, ?_⟩
    · intro y0 y1 y2 y3 y4 y5 y6 y7
      unfold hatstandlaw9_SlotRound.j0
      repeat' first
      | (with_reducible exact ih0 _ _ _ _ _ _ _ _)
      | (with_reducible exact ih1 _ _ _ _ _ _)
      | (with_reducible exact LeO.refl _)
      | (with_reducible exact LeO.none _)
      | (with_reducible refine LeO.ite ?_ ?_)
      | (with_reducible refine LeO.bind ?_ (fun _ => ?_))
      | exact ih0 _ _ _ _ _ _ _ _
      | exact ih1 _ _ _ _ _ _
      | exact LeO.none _
      | refine LeO.ite ?_ ?_
      | refine LeO.bind ?_ (fun _ => ?_)
    · intro y0 y1 y2 y3 y4 y5
      unfold hatstandlaw9_SlotRound.j1
      repeat' first
      | (with_reducible exact ih0 _ _ _ _ _ _ _ _)
      | (with_reducible exact ih1 _ _ _ _ _ _)
      | (with_reducible exact LeO.refl _)
      | (with_reducible exact LeO.none _)
      | (with_reducible refine LeO.ite ?_ ?_)
      | (with_reducible refine LeO.bind ?_ (fun _ => ?_))
      | exact ih0 _ _ _ _ _ _ _ _
      | exact ih1 _ _ _ _ _ _
      | exact LeO.none _
      | refine LeO.ite ?_ ?_
      | refine LeO.bind ?_ (fun _ => ?_)
theorem hatstandlaw9_SlotRound.mono : ∀ a0 a1 a2 a3 k, LeO (hatstandlaw9_SlotRound.f k a0 a1 a2 a3) (hatstandlaw9_SlotRound.f (k + 1) a0 a1 a2 a3) := by
  intro a0 a1 a2 a3 k
  obtain ⟨ih0, ih1⟩ := hatstandlaw9_SlotRound.mono_l k
  unfold hatstandlaw9_SlotRound.f
  repeat' first
      | (with_reducible exact ih0 _ _ _ _ _ _ _ _)
      | (with_reducible exact ih1 _ _ _ _ _ _)
      | (with_reducible exact LeO.refl _)
      | (with_reducible exact LeO.none _)
      | (with_reducible refine LeO.ite ?_ ?_)
      | (with_reducible refine LeO.bind ?_ (fun _ => ?_))
      | exact ih0 _ _ _ _ _ _ _ _
      | exact ih1 _ _ _ _ _ _
      | exact LeO.none _
      | refine LeO.ite ?_ ?_
      | refine LeO.bind ?_ (fun _ => ?_)
set_option maxHeartbeats 8000000 in
set_option maxRecDepth 100000 in
theorem hatstandlaw9_SlotRound.calls (k : Nat) (a0 : Int) (a1 : Int) (a2 : Int) (a3 : Bool) (r : Bool) (w : World) (h : hatstandlaw9_SlotRound.f k a0 a1 a2 a3 = some r) :
    Calls Try.prog 7 #[.int .u32 a0, .int .u32 a1, .int .u32 a2, .bool a3] w fun e w' => e = .returned (.bool r) ∧ Drawn0 w w' := by
  have H : ((hatstandlaw9_shown.f).bind fun t123 => (if t123 = true then ((slot_Word.f 0 0 a0).bind fun t124 => ((slot_Offer.f t124 a3 (Int.tmod a1 1073741824)).bind fun bt125 => ((slot_Claim.f bt125.1 (!a3) (Int.tmod a2 1073741824)).bind fun bt127 => (if a3 = true then (hatstandlaw9_SlotRound.j0 k a0 a3 t124 bt125.1 bt125.2 bt127.1 bt127.2 (Int.tmod a1 1073741824)) else (hatstandlaw9_SlotRound.j0 k a0 a3 t124 bt125.1 bt125.2 bt127.1 bt127.2 (Int.tmod a2 1073741824)))))) else (some false))) = some r := h
  clear h
  replace H := Option.bind_eq_some_iff.mp H
  obtain ⟨t123, A50, H⟩ := H
  replace H : (if t123 = true then ((slot_Word.f 0 0 a0).bind fun t124 => ((slot_Offer.f t124 a3 (Int.tmod a1 1073741824)).bind fun bt125 => ((slot_Claim.f bt125.1 (!a3) (Int.tmod a2 1073741824)).bind fun bt127 => (if a3 = true then (hatstandlaw9_SlotRound.j0 k a0 a3 t124 bt125.1 bt125.2 bt127.1 bt127.2 (Int.tmod a1 1073741824)) else (hatstandlaw9_SlotRound.j0 k a0 a3 t124 bt125.1 bt125.2 bt127.1 bt127.2 (Int.tmod a2 1073741824)))))) else (some false)) = some r := H
  have A5 := Aside0.mk A50
  clear A50
  by_cases c6 : t123 = true
  · subst c6
    have H1 : ((slot_Word.f 0 0 a0).bind fun t124 => ((slot_Offer.f t124 a3 (Int.tmod a1 1073741824)).bind fun bt125 => ((slot_Claim.f bt125.1 (!a3) (Int.tmod a2 1073741824)).bind fun bt127 => (if a3 = true then (hatstandlaw9_SlotRound.j0 k a0 a3 t124 bt125.1 bt125.2 bt127.1 bt127.2 (Int.tmod a1 1073741824)) else (hatstandlaw9_SlotRound.j0 k a0 a3 t124 bt125.1 bt125.2 bt127.1 bt127.2 (Int.tmod a2 1073741824)))))) = some r := by rw [if_pos rfl] at H; exact H
    clear H
    have H := H1
    clear H1
    replace H := Option.bind_eq_some_iff.mp H
    obtain ⟨t124, A70, H⟩ := H
    replace H : ((slot_Offer.f t124 a3 (Int.tmod a1 1073741824)).bind fun bt125 => ((slot_Claim.f bt125.1 (!a3) (Int.tmod a2 1073741824)).bind fun bt127 => (if a3 = true then (hatstandlaw9_SlotRound.j0 k a0 a3 t124 bt125.1 bt125.2 bt127.1 bt127.2 (Int.tmod a1 1073741824)) else (hatstandlaw9_SlotRound.j0 k a0 a3 t124 bt125.1 bt125.2 bt127.1 bt127.2 (Int.tmod a2 1073741824))))) = some r := H
    have A7 := Aside0.mk A70
    clear A70
    replace H := Option.bind_eq_some_iff.mp H
    obtain ⟨⟨t125, t126⟩, A80, H⟩ := H
    replace H : ((slot_Claim.f t125 (!a3) (Int.tmod a2 1073741824)).bind fun bt127 => (if a3 = true then (hatstandlaw9_SlotRound.j0 k a0 a3 t124 t125 t126 bt127.1 bt127.2 (Int.tmod a1 1073741824)) else (hatstandlaw9_SlotRound.j0 k a0 a3 t124 t125 t126 bt127.1 bt127.2 (Int.tmod a2 1073741824)))) = some r := H
    have A8 := Aside0.mk A80
    clear A80
    replace H := Option.bind_eq_some_iff.mp H
    obtain ⟨⟨t127, t128⟩, A90, H⟩ := H
    replace H : (if a3 = true then (hatstandlaw9_SlotRound.j0 k a0 a3 t124 t125 t126 t127 t128 (Int.tmod a1 1073741824)) else (hatstandlaw9_SlotRound.j0 k a0 a3 t124 t125 t126 t127 t128 (Int.tmod a2 1073741824))) = some r := H
    have A9 := Aside0.mk A90
    clear A90
    have HC10 := Aside0.mk H
    clear H
    go_enter Try.func7, Try.ntmps7
    go_upto_if 43 with (first | ((with_reducible refine gate_callee (f := 9) rfl ?_); refine goesL_ (some 18) rfl rfl Try.func9 (by kernel_rfl) rfl #[] rfl (by (try simp only [List.map_toArray, List.map_cons, List.map_nil]); first | done | rfl | (simp only [List.length_drop, List.length_take]; rfl)) ?_; (with_reducible refine (hatstandlaw9_shown.calls  true _ A5.out).mono ?_); rintro e w' ⟨rfl, ⟨nd, rfl⟩⟩; refine ⟨_, rfl, ?_⟩) | ((with_reducible refine gate_callee (f := 11) rfl ?_); refine goesL_ (some 22) rfl rfl Try.func11 (by kernel_rfl) rfl #[.int .i64 0, .int .u32 0, .int .u32 a0] rfl (by (try simp only [List.map_toArray, List.map_cons, List.map_nil]); first | done | rfl | (simp only [List.length_drop, List.length_take]; rfl)) ?_; (with_reducible refine (slot_Word.calls 0 0 a0 t124 _ A7.out).mono ?_); rintro e w' ⟨rfl, ⟨nd, rfl⟩⟩; refine ⟨_, rfl, ?_⟩) | ((with_reducible refine gate_callee (f := 15) rfl ?_); refine goesL_ (some 31) rfl rfl Try.func15 (by kernel_rfl) rfl #[.int .u64 t124, .bool a3, .int .u32 (Int.tmod a1 1073741824)] rfl (by (try simp only [List.map_toArray, List.map_cons, List.map_nil]); first | done | rfl | (simp only [List.length_drop, List.length_take]; rfl)) ?_; (with_reducible refine (slot_Offer.calls t124 a3 (Int.tmod a1 1073741824) t125 t126 _ A8.out).mono ?_); rintro e w' ⟨rfl, ⟨nd, rfl⟩⟩; refine ⟨_, rfl, ?_⟩) | ((with_reducible refine gate_callee (f := 16) rfl ?_); refine goesL_ (some 39) rfl rfl Try.func16 (by kernel_rfl) rfl #[.int .u64 t125, .bool (!a3), .int .u32 (Int.tmod a2 1073741824)] rfl (by (try simp only [List.map_toArray, List.map_cons, List.map_nil]); first | done | rfl | (simp only [List.length_drop, List.length_take]; rfl)) ?_; (with_reducible refine (slot_Claim.calls t125 (!a3) (Int.tmod a2 1073741824) t127 t128 _ A9.out).mono ?_); rintro e w' ⟨rfl, ⟨nd, rfl⟩⟩; refine ⟨_, rfl, ?_⟩))
    (try simp only [Act.put, List.setIfInBounds_toArray, List.set_cons_zero, List.set_cons_succ])
    go_cut [17] (fun v17 wc => ∃ (kq : Nat) (x17_9 : Int), v17 = .int .u32 x17_9 ∧ Aside0 (hatstandlaw9_SlotRound.j0 kq a0 a3 t124 t125 t126 t127 t128 x17_9 = some r) ∧ Aside0 (kq ≤ k) ∧ Drawn0 w wc)
    case first =>
      have H := HC10.out
      clear HC10
      by_cases c11 : a3 = true
      · subst c11
        have H1 : (hatstandlaw9_SlotRound.j0 k a0 true t124 t125 t126 t127 t128 (Int.tmod a1 1073741824)) = some r := by rw [if_pos rfl] at H; exact H
        clear H
        have H := H1
        clear H1
        have H' := Aside0.mk H
        clear H
        go_wp2
        go_meet
        case rel => exact ⟨_, (Int.tmod a1 1073741824), (by first | rfl | (simp; done) | (simp [*]; done)), H', ⟨by first | omega | exact Nat.le_refl _⟩, by repeat (first | exact Drawn0.refl _ | apply Drawn0.step)⟩
      · replace c11 := Bool.eq_false_iff.mpr c11
        subst c11
        have H1 : (hatstandlaw9_SlotRound.j0 k a0 false t124 t125 t126 t127 t128 (Int.tmod a2 1073741824)) = some r := by rw [if_neg (show ¬ (false = true) by decide)] at H; exact H
        clear H
        have H := H1
        clear H1
        have H' := Aside0.mk H
        clear H
        go_wp2
        go_meet
        case rel => exact ⟨_, (Int.tmod a2 1073741824), (by first | rfl | (simp; done) | (simp [*]; done)), H', ⟨by first | omega | exact Nat.le_refl _⟩, by repeat (first | exact Drawn0.refl _ | apply Drawn0.step)⟩
    case rest =>
      clear HC10
      try clear c1
      try clear p2
      try clear c6
      try clear c7
      try clear c9
      try clear c11
      obtain ⟨kq, x17_9, rfl, HA, HJ9, ⟨mc9, rfl⟩⟩ := hcut
      cases kq with
      | zero => exact absurd HA.out (by simp [hatstandlaw9_SlotRound.j0])
      | succ kj9 =>
        have H := HA.out
        clear HA
        simp only [hatstandlaw9_SlotRound.j0] at H
        have HC12 := Aside0.mk H
        clear H
        go_upto_region 12 with (fail)
        go_cut [73] (fun v73 wc => ∃ (kq : Nat) (x73_11 : Bool), v73 = .bool x73_11 ∧ Aside0 (hatstandlaw9_SlotRound.j1 kq a0 a3 t124 t125 t127 x73_11 = some r) ∧ Aside0 (kq ≤ kj9) ∧ Drawn0 w wc)
        case first =>
          have H := HC12.out
          clear HC12
          by_cases c13 : t126 = true
          · subst c13
            have H1 : (if t128 = true then ((slot_State.f t127).bind fun t129 => (if t129 = 3 then ((slot_Index.f t127).bind fun t130 => (if t130 = x17_9 then ((slot_Stamp.f t127).bind fun t131 => (if t131 = a0 then ((slot_Stamp.f t125).bind fun t132 => (hatstandlaw9_SlotRound.j1 kj9 a0 a3 t124 t125 t127 (t132 != a0))) else (hatstandlaw9_SlotRound.j1 kj9 a0 a3 t124 t125 t127 true))) else (hatstandlaw9_SlotRound.j1 kj9 a0 a3 t124 t125 t127 true))) else (hatstandlaw9_SlotRound.j1 kj9 a0 a3 t124 t125 t127 true))) else (hatstandlaw9_SlotRound.j1 kj9 a0 a3 t124 t125 t127 true)) = some r := by rw [if_pos rfl] at H; exact H
            clear H
            have H := H1
            clear H1
            by_cases c14 : t128 = true
            · subst c14
              have H1 : ((slot_State.f t127).bind fun t129 => (if t129 = 3 then ((slot_Index.f t127).bind fun t130 => (if t130 = x17_9 then ((slot_Stamp.f t127).bind fun t131 => (if t131 = a0 then ((slot_Stamp.f t125).bind fun t132 => (hatstandlaw9_SlotRound.j1 kj9 a0 a3 t124 t125 t127 (t132 != a0))) else (hatstandlaw9_SlotRound.j1 kj9 a0 a3 t124 t125 t127 true))) else (hatstandlaw9_SlotRound.j1 kj9 a0 a3 t124 t125 t127 true))) else (hatstandlaw9_SlotRound.j1 kj9 a0 a3 t124 t125 t127 true))) = some r := by rw [if_pos rfl] at H; exact H
              clear H
              have H := H1
              clear H1
              replace H := Option.bind_eq_some_iff.mp H
              obtain ⟨t129, A150, H⟩ := H
              replace H : (if t129 = 3 then ((slot_Index.f t127).bind fun t130 => (if t130 = x17_9 then ((slot_Stamp.f t127).bind fun t131 => (if t131 = a0 then ((slot_Stamp.f t125).bind fun t132 => (hatstandlaw9_SlotRound.j1 kj9 a0 a3 t124 t125 t127 (t132 != a0))) else (hatstandlaw9_SlotRound.j1 kj9 a0 a3 t124 t125 t127 true))) else (hatstandlaw9_SlotRound.j1 kj9 a0 a3 t124 t125 t127 true))) else (hatstandlaw9_SlotRound.j1 kj9 a0 a3 t124 t125 t127 true)) = some r := H
              have A15 := Aside0.mk A150
              clear A150
              by_cases c16 : t129 = 3
              · rw [if_pos c16] at H
                have c16b0 : (t129 == 3) = true := beq_iff_eq.mpr c16
                have c16b1 : (t129 != 3) = false := bne_eq_false_iff_eq.mpr c16
                clear c16
                (first | rw [c16b0] | (simp only [i64_w, i32_w]; rw [c16b0]) | skip)
                replace H := Option.bind_eq_some_iff.mp H
                obtain ⟨t130, A170, H⟩ := H
                replace H : (if t130 = x17_9 then ((slot_Stamp.f t127).bind fun t131 => (if t131 = a0 then ((slot_Stamp.f t125).bind fun t132 => (hatstandlaw9_SlotRound.j1 kj9 a0 a3 t124 t125 t127 (t132 != a0))) else (hatstandlaw9_SlotRound.j1 kj9 a0 a3 t124 t125 t127 true))) else (hatstandlaw9_SlotRound.j1 kj9 a0 a3 t124 t125 t127 true)) = some r := H
                have A17 := Aside0.mk A170
                clear A170
                by_cases c18 : t130 = x17_9
                · rw [if_pos c18] at H
                  have c18b0 : (t130 == x17_9) = true := beq_iff_eq.mpr c18
                  have c18b1 : (t130 != x17_9) = false := bne_eq_false_iff_eq.mpr c18
                  clear c18
                  replace H := Option.bind_eq_some_iff.mp H
                  obtain ⟨t131, A190, H⟩ := H
                  replace H : (if t131 = a0 then ((slot_Stamp.f t125).bind fun t132 => (hatstandlaw9_SlotRound.j1 kj9 a0 a3 t124 t125 t127 (t132 != a0))) else (hatstandlaw9_SlotRound.j1 kj9 a0 a3 t124 t125 t127 true)) = some r := H
                  have A19 := Aside0.mk A190
                  clear A190
                  by_cases c20 : t131 = a0
                  · rw [if_pos c20] at H
                    have c20b0 : (t131 == a0) = true := beq_iff_eq.mpr c20
                    have c20b1 : (t131 != a0) = false := bne_eq_false_iff_eq.mpr c20
                    clear c20
                    replace H := Option.bind_eq_some_iff.mp H
                    obtain ⟨t132, A210, H⟩ := H
                    replace H : (hatstandlaw9_SlotRound.j1 kj9 a0 a3 t124 t125 t127 (t132 != a0)) = some r := H
                    have A21 := Aside0.mk A210
                    clear A210
                    have H' := Aside0.mk H
                    clear H
                    go_wp2_with (first | (go_at_call 12; (with_reducible refine (slot_State.calls t127 t129 _ A15.out).mono ?_); rintro e w' ⟨rfl, ⟨nd, rfl⟩⟩) | (go_at_call 13; (with_reducible refine (slot_Index.calls t127 t130 _ A17.out).mono ?_); rintro e w' ⟨rfl, ⟨nd, rfl⟩⟩) | (go_at_call 14; (with_reducible refine (slot_Stamp.calls t127 t131 _ A19.out).mono ?_); rintro e w' ⟨rfl, ⟨nd, rfl⟩⟩) | (go_at_call 14; (with_reducible refine (slot_Stamp.calls t125 t132 _ A21.out).mono ?_); rintro e w' ⟨rfl, ⟨nd, rfl⟩⟩))
                    go_meet
                    case rel => exact ⟨_, ((t132 != a0)), (by first | rfl | (simp; done) | (simp [*]; done)), H', ⟨by have := HJ9.out; first | omega | exact Nat.le_refl _⟩, by repeat (first | exact Drawn0.refl _ | apply Drawn0.step)⟩
                  · rw [if_neg c20] at H
                    have c20b0 : (t131 == a0) = false := beq_eq_false_iff_ne.mpr c20
                    have c20b1 : (t131 != a0) = true := bne_iff_ne.mpr c20
                    have H' := Aside0.mk H
                    clear H
                    go_wp2_with (first | (go_at_call 12; (with_reducible refine (slot_State.calls t127 t129 _ A15.out).mono ?_); rintro e w' ⟨rfl, ⟨nd, rfl⟩⟩) | (go_at_call 13; (with_reducible refine (slot_Index.calls t127 t130 _ A17.out).mono ?_); rintro e w' ⟨rfl, ⟨nd, rfl⟩⟩) | (go_at_call 14; (with_reducible refine (slot_Stamp.calls t127 t131 _ A19.out).mono ?_); rintro e w' ⟨rfl, ⟨nd, rfl⟩⟩))
                    go_meet
                    case rel => exact ⟨_, (true), (by first | rfl | (simp; done) | (simp [*]; done)), H', ⟨by have := HJ9.out; first | omega | exact Nat.le_refl _⟩, by repeat (first | exact Drawn0.refl _ | apply Drawn0.step)⟩
                · rw [if_neg c18] at H
                  have c18b0 : (t130 == x17_9) = false := beq_eq_false_iff_ne.mpr c18
                  have c18b1 : (t130 != x17_9) = true := bne_iff_ne.mpr c18
                  have H' := Aside0.mk H
                  clear H
                  go_wp2_with (first | (go_at_call 12; (with_reducible refine (slot_State.calls t127 t129 _ A15.out).mono ?_); rintro e w' ⟨rfl, ⟨nd, rfl⟩⟩) | (go_at_call 13; (with_reducible refine (slot_Index.calls t127 t130 _ A17.out).mono ?_); rintro e w' ⟨rfl, ⟨nd, rfl⟩⟩))
                  go_meet
                  case rel => exact ⟨_, (true), (by first | rfl | (simp; done) | (simp [*]; done)), H', ⟨by have := HJ9.out; first | omega | exact Nat.le_refl _⟩, by repeat (first | exact Drawn0.refl _ | apply Drawn0.step)⟩
              · rw [if_neg c16] at H
                have c16b0 : (t129 == 3) = false := beq_eq_false_iff_ne.mpr c16
                have c16b1 : (t129 != 3) = true := bne_iff_ne.mpr c16
                (first | rw [c16b0] | (simp only [i64_w, i32_w]; rw [c16b0]) | skip)
                have H' := Aside0.mk H
                clear H
                go_wp2_with (first | (go_at_call 12; (with_reducible refine (slot_State.calls t127 t129 _ A15.out).mono ?_); rintro e w' ⟨rfl, ⟨nd, rfl⟩⟩))
                go_meet
                case rel => exact ⟨_, (true), (by first | rfl | (simp; done) | (simp [*]; done)), H', ⟨by have := HJ9.out; first | omega | exact Nat.le_refl _⟩, by repeat (first | exact Drawn0.refl _ | apply Drawn0.step)⟩
            · replace c14 := Bool.eq_false_iff.mpr c14
              subst c14
              have H1 : (hatstandlaw9_SlotRound.j1 kj9 a0 a3 t124 t125 t127 true) = some r := by rw [if_neg (show ¬ (false = true) by decide)] at H; exact H
              clear H
              have H := H1
              clear H1
              have H' := Aside0.mk H
              clear H
              go_wp2
              go_meet
              case rel => exact ⟨_, (true), (by first | rfl | (simp; done) | (simp [*]; done)), H', ⟨by have := HJ9.out; first | omega | exact Nat.le_refl _⟩, by repeat (first | exact Drawn0.refl _ | apply Drawn0.step)⟩
          · replace c13 := Bool.eq_false_iff.mpr c13
            subst c13
            have H1 : (hatstandlaw9_SlotRound.j1 kj9 a0 a3 t124 t125 t127 true) = some r := by rw [if_neg (show ¬ (false = true) by decide)] at H; exact H
            clear H
            have H := H1
            clear H1
            have H' := Aside0.mk H
            clear H
            go_wp2
            go_meet
            case rel => exact ⟨_, (true), (by first | rfl | (simp; done) | (simp [*]; done)), H', ⟨by have := HJ9.out; first | omega | exact Nat.le_refl _⟩, by repeat (first | exact Drawn0.refl _ | apply Drawn0.step)⟩
        case rest =>
          clear HC12
          try clear c1
          try clear c2
          try clear p2
          try clear c6
          try clear c7
          try clear c9
          try clear c11
          try clear c13
          try clear c14
          try clear c15
          try clear c16
          try clear c16b0
          try clear c16b1
          try clear c18
          try clear c18b0
          try clear c18b1
          try clear c20
          try clear c20b0
          try clear c20b1
          try clear p2
          obtain ⟨kq, x73_11, rfl, HA, HJ11, ⟨mc11, rfl⟩⟩ := hcut
          cases kq with
          | zero => exact absurd HA.out (by simp [hatstandlaw9_SlotRound.j1])
          | succ kj11 =>
            have H := HA.out
            clear HA
            simp only [hatstandlaw9_SlotRound.j1] at H
            by_cases c22 : x73_11 = true
            · subst c22
              have H1 : (some false) = some r := by rw [if_pos rfl] at H; exact H
              clear H
              have H := H1
              clear H1
              obtain rfl := Option.some.inj H
              go_wp2
              go_ret
              exact ⟨by first | rfl | (simp; done) | (simp [*]; done), by repeat (first | exact Drawn0.refl _ | apply Drawn0.step)⟩
            · replace c22 := Bool.eq_false_iff.mpr c22
              subst c22
              have H1 : ((slot_Clear.f t127).bind fun t133 => ((slot_Word.f 0 0 ((a0 + 1) % 4294967296)).bind fun t134 => (if t133 = t134 then ((slot_Clear.f t125).bind fun t135 => ((slot_Clear.f t127).bind fun t136 => (if t135 = t136 then ((slot_Meets.f t125 (!a3)).bind fun t137 => (if t137 = true then ((slot_Meets.f t125 a3).bind fun t138 => (if t138 = true then (some false) else (if t125 = t124 then (some false) else (some (t127 != t125))))) else (some false))) else (some false)))) else (some false)))) = some r := by rw [if_neg (show ¬ (false = true) by decide)] at H; exact H
              clear H
              have H := H1
              clear H1
              replace H := Option.bind_eq_some_iff.mp H
              obtain ⟨t133, A230, H⟩ := H
              replace H : ((slot_Word.f 0 0 ((a0 + 1) % 4294967296)).bind fun t134 => (if t133 = t134 then ((slot_Clear.f t125).bind fun t135 => ((slot_Clear.f t127).bind fun t136 => (if t135 = t136 then ((slot_Meets.f t125 (!a3)).bind fun t137 => (if t137 = true then ((slot_Meets.f t125 a3).bind fun t138 => (if t138 = true then (some false) else (if t125 = t124 then (some false) else (some (t127 != t125))))) else (some false))) else (some false)))) else (some false))) = some r := H
              have A23 := Aside0.mk A230
              clear A230
              replace H := Option.bind_eq_some_iff.mp H
              obtain ⟨t134, A240, H⟩ := H
              replace H : (if t133 = t134 then ((slot_Clear.f t125).bind fun t135 => ((slot_Clear.f t127).bind fun t136 => (if t135 = t136 then ((slot_Meets.f t125 (!a3)).bind fun t137 => (if t137 = true then ((slot_Meets.f t125 a3).bind fun t138 => (if t138 = true then (some false) else (if t125 = t124 then (some false) else (some (t127 != t125))))) else (some false))) else (some false)))) else (some false)) = some r := H
              have A24 := Aside0.mk A240
              clear A240
              by_cases c25 : t133 = t134
              · rw [if_pos c25] at H
                have c25b0 : (t133 == t134) = true := beq_iff_eq.mpr c25
                have c25b1 : (t133 != t134) = false := bne_eq_false_iff_eq.mpr c25
                clear c25
                replace H := Option.bind_eq_some_iff.mp H
                obtain ⟨t135, A260, H⟩ := H
                replace H : ((slot_Clear.f t127).bind fun t136 => (if t135 = t136 then ((slot_Meets.f t125 (!a3)).bind fun t137 => (if t137 = true then ((slot_Meets.f t125 a3).bind fun t138 => (if t138 = true then (some false) else (if t125 = t124 then (some false) else (some (t127 != t125))))) else (some false))) else (some false))) = some r := H
                have A26 := Aside0.mk A260
                clear A260
                replace H := Option.bind_eq_some_iff.mp H
                obtain ⟨t136, A270, H⟩ := H
                replace H : (if t135 = t136 then ((slot_Meets.f t125 (!a3)).bind fun t137 => (if t137 = true then ((slot_Meets.f t125 a3).bind fun t138 => (if t138 = true then (some false) else (if t125 = t124 then (some false) else (some (t127 != t125))))) else (some false))) else (some false)) = some r := H
                have A27 := Aside0.mk A270
                clear A270
                by_cases c28 : t135 = t136
                · rw [if_pos c28] at H
                  have c28b0 : (t135 == t136) = true := beq_iff_eq.mpr c28
                  have c28b1 : (t135 != t136) = false := bne_eq_false_iff_eq.mpr c28
                  clear c28
                  replace H := Option.bind_eq_some_iff.mp H
                  obtain ⟨t137, A290, H⟩ := H
                  replace H : (if t137 = true then ((slot_Meets.f t125 a3).bind fun t138 => (if t138 = true then (some false) else (if t125 = t124 then (some false) else (some (t127 != t125))))) else (some false)) = some r := H
                  have A29 := Aside0.mk A290
                  clear A290
                  by_cases c30 : t137 = true
                  · subst c30
                    have H1 : ((slot_Meets.f t125 a3).bind fun t138 => (if t138 = true then (some false) else (if t125 = t124 then (some false) else (some (t127 != t125))))) = some r := by rw [if_pos rfl] at H; exact H
                    clear H
                    have H := H1
                    clear H1
                    replace H := Option.bind_eq_some_iff.mp H
                    obtain ⟨t138, A310, H⟩ := H
                    replace H : (if t138 = true then (some false) else (if t125 = t124 then (some false) else (some (t127 != t125)))) = some r := H
                    have A31 := Aside0.mk A310
                    clear A310
                    by_cases c32 : t138 = true
                    · subst c32
                      have H1 : (some false) = some r := by rw [if_pos rfl] at H; exact H
                      clear H
                      have H := H1
                      clear H1
                      obtain rfl := Option.some.inj H
                      go_wp2_with (first | ((with_reducible refine gate_callee (f := 25) rfl ?_); refine goesL_ (some 75) rfl rfl Try.func25 (by kernel_rfl) rfl #[.int .u64 t127] rfl (by (try simp only [List.map_toArray, List.map_cons, List.map_nil]); first | done | rfl | (simp only [List.length_drop, List.length_take]; rfl)) ?_; (with_reducible refine (slot_Clear.calls t127 t133 _ A23.out).mono ?_); rintro e w' ⟨rfl, ⟨nd, rfl⟩⟩; refine ⟨_, rfl, ?_⟩) | ((with_reducible refine gate_callee (f := 11) rfl ?_); refine goesL_ (some 78) rfl rfl Try.func11 (by kernel_rfl) rfl #[.int .i64 0, .int .u32 0, .int .u32 ((a0 + 1) % 4294967296)] rfl (by (try simp only [List.map_toArray, List.map_cons, List.map_nil]); first | done | rfl | (simp only [List.length_drop, List.length_take]; rfl)) ?_; (with_reducible refine (slot_Word.calls 0 0 ((a0 + 1) % 4294967296) t134 _ A24.out).mono ?_); rintro e w' ⟨rfl, ⟨nd, rfl⟩⟩; refine ⟨_, rfl, ?_⟩) | (go_at_call 25; (with_reducible refine (slot_Clear.calls t125 t135 _ A26.out).mono ?_); rintro e w' ⟨rfl, ⟨nd, rfl⟩⟩) | (go_at_call 25; (with_reducible refine (slot_Clear.calls t127 t136 _ A27.out).mono ?_); rintro e w' ⟨rfl, ⟨nd, rfl⟩⟩) | (go_at_call 17; (with_reducible refine (slot_Meets.calls t125 (!a3) true _ A29.out).mono ?_); rintro e w' ⟨rfl, ⟨nd, rfl⟩⟩) | (go_at_call 17; (with_reducible refine (slot_Meets.calls t125 a3 true _ A31.out).mono ?_); rintro e w' ⟨rfl, ⟨nd, rfl⟩⟩))
                      go_ret
                      exact ⟨by first | rfl | (simp; done) | (simp [*]; done), by repeat (first | exact Drawn0.refl _ | apply Drawn0.step)⟩
                    · replace c32 := Bool.eq_false_iff.mpr c32
                      subst c32
                      have H1 : (if t125 = t124 then (some false) else (some (t127 != t125))) = some r := by rw [if_neg (show ¬ (false = true) by decide)] at H; exact H
                      clear H
                      have H := H1
                      clear H1
                      by_cases c33 : t125 = t124
                      · rw [if_pos c33] at H
                        have c33b0 : (t125 == t124) = true := beq_iff_eq.mpr c33
                        have c33b1 : (t125 != t124) = false := bne_eq_false_iff_eq.mpr c33
                        clear c33
                        obtain rfl := Option.some.inj H
                        go_wp2_with (first | ((with_reducible refine gate_callee (f := 25) rfl ?_); refine goesL_ (some 75) rfl rfl Try.func25 (by kernel_rfl) rfl #[.int .u64 t127] rfl (by (try simp only [List.map_toArray, List.map_cons, List.map_nil]); first | done | rfl | (simp only [List.length_drop, List.length_take]; rfl)) ?_; (with_reducible refine (slot_Clear.calls t127 t133 _ A23.out).mono ?_); rintro e w' ⟨rfl, ⟨nd, rfl⟩⟩; refine ⟨_, rfl, ?_⟩) | ((with_reducible refine gate_callee (f := 11) rfl ?_); refine goesL_ (some 78) rfl rfl Try.func11 (by kernel_rfl) rfl #[.int .i64 0, .int .u32 0, .int .u32 ((a0 + 1) % 4294967296)] rfl (by (try simp only [List.map_toArray, List.map_cons, List.map_nil]); first | done | rfl | (simp only [List.length_drop, List.length_take]; rfl)) ?_; (with_reducible refine (slot_Word.calls 0 0 ((a0 + 1) % 4294967296) t134 _ A24.out).mono ?_); rintro e w' ⟨rfl, ⟨nd, rfl⟩⟩; refine ⟨_, rfl, ?_⟩) | (go_at_call 25; (with_reducible refine (slot_Clear.calls t125 t135 _ A26.out).mono ?_); rintro e w' ⟨rfl, ⟨nd, rfl⟩⟩) | (go_at_call 25; (with_reducible refine (slot_Clear.calls t127 t136 _ A27.out).mono ?_); rintro e w' ⟨rfl, ⟨nd, rfl⟩⟩) | (go_at_call 17; (with_reducible refine (slot_Meets.calls t125 (!a3) true _ A29.out).mono ?_); rintro e w' ⟨rfl, ⟨nd, rfl⟩⟩) | (go_at_call 17; (with_reducible refine (slot_Meets.calls t125 a3 false _ A31.out).mono ?_); rintro e w' ⟨rfl, ⟨nd, rfl⟩⟩))
                        go_ret
                        exact ⟨by first | rfl | (simp; done) | (simp [*]; done), by repeat (first | exact Drawn0.refl _ | apply Drawn0.step)⟩
                      · rw [if_neg c33] at H
                        have c33b0 : (t125 == t124) = false := beq_eq_false_iff_ne.mpr c33
                        have c33b1 : (t125 != t124) = true := bne_iff_ne.mpr c33
                        obtain rfl := Option.some.inj H
                        go_wp2_with (first | ((with_reducible refine gate_callee (f := 25) rfl ?_); refine goesL_ (some 75) rfl rfl Try.func25 (by kernel_rfl) rfl #[.int .u64 t127] rfl (by (try simp only [List.map_toArray, List.map_cons, List.map_nil]); first | done | rfl | (simp only [List.length_drop, List.length_take]; rfl)) ?_; (with_reducible refine (slot_Clear.calls t127 t133 _ A23.out).mono ?_); rintro e w' ⟨rfl, ⟨nd, rfl⟩⟩; refine ⟨_, rfl, ?_⟩) | ((with_reducible refine gate_callee (f := 11) rfl ?_); refine goesL_ (some 78) rfl rfl Try.func11 (by kernel_rfl) rfl #[.int .i64 0, .int .u32 0, .int .u32 ((a0 + 1) % 4294967296)] rfl (by (try simp only [List.map_toArray, List.map_cons, List.map_nil]); first | done | rfl | (simp only [List.length_drop, List.length_take]; rfl)) ?_; (with_reducible refine (slot_Word.calls 0 0 ((a0 + 1) % 4294967296) t134 _ A24.out).mono ?_); rintro e w' ⟨rfl, ⟨nd, rfl⟩⟩; refine ⟨_, rfl, ?_⟩) | (go_at_call 25; (with_reducible refine (slot_Clear.calls t125 t135 _ A26.out).mono ?_); rintro e w' ⟨rfl, ⟨nd, rfl⟩⟩) | (go_at_call 25; (with_reducible refine (slot_Clear.calls t127 t136 _ A27.out).mono ?_); rintro e w' ⟨rfl, ⟨nd, rfl⟩⟩) | (go_at_call 17; (with_reducible refine (slot_Meets.calls t125 (!a3) true _ A29.out).mono ?_); rintro e w' ⟨rfl, ⟨nd, rfl⟩⟩) | (go_at_call 17; (with_reducible refine (slot_Meets.calls t125 a3 false _ A31.out).mono ?_); rintro e w' ⟨rfl, ⟨nd, rfl⟩⟩))
                        go_ret
                        exact ⟨by first | rfl | (simp; done) | (simp [*]; done), by repeat (first | exact Drawn0.refl _ | apply Drawn0.step)⟩
                  · replace c30 := Bool.eq_false_iff.mpr c30
                    subst c30
                    have H1 : (some false) = some r := by rw [if_neg (show ¬ (false = true) by decide)] at H; exact H
                    clear H
                    have H := H1
                    clear H1
                    obtain rfl := Option.some.inj H
                    go_wp2_with (first | ((with_reducible refine gate_callee (f := 25) rfl ?_); refine goesL_ (some 75) rfl rfl Try.func25 (by kernel_rfl) rfl #[.int .u64 t127] rfl (by (try simp only [List.map_toArray, List.map_cons, List.map_nil]); first | done | rfl | (simp only [List.length_drop, List.length_take]; rfl)) ?_; (with_reducible refine (slot_Clear.calls t127 t133 _ A23.out).mono ?_); rintro e w' ⟨rfl, ⟨nd, rfl⟩⟩; refine ⟨_, rfl, ?_⟩) | ((with_reducible refine gate_callee (f := 11) rfl ?_); refine goesL_ (some 78) rfl rfl Try.func11 (by kernel_rfl) rfl #[.int .i64 0, .int .u32 0, .int .u32 ((a0 + 1) % 4294967296)] rfl (by (try simp only [List.map_toArray, List.map_cons, List.map_nil]); first | done | rfl | (simp only [List.length_drop, List.length_take]; rfl)) ?_; (with_reducible refine (slot_Word.calls 0 0 ((a0 + 1) % 4294967296) t134 _ A24.out).mono ?_); rintro e w' ⟨rfl, ⟨nd, rfl⟩⟩; refine ⟨_, rfl, ?_⟩) | (go_at_call 25; (with_reducible refine (slot_Clear.calls t125 t135 _ A26.out).mono ?_); rintro e w' ⟨rfl, ⟨nd, rfl⟩⟩) | (go_at_call 25; (with_reducible refine (slot_Clear.calls t127 t136 _ A27.out).mono ?_); rintro e w' ⟨rfl, ⟨nd, rfl⟩⟩) | (go_at_call 17; (with_reducible refine (slot_Meets.calls t125 (!a3) false _ A29.out).mono ?_); rintro e w' ⟨rfl, ⟨nd, rfl⟩⟩))
                    go_ret
                    exact ⟨by first | rfl | (simp; done) | (simp [*]; done), by repeat (first | exact Drawn0.refl _ | apply Drawn0.step)⟩
                · rw [if_neg c28] at H
                  have c28b0 : (t135 == t136) = false := beq_eq_false_iff_ne.mpr c28
                  have c28b1 : (t135 != t136) = true := bne_iff_ne.mpr c28
                  obtain rfl := Option.some.inj H
                  go_wp2_with (first | ((with_reducible refine gate_callee (f := 25) rfl ?_); refine goesL_ (some 75) rfl rfl Try.func25 (by kernel_rfl) rfl #[.int .u64 t127] rfl (by (try simp only [List.map_toArray, List.map_cons, List.map_nil]); first | done | rfl | (simp only [List.length_drop, List.length_take]; rfl)) ?_; (with_reducible refine (slot_Clear.calls t127 t133 _ A23.out).mono ?_); rintro e w' ⟨rfl, ⟨nd, rfl⟩⟩; refine ⟨_, rfl, ?_⟩) | ((with_reducible refine gate_callee (f := 11) rfl ?_); refine goesL_ (some 78) rfl rfl Try.func11 (by kernel_rfl) rfl #[.int .i64 0, .int .u32 0, .int .u32 ((a0 + 1) % 4294967296)] rfl (by (try simp only [List.map_toArray, List.map_cons, List.map_nil]); first | done | rfl | (simp only [List.length_drop, List.length_take]; rfl)) ?_; (with_reducible refine (slot_Word.calls 0 0 ((a0 + 1) % 4294967296) t134 _ A24.out).mono ?_); rintro e w' ⟨rfl, ⟨nd, rfl⟩⟩; refine ⟨_, rfl, ?_⟩) | (go_at_call 25; (with_reducible refine (slot_Clear.calls t125 t135 _ A26.out).mono ?_); rintro e w' ⟨rfl, ⟨nd, rfl⟩⟩) | (go_at_call 25; (with_reducible refine (slot_Clear.calls t127 t136 _ A27.out).mono ?_); rintro e w' ⟨rfl, ⟨nd, rfl⟩⟩))
                  go_ret
                  exact ⟨by first | rfl | (simp; done) | (simp [*]; done), by repeat (first | exact Drawn0.refl _ | apply Drawn0.step)⟩
              · rw [if_neg c25] at H
                have c25b0 : (t133 == t134) = false := beq_eq_false_iff_ne.mpr c25
                have c25b1 : (t133 != t134) = true := bne_iff_ne.mpr c25
                obtain rfl := Option.some.inj H
                go_wp2_with (first | ((with_reducible refine gate_callee (f := 25) rfl ?_); refine goesL_ (some 75) rfl rfl Try.func25 (by kernel_rfl) rfl #[.int .u64 t127] rfl (by (try simp only [List.map_toArray, List.map_cons, List.map_nil]); first | done | rfl | (simp only [List.length_drop, List.length_take]; rfl)) ?_; (with_reducible refine (slot_Clear.calls t127 t133 _ A23.out).mono ?_); rintro e w' ⟨rfl, ⟨nd, rfl⟩⟩; refine ⟨_, rfl, ?_⟩) | ((with_reducible refine gate_callee (f := 11) rfl ?_); refine goesL_ (some 78) rfl rfl Try.func11 (by kernel_rfl) rfl #[.int .i64 0, .int .u32 0, .int .u32 ((a0 + 1) % 4294967296)] rfl (by (try simp only [List.map_toArray, List.map_cons, List.map_nil]); first | done | rfl | (simp only [List.length_drop, List.length_take]; rfl)) ?_; (with_reducible refine (slot_Word.calls 0 0 ((a0 + 1) % 4294967296) t134 _ A24.out).mono ?_); rintro e w' ⟨rfl, ⟨nd, rfl⟩⟩; refine ⟨_, rfl, ?_⟩))
                go_ret
                exact ⟨by first | rfl | (simp; done) | (simp [*]; done), by repeat (first | exact Drawn0.refl _ | apply Drawn0.step)⟩
  · replace c6 := Bool.eq_false_iff.mpr c6
    subst c6
    have H1 : (some false) = some r := by rw [if_neg (show ¬ (false = true) by decide)] at H; exact H
    clear H
    have H := H1
    clear H1
    obtain rfl := Option.some.inj H
    go_enter Try.func7, Try.ntmps7
    go_wp2_with (first | ((with_reducible refine gate_callee (f := 9) rfl ?_); refine goesL_ (some 18) rfl rfl Try.func9 (by kernel_rfl) rfl #[] rfl (by (try simp only [List.map_toArray, List.map_cons, List.map_nil]); first | done | rfl | (simp only [List.length_drop, List.length_take]; rfl)) ?_; (with_reducible refine (hatstandlaw9_shown.calls  false _ A5.out).mono ?_); rintro e w' ⟨rfl, ⟨nd, rfl⟩⟩; refine ⟨_, rfl, ?_⟩))
    go_ret
    exact ⟨by first | rfl | (simp; done) | (simp [*]; done), by repeat (first | exact Drawn0.refl _ | apply Drawn0.step)⟩

/-- THE ONE PURE STATEMENT of hatstandlaw9_SlotRound: yours. -/
def hatstandlaw9_SlotRound.Pure : Prop := ∀ (a0 : Int) (a1 : Int) (a2 : Int) (a3 : Bool), (Lit.int .u32 a0).wf = true → (Lit.int .u32 a1).wf = true → (Lit.int .u32 a2).wf = true → ∃ k, hatstandlaw9_SlotRound.f k a0 a1 a2 a3 = some true
theorem hatstandlaw9_SlotRound.walk (P : hatstandlaw9_SlotRound.Pure) (a0 : Int) (a1 : Int) (a2 : Int) (a3 : Bool) (w : World) (w0 : (Lit.int .u32 a0).wf = true) (w1 : (Lit.int .u32 a1).wf = true) (w2 : (Lit.int .u32 a2).wf = true) :
    Calls Try.prog 7 #[.int .u32 a0, .int .u32 a1, .int .u32 a2, .bool a3] w fun e w' => e = .returned (.bool true) ∧ Below w.heap.size w w' := by
  obtain ⟨k, h⟩ := P a0 a1 a2 a3 w0 w1 w2
  refine (hatstandlaw9_SlotRound.calls k a0 a1 a2 a3 true w h).mono ?_
  rintro e w' ⟨rfl, hd⟩
  exact ⟨rfl, hd.below⟩

end Go.Proofs.Ytijkmjhfhnhjeaa.PSlotRound
