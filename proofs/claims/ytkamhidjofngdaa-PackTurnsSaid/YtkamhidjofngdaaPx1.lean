/- Walks, written by a program for this claim: each Go function that the laws reach comes to what its Lean function says. -/
import Derived.Test.YtkamhidjofngdaaPx0
namespace Go.Proofs.Ytkamhidjofngdaa.P
open Go.RowKit Go.Proofs.YtkamhidjofngdaaW.PrintWords Go.Proofs.YtkamhidjofngdaaW.PrintLast Go.Proofs.YtkamhidjofngdaaW.PrintMore
attribute [local go_sem] max2_int min2_int max_two min_two max_three min_three max_four min_four   -- for this text's walks alone
set_option linter.unusedVariables false
set_option linter.unusedSimpArgs false

/-! ### pack_Word: function 10 -/
def pack_Word.f (a0 : Int) (a1 : Int) : Option (Int) := some (Go.bits .or .u64 (IntKind.u64.wrap (a0)) (IntKind.u64.wrap ((IntKind.u64.wrap (a1)) * 4294967296)))
set_option maxHeartbeats 8000000 in
set_option maxRecDepth 100000 in
theorem pack_Word.calls (a0 : Int) (a1 : Int) (r : Int) (w : World) (h : pack_Word.f a0 a1 = some r) :
    Calls Try.prog 10 #[.int .u32 a0, .int .u32 a1] w fun e w' => e = .returned (.int .u64 r) ∧ Drawn0 w w' := by
  have H : (some (Go.bits .or .u64 (IntKind.u64.wrap (a0)) (IntKind.u64.wrap ((IntKind.u64.wrap (a1)) * 4294967296)))) = some r := h
  clear h
  obtain rfl := Option.some.inj H
  go_enter Try.func10, Try.ntmps10
  go_wp2
  go_ret
  exact ⟨by first | rfl | (simp; done) | (simp [*]; done), by repeat (first | exact Drawn0.refl _ | apply Drawn0.step)⟩

-- NOT PRINTED: function 19 (pack_take)

/-! ### pack_Index: function 11 -/
def pack_Index.f (a0 : Int) : Option (Int) := some (a0 % 4294967296)
theorem pack_lower_of (a0 : Int) (w : World) : Calls Try.prog 35 #[.agg #[], .int .u64 a0] w fun e w' => e = .returned (.int .u32 (a0 % 4294967296)) ∧ w.alloc (.cells #[] 38) = w' := by
  go_enter Try.func35, Try.ntmps35
  go_wp2
  go_ret
  exact ⟨rfl, rfl⟩
theorem pack_meth_lower (w : World) : Sem.run Try.prog (method 159 38 (.agg #[]) "hatstand/pack.of") w = .ok (35, .agg #[]) w := by kernel_rfl
theorem pack_take_lower (a0 : Int) (w : World) : Calls Try.prog 19 #[.int .u64 a0, .iface 38 (.agg #[])] w fun e w' => e = .returned (.int .u32 (a0 % 4294967296)) ∧ w.alloc (.cells #[] 38) = w' := by
  have hta : ∀ (v : Value) (W : World), (Instr.typeAssert (.iface 38 v) 20 41 true).run Try.prog W = .ok (.tuple #[.iface 38 v, .bool true]) W := fun v W => by kernel_rfl
  have hme := pack_meth_lower
  go_enter Try.func19, Try.ntmps19
  go_wp2_with (go_at_call 35; refine (pack_lower_of a0 _).mono ?_; rintro e w' ⟨rfl, rfl⟩)
  go_ret
  exact ⟨rfl, rfl⟩
theorem pack_Index.calls (a0 : Int) (r : Int) (w : World) (h : pack_Index.f a0 = some r) :
    Calls Try.prog 11 #[.int .u64 a0] w fun e w' => e = .returned (.int .u32 r) ∧ Below w.heap.size w w' := by
  obtain rfl := Option.some.inj h
  go_enter Try.func11, Try.ntmps11
  go_wp2_with (go_at_call 19; refine (pack_take_lower a0 _).mono ?_; rintro e w' ⟨rfl, rfl⟩)
  go_ret
  exact ⟨rfl, (Below.refl _ _).alloc (Nat.le_refl _) _⟩

/-! ### pack_Tag: function 12 -/
def pack_Tag.f (a0 : Int) : Option (Int) := some (a0 / 4294967296 % 4294967296)
theorem pack_upper_of (a0 : Int) (w : World) : Calls Try.prog 36 #[.agg #[], .int .u64 a0] w fun e w' => e = .returned (.int .u32 (a0 / 4294967296 % 4294967296)) ∧ w.alloc (.cells #[] 39) = w' := by
  go_enter Try.func36, Try.ntmps36
  go_wp2
  go_ret
  exact ⟨rfl, rfl⟩
theorem pack_meth_upper (w : World) : Sem.run Try.prog (method 159 39 (.agg #[]) "hatstand/pack.of") w = .ok (36, .agg #[]) w := by kernel_rfl
theorem pack_take_upper (a0 : Int) (w : World) : Calls Try.prog 19 #[.int .u64 a0, .iface 39 (.agg #[])] w fun e w' => e = .returned (.int .u32 (a0 / 4294967296 % 4294967296)) ∧ w.alloc (.cells #[] 39) = w' := by
  have hta : ∀ (v : Value) (W : World), (Instr.typeAssert (.iface 39 v) 20 41 true).run Try.prog W = .ok (.tuple #[.iface 39 v, .bool true]) W := fun v W => by kernel_rfl
  have hme := pack_meth_upper
  go_enter Try.func19, Try.ntmps19
  go_wp2_with (go_at_call 36; refine (pack_upper_of a0 _).mono ?_; rintro e w' ⟨rfl, rfl⟩)
  go_ret
  exact ⟨rfl, rfl⟩
theorem pack_Tag.calls (a0 : Int) (r : Int) (w : World) (h : pack_Tag.f a0 = some r) :
    Calls Try.prog 12 #[.int .u64 a0] w fun e w' => e = .returned (.int .u32 r) ∧ Below w.heap.size w w' := by
  obtain rfl := Option.some.inj h
  go_enter Try.func12, Try.ntmps12
  go_wp2_with (go_at_call 19; refine (pack_take_upper a0 _).mono ?_; rintro e w' ⟨rfl, rfl⟩)
  go_ret
  exact ⟨rfl, (Below.refl _ _).alloc (Nat.le_refl _) _⟩

/-! ### pack_Next: function 13 -/
def pack_Next.f (a0 : Int) (a1 : Int) : Option (Int) := (pack_Tag.f a0).bind fun t101 => ((pack_Word.f a1 ((t101 + 1) % 4294967296)).bind fun t102 => (some t102))
set_option maxHeartbeats 8000000 in
set_option maxRecDepth 100000 in
theorem pack_Next.calls (a0 : Int) (a1 : Int) (r : Int) (w : World) (h : pack_Next.f a0 a1 = some r) :
    Calls Try.prog 13 #[.int .u64 a0, .int .u32 a1] w fun e w' => e = .returned (.int .u64 r) ∧ Below w.heap.size w w' := by
  have HB := Aside0.mk (Below.refl w.heap.size w)
  have H : ((pack_Tag.f a0).bind fun t101 => ((pack_Word.f a1 ((t101 + 1) % 4294967296)).bind fun t102 => (some t102))) = some r := h
  clear h
  replace H := Option.bind_eq_some_iff.mp H
  obtain ⟨t101, A30, H⟩ := H
  replace H : ((pack_Word.f a1 ((t101 + 1) % 4294967296)).bind fun t102 => (some t102)) = some r := H
  have A3 := Aside0.mk A30
  clear A30
  replace H := Option.bind_eq_some_iff.mp H
  obtain ⟨t102, A40, H⟩ := H
  replace H : (some t102) = some r := H
  have A4 := Aside0.mk A40
  clear A40
  obtain rfl := Option.some.inj H
  go_enter Try.func13, Try.ntmps13
  go_wp2_with (first | ((with_reducible refine gate_callee (f := 12) rfl ?_); refine goesL_ (some 7) rfl rfl Try.func12 (by kernel_rfl) rfl #[.int .u64 a0] rfl (by (try simp only [List.map_toArray, List.map_cons, List.map_nil]); first | done | rfl | (simp only [List.length_drop, List.length_take]; rfl)) ?_; (with_reducible refine (pack_Tag.calls a0 t101 _ A3.out).mono ?_); rintro e w5 ⟨rfl, hb⟩; refine ⟨_, rfl, ?_⟩; have n0_ := Aside0.mk (below_step (by repeat (first | (with_reducible first | exact HB.out | apply below_alloc | apply pw_below_drewN | apply below_drew1) | exact HB.out)) hb); clear HB; have HB := n0_; clear n0_; (try clear hb); (try clear hb2); (try clear hk); (try clear hi)) | ((with_reducible refine gate_callee (f := 10) rfl ?_); refine goesL_ (some 9) rfl rfl Try.func10 (by kernel_rfl) rfl #[.int .u32 a1, .int .u32 ((t101 + 1) % 4294967296)] rfl (by (try simp only [List.map_toArray, List.map_cons, List.map_nil]); first | done | rfl | (simp only [List.length_drop, List.length_take]; rfl)) ?_; (with_reducible refine (pack_Word.calls a1 ((t101 + 1) % 4294967296) t102 _ A4.out).mono ?_); rintro e w' ⟨rfl, ⟨nd, rfl⟩⟩; refine ⟨_, rfl, ?_⟩))
  go_ret
  exact ⟨by first | rfl | (simp [errW_none, errW_some] <;> rfl) | (simp [*, errW_none, errW_some] <;> rfl), by repeat (first | (with_reducible first | exact HB.out | apply below_alloc | apply pw_below_drewN | apply below_drew1) | exact HB.out)⟩

/-! ### hatstandlaw1_shown: function 9 -/
def hatstandlaw1_shown.f  : Option (Bool) := (pack_Word.f 5 1).bind fun t103 => (if t103 = 4294967301 then ((pack_Word.f 5 4294967295).bind fun t104 => ((pack_Next.f t104 7).bind fun t105 => ((pack_Word.f 7 0).bind fun t106 => (if t105 = t106 then ((pack_Index.f 4294967301).bind fun t107 => (if t107 = 5 then ((pack_Tag.f 4294967301).bind fun t108 => (some (t108 == 1))) else (some false))) else (some false))))) else (some false))
set_option maxHeartbeats 8000000 in
set_option maxRecDepth 100000 in
theorem hatstandlaw1_shown.calls  (r : Bool) (w : World) (h : hatstandlaw1_shown.f  = some r) :
    Calls Try.prog 9 #[] w fun e w' => e = .returned (.bool r) ∧ Below w.heap.size w w' := by
  have HB := Aside0.mk (Below.refl w.heap.size w)
  have H : ((pack_Word.f 5 1).bind fun t103 => (if t103 = 4294967301 then ((pack_Word.f 5 4294967295).bind fun t104 => ((pack_Next.f t104 7).bind fun t105 => ((pack_Word.f 7 0).bind fun t106 => (if t105 = t106 then ((pack_Index.f 4294967301).bind fun t107 => (if t107 = 5 then ((pack_Tag.f 4294967301).bind fun t108 => (some (t108 == 1))) else (some false))) else (some false))))) else (some false))) = some r := h
  clear h
  replace H := Option.bind_eq_some_iff.mp H
  obtain ⟨t103, A10, H⟩ := H
  replace H : (if t103 = 4294967301 then ((pack_Word.f 5 4294967295).bind fun t104 => ((pack_Next.f t104 7).bind fun t105 => ((pack_Word.f 7 0).bind fun t106 => (if t105 = t106 then ((pack_Index.f 4294967301).bind fun t107 => (if t107 = 5 then ((pack_Tag.f 4294967301).bind fun t108 => (some (t108 == 1))) else (some false))) else (some false))))) else (some false)) = some r := H
  have A1 := Aside0.mk A10
  clear A10
  by_cases c2 : t103 = 4294967301
  · rw [if_pos c2] at H
    have c2b0 : (t103 == 4294967301) = true := beq_iff_eq.mpr c2
    have c2b1 : (t103 != 4294967301) = false := bne_eq_false_iff_eq.mpr c2
    clear c2
    replace H := Option.bind_eq_some_iff.mp H
    obtain ⟨t104, A30, H⟩ := H
    replace H : ((pack_Next.f t104 7).bind fun t105 => ((pack_Word.f 7 0).bind fun t106 => (if t105 = t106 then ((pack_Index.f 4294967301).bind fun t107 => (if t107 = 5 then ((pack_Tag.f 4294967301).bind fun t108 => (some (t108 == 1))) else (some false))) else (some false)))) = some r := H
    have A3 := Aside0.mk A30
    clear A30
    replace H := Option.bind_eq_some_iff.mp H
    obtain ⟨t105, A40, H⟩ := H
    replace H : ((pack_Word.f 7 0).bind fun t106 => (if t105 = t106 then ((pack_Index.f 4294967301).bind fun t107 => (if t107 = 5 then ((pack_Tag.f 4294967301).bind fun t108 => (some (t108 == 1))) else (some false))) else (some false))) = some r := H
    have A4 := Aside0.mk A40
    clear A40
    replace H := Option.bind_eq_some_iff.mp H
    obtain ⟨t106, A50, H⟩ := H
    replace H : (if t105 = t106 then ((pack_Index.f 4294967301).bind fun t107 => (if t107 = 5 then ((pack_Tag.f 4294967301).bind fun t108 => (some (t108 == 1))) else (some false))) else (some false)) = some r := H
    have A5 := Aside0.mk A50
    clear A50
    by_cases c6 : t105 = t106
    · rw [if_pos c6] at H
      have c6b0 : (t105 == t106) = true := beq_iff_eq.mpr c6
      have c6b1 : (t105 != t106) = false := bne_eq_false_iff_eq.mpr c6
      clear c6
      replace H := Option.bind_eq_some_iff.mp H
      obtain ⟨t107, A70, H⟩ := H
      replace H : (if t107 = 5 then ((pack_Tag.f 4294967301).bind fun t108 => (some (t108 == 1))) else (some false)) = some r := H
      have A7 := Aside0.mk A70
      clear A70
      by_cases c8 : t107 = 5
      · rw [if_pos c8] at H
        have c8b0 : (t107 == 5) = true := beq_iff_eq.mpr c8
        have c8b1 : (t107 != 5) = false := bne_eq_false_iff_eq.mpr c8
        clear c8
        replace H := Option.bind_eq_some_iff.mp H
        obtain ⟨t108, A90, H⟩ := H
        replace H : (some (t108 == 1)) = some r := H
        have A9 := Aside0.mk A90
        clear A90
        obtain rfl := Option.some.inj H
        go_enter Try.func9, Try.ntmps9
        go_wp2_with (first | ((with_reducible refine gate_callee (f := 10) rfl ?_); refine goesL_ (some 1) rfl rfl Try.func10 (by kernel_rfl) rfl #[.int .u32 5, .int .u32 1] rfl (by (try simp only [List.map_toArray, List.map_cons, List.map_nil]); first | done | rfl | (simp only [List.length_drop, List.length_take]; rfl)) ?_; (with_reducible refine (pack_Word.calls 5 1 t103 _ A1.out).mono ?_); rintro e w' ⟨rfl, ⟨nd, rfl⟩⟩; refine ⟨_, rfl, ?_⟩) | (go_at_call 10; (with_reducible refine (pack_Word.calls 5 4294967295 t104 _ A3.out).mono ?_); rintro e w' ⟨rfl, ⟨nd, rfl⟩⟩) | (go_at_call 13; (with_reducible refine (pack_Next.calls t104 7 t105 _ A4.out).mono ?_); rintro e w10 ⟨rfl, hb⟩; have n0_ := Aside0.mk (below_step (by repeat (first | (with_reducible first | exact HB.out | apply below_alloc | apply pw_below_drewN | apply below_drew1) | exact HB.out)) hb); clear HB; have HB := n0_; clear n0_; (try clear hb); (try clear hb2); (try clear hk); (try clear hi)) | (go_at_call 10; (with_reducible refine (pack_Word.calls 7 0 t106 _ A5.out).mono ?_); rintro e w' ⟨rfl, ⟨nd, rfl⟩⟩) | (go_at_call 11; (with_reducible refine (pack_Index.calls 4294967301 t107 _ A7.out).mono ?_); rintro e w11 ⟨rfl, hb⟩; have n0_ := Aside0.mk (below_step (by repeat (first | (with_reducible first | exact HB.out | apply below_alloc | apply pw_below_drewN | apply below_drew1) | exact HB.out)) hb); clear HB; have HB := n0_; clear n0_; (try clear hb); (try clear hb2); (try clear hk); (try clear hi)) | (go_at_call 12; (with_reducible refine (pack_Tag.calls 4294967301 t108 _ A9.out).mono ?_); rintro e w12 ⟨rfl, hb⟩; have n0_ := Aside0.mk (below_step (by repeat (first | (with_reducible first | exact HB.out | apply below_alloc | apply pw_below_drewN | apply below_drew1) | exact HB.out)) hb); clear HB; have HB := n0_; clear n0_; (try clear hb); (try clear hb2); (try clear hk); (try clear hi)))
        go_ret
        exact ⟨by first | rfl | (simp [errW_none, errW_some] <;> rfl) | (simp [*, errW_none, errW_some] <;> rfl), by repeat (first | (with_reducible first | exact HB.out | apply below_alloc | apply pw_below_drewN | apply below_drew1) | exact HB.out)⟩
      · rw [if_neg c8] at H
        have c8b0 : (t107 == 5) = false := beq_eq_false_iff_ne.mpr c8
        have c8b1 : (t107 != 5) = true := bne_iff_ne.mpr c8
        obtain rfl := Option.some.inj H
        go_enter Try.func9, Try.ntmps9
        go_wp2_with (first | ((with_reducible refine gate_callee (f := 10) rfl ?_); refine goesL_ (some 1) rfl rfl Try.func10 (by kernel_rfl) rfl #[.int .u32 5, .int .u32 1] rfl (by (try simp only [List.map_toArray, List.map_cons, List.map_nil]); first | done | rfl | (simp only [List.length_drop, List.length_take]; rfl)) ?_; (with_reducible refine (pack_Word.calls 5 1 t103 _ A1.out).mono ?_); rintro e w' ⟨rfl, ⟨nd, rfl⟩⟩; refine ⟨_, rfl, ?_⟩) | (go_at_call 10; (with_reducible refine (pack_Word.calls 5 4294967295 t104 _ A3.out).mono ?_); rintro e w' ⟨rfl, ⟨nd, rfl⟩⟩) | (go_at_call 13; (with_reducible refine (pack_Next.calls t104 7 t105 _ A4.out).mono ?_); rintro e w13 ⟨rfl, hb⟩; have n0_ := Aside0.mk (below_step (by repeat (first | (with_reducible first | exact HB.out | apply below_alloc | apply pw_below_drewN | apply below_drew1) | exact HB.out)) hb); clear HB; have HB := n0_; clear n0_; (try clear hb); (try clear hb2); (try clear hk); (try clear hi)) | (go_at_call 10; (with_reducible refine (pack_Word.calls 7 0 t106 _ A5.out).mono ?_); rintro e w' ⟨rfl, ⟨nd, rfl⟩⟩) | (go_at_call 11; (with_reducible refine (pack_Index.calls 4294967301 t107 _ A7.out).mono ?_); rintro e w14 ⟨rfl, hb⟩; have n0_ := Aside0.mk (below_step (by repeat (first | (with_reducible first | exact HB.out | apply below_alloc | apply pw_below_drewN | apply below_drew1) | exact HB.out)) hb); clear HB; have HB := n0_; clear n0_; (try clear hb); (try clear hb2); (try clear hk); (try clear hi)))
        go_ret
        exact ⟨by first | rfl | (simp [errW_none, errW_some] <;> rfl) | (simp [*, errW_none, errW_some] <;> rfl), by repeat (first | (with_reducible first | exact HB.out | apply below_alloc | apply pw_below_drewN | apply below_drew1) | exact HB.out)⟩
    · rw [if_neg c6] at H
      have c6b0 : (t105 == t106) = false := beq_eq_false_iff_ne.mpr c6
      have c6b1 : (t105 != t106) = true := bne_iff_ne.mpr c6
      obtain rfl := Option.some.inj H
      go_enter Try.func9, Try.ntmps9
      go_wp2_with (first | ((with_reducible refine gate_callee (f := 10) rfl ?_); refine goesL_ (some 1) rfl rfl Try.func10 (by kernel_rfl) rfl #[.int .u32 5, .int .u32 1] rfl (by (try simp only [List.map_toArray, List.map_cons, List.map_nil]); first | done | rfl | (simp only [List.length_drop, List.length_take]; rfl)) ?_; (with_reducible refine (pack_Word.calls 5 1 t103 _ A1.out).mono ?_); rintro e w' ⟨rfl, ⟨nd, rfl⟩⟩; refine ⟨_, rfl, ?_⟩) | (go_at_call 10; (with_reducible refine (pack_Word.calls 5 4294967295 t104 _ A3.out).mono ?_); rintro e w' ⟨rfl, ⟨nd, rfl⟩⟩) | (go_at_call 13; (with_reducible refine (pack_Next.calls t104 7 t105 _ A4.out).mono ?_); rintro e w15 ⟨rfl, hb⟩; have n0_ := Aside0.mk (below_step (by repeat (first | (with_reducible first | exact HB.out | apply below_alloc | apply pw_below_drewN | apply below_drew1) | exact HB.out)) hb); clear HB; have HB := n0_; clear n0_; (try clear hb); (try clear hb2); (try clear hk); (try clear hi)) | (go_at_call 10; (with_reducible refine (pack_Word.calls 7 0 t106 _ A5.out).mono ?_); rintro e w' ⟨rfl, ⟨nd, rfl⟩⟩))
      go_ret
      exact ⟨by first | rfl | (simp [errW_none, errW_some] <;> rfl) | (simp [*, errW_none, errW_some] <;> rfl), by repeat (first | (with_reducible first | exact HB.out | apply below_alloc | apply pw_below_drewN | apply below_drew1) | exact HB.out)⟩
  · rw [if_neg c2] at H
    have c2b0 : (t103 == 4294967301) = false := beq_eq_false_iff_ne.mpr c2
    have c2b1 : (t103 != 4294967301) = true := bne_iff_ne.mpr c2
    obtain rfl := Option.some.inj H
    go_enter Try.func9, Try.ntmps9
    go_wp2_with (first | ((with_reducible refine gate_callee (f := 10) rfl ?_); refine goesL_ (some 1) rfl rfl Try.func10 (by kernel_rfl) rfl #[.int .u32 5, .int .u32 1] rfl (by (try simp only [List.map_toArray, List.map_cons, List.map_nil]); first | done | rfl | (simp only [List.length_drop, List.length_take]; rfl)) ?_; (with_reducible refine (pack_Word.calls 5 1 t103 _ A1.out).mono ?_); rintro e w' ⟨rfl, ⟨nd, rfl⟩⟩; refine ⟨_, rfl, ?_⟩))
    go_ret
    exact ⟨by first | rfl | (simp [errW_none, errW_some] <;> rfl) | (simp [*, errW_none, errW_some] <;> rfl), by repeat (first | (with_reducible first | exact HB.out | apply below_alloc | apply pw_below_drewN | apply below_drew1) | exact HB.out)⟩

/-! ### hatstandlaw1_PackBack: function 3 -/
def hatstandlaw1_PackBack.j0 : Nat → Int → Int → Bool → Option (Bool)
  | 0, _, _, _ => none
  | k + 1, x2, x3, x37 => if x37 = true then (some false) else ((pack_Index.f x2).bind fun t116 => ((pack_Index.f x3).bind fun t117 => (if t116 = t117 then ((pack_Tag.f x2).bind fun t118 => ((pack_Tag.f x3).bind fun t119 => (some ((x2 == x3) == (t118 == t119))))) else (some ((x2 == x3) == false)))))
def hatstandlaw1_PackBack.f (k : Nat) (a0 : Int) (a1 : Int) (a2 : Int) (a3 : Int) : Option (Bool) := (hatstandlaw1_shown.f).bind fun t109 => ((pack_Word.f a0 a1).bind fun t110 => (if t109 = true then ((pack_Index.f t110).bind fun t111 => (if t111 = a0 then ((pack_Tag.f t110).bind fun t112 => (if t112 = a1 then ((pack_Index.f a2).bind fun t113 => ((pack_Tag.f a2).bind fun t114 => ((pack_Word.f t113 t114).bind fun t115 => (hatstandlaw1_PackBack.j0 k a2 a3 (t115 != a2))))) else (hatstandlaw1_PackBack.j0 k a2 a3 true))) else (hatstandlaw1_PackBack.j0 k a2 a3 true))) else (hatstandlaw1_PackBack.j0 k a2 a3 true)))
theorem hatstandlaw1_PackBack.mono_l : ∀ k, (∀ y0 y1 y2, LeO (hatstandlaw1_PackBack.j0 k y0 y1 y2) (hatstandlaw1_PackBack.j0 (k + 1) y0 y1 y2))
  | 0 => fun _ _ _ r h => by simp [hatstandlaw1_PackBack.j0] at h
  | k + 1 => by
    have ih0 := hatstandlaw1_PackBack.mono_l k
    · intro y0 y1 y2
      unfold hatstandlaw1_PackBack.j0
      repeat' first
      | (with_reducible exact ih0 _ _ _)
      | (with_reducible exact LeO.refl _)
      | (with_reducible exact LeO.none _)
      | (with_reducible refine LeO.ite ?_ ?_)
      | (with_reducible refine LeO.bind ?_ (fun _ => ?_))
      | exact ih0 _ _ _
      | exact LeO.none _
      | refine LeO.ite ?_ ?_
      | refine LeO.bind ?_ (fun _ => ?_)
theorem hatstandlaw1_PackBack.mono : ∀ a0 a1 a2 a3 k, LeO (hatstandlaw1_PackBack.f k a0 a1 a2 a3) (hatstandlaw1_PackBack.f (k + 1) a0 a1 a2 a3) := by
  intro a0 a1 a2 a3 k
  have ih0 := hatstandlaw1_PackBack.mono_l k
  unfold hatstandlaw1_PackBack.f
  repeat' first
      | (with_reducible exact ih0 _ _ _)
      | (with_reducible exact LeO.refl _)
      | (with_reducible exact LeO.none _)
      | (with_reducible refine LeO.ite ?_ ?_)
      | (with_reducible refine LeO.bind ?_ (fun _ => ?_))
      | exact ih0 _ _ _
      | exact LeO.none _
      | refine LeO.ite ?_ ?_
      | refine LeO.bind ?_ (fun _ => ?_)
set_option maxHeartbeats 8000000 in
set_option maxRecDepth 100000 in
theorem hatstandlaw1_PackBack.calls (k : Nat) (a0 : Int) (a1 : Int) (a2 : Int) (a3 : Int) (r : Bool) (w : World) (h : hatstandlaw1_PackBack.f k a0 a1 a2 a3 = some r) :
    Calls Try.prog 3 #[.int .u32 a0, .int .u32 a1, .int .u64 a2, .int .u64 a3] w fun e w' => e = .returned (.bool r) ∧ Below w.heap.size w w' := by
  have HB := Aside0.mk (Below.refl w.heap.size w)
  have H : ((hatstandlaw1_shown.f).bind fun t109 => ((pack_Word.f a0 a1).bind fun t110 => (if t109 = true then ((pack_Index.f t110).bind fun t111 => (if t111 = a0 then ((pack_Tag.f t110).bind fun t112 => (if t112 = a1 then ((pack_Index.f a2).bind fun t113 => ((pack_Tag.f a2).bind fun t114 => ((pack_Word.f t113 t114).bind fun t115 => (hatstandlaw1_PackBack.j0 k a2 a3 (t115 != a2))))) else (hatstandlaw1_PackBack.j0 k a2 a3 true))) else (hatstandlaw1_PackBack.j0 k a2 a3 true))) else (hatstandlaw1_PackBack.j0 k a2 a3 true)))) = some r := h
  clear h
  replace H := Option.bind_eq_some_iff.mp H
  obtain ⟨t109, A50, H⟩ := H
  replace H : ((pack_Word.f a0 a1).bind fun t110 => (if t109 = true then ((pack_Index.f t110).bind fun t111 => (if t111 = a0 then ((pack_Tag.f t110).bind fun t112 => (if t112 = a1 then ((pack_Index.f a2).bind fun t113 => ((pack_Tag.f a2).bind fun t114 => ((pack_Word.f t113 t114).bind fun t115 => (hatstandlaw1_PackBack.j0 k a2 a3 (t115 != a2))))) else (hatstandlaw1_PackBack.j0 k a2 a3 true))) else (hatstandlaw1_PackBack.j0 k a2 a3 true))) else (hatstandlaw1_PackBack.j0 k a2 a3 true))) = some r := H
  have A5 := Aside0.mk A50
  clear A50
  replace H := Option.bind_eq_some_iff.mp H
  obtain ⟨t110, A60, H⟩ := H
  replace H : (if t109 = true then ((pack_Index.f t110).bind fun t111 => (if t111 = a0 then ((pack_Tag.f t110).bind fun t112 => (if t112 = a1 then ((pack_Index.f a2).bind fun t113 => ((pack_Tag.f a2).bind fun t114 => ((pack_Word.f t113 t114).bind fun t115 => (hatstandlaw1_PackBack.j0 k a2 a3 (t115 != a2))))) else (hatstandlaw1_PackBack.j0 k a2 a3 true))) else (hatstandlaw1_PackBack.j0 k a2 a3 true))) else (hatstandlaw1_PackBack.j0 k a2 a3 true)) = some r := H
  have A6 := Aside0.mk A60
  clear A60
  have HC7 := Aside0.mk H
  clear H
  go_enter Try.func3, Try.ntmps3
  go_upto_region 3 with (first | ((with_reducible refine gate_callee (f := 9) rfl ?_); refine goesL_ (some 11) rfl rfl Try.func9 (by kernel_rfl) rfl #[] rfl (by (try simp only [List.map_toArray, List.map_cons, List.map_nil]); first | done | rfl | (simp only [List.length_drop, List.length_take]; rfl)) ?_; (with_reducible refine (hatstandlaw1_shown.calls  t109 _ A5.out).mono ?_); rintro e w8 ⟨rfl, hb⟩; refine ⟨_, rfl, ?_⟩; have n0_ := Aside0.mk (below_step (by repeat (first | (with_reducible first | exact HB.out | apply below_alloc | apply pw_below_drewN | apply below_drew1) | exact HB.out)) hb); clear HB; have HB := n0_; clear n0_; (try clear hb); (try clear hb2); (try clear hk); (try clear hi)) | ((with_reducible refine gate_callee (f := 10) rfl ?_); refine goesL_ (some 14) rfl rfl Try.func10 (by kernel_rfl) rfl #[.int .u32 a0, .int .u32 a1] rfl (by (try simp only [List.map_toArray, List.map_cons, List.map_nil]); first | done | rfl | (simp only [List.length_drop, List.length_take]; rfl)) ?_; (with_reducible refine (pack_Word.calls a0 a1 t110 _ A6.out).mono ?_); rintro e w' ⟨rfl, ⟨nd, rfl⟩⟩; refine ⟨_, rfl, ?_⟩))
  (try simp only [Act.put, List.setIfInBounds_toArray, List.set_cons_zero, List.set_cons_succ])
  go_cut [37] (fun v37 wc => ∃ (kq : Nat) (x37_6 : Bool), v37 = .bool x37_6 ∧ Aside0 (hatstandlaw1_PackBack.j0 kq a2 a3 x37_6 = some r) ∧ Aside0 (kq ≤ k) ∧ Aside0 (Below w.heap.size w wc))
  case first =>
    have H := HC7.out
    clear HC7
    by_cases c9 : t109 = true
    · subst c9
      have H1 : ((pack_Index.f t110).bind fun t111 => (if t111 = a0 then ((pack_Tag.f t110).bind fun t112 => (if t112 = a1 then ((pack_Index.f a2).bind fun t113 => ((pack_Tag.f a2).bind fun t114 => ((pack_Word.f t113 t114).bind fun t115 => (hatstandlaw1_PackBack.j0 k a2 a3 (t115 != a2))))) else (hatstandlaw1_PackBack.j0 k a2 a3 true))) else (hatstandlaw1_PackBack.j0 k a2 a3 true))) = some r := by rw [if_pos rfl] at H; exact H
      clear H
      have H := H1
      clear H1
      replace H := Option.bind_eq_some_iff.mp H
      obtain ⟨t111, A100, H⟩ := H
      replace H : (if t111 = a0 then ((pack_Tag.f t110).bind fun t112 => (if t112 = a1 then ((pack_Index.f a2).bind fun t113 => ((pack_Tag.f a2).bind fun t114 => ((pack_Word.f t113 t114).bind fun t115 => (hatstandlaw1_PackBack.j0 k a2 a3 (t115 != a2))))) else (hatstandlaw1_PackBack.j0 k a2 a3 true))) else (hatstandlaw1_PackBack.j0 k a2 a3 true)) = some r := H
      have A10 := Aside0.mk A100
      clear A100
      by_cases c11 : t111 = a0
      · rw [if_pos c11] at H
        have c11b0 : (t111 == a0) = true := beq_iff_eq.mpr c11
        have c11b1 : (t111 != a0) = false := bne_eq_false_iff_eq.mpr c11
        clear c11
        (first | rw [c11b0] | (simp only [i64_w, i32_w, Go.IntKind.wrap_u32]; rw [c11b0]) | skip)
        replace H := Option.bind_eq_some_iff.mp H
        obtain ⟨t112, A120, H⟩ := H
        replace H : (if t112 = a1 then ((pack_Index.f a2).bind fun t113 => ((pack_Tag.f a2).bind fun t114 => ((pack_Word.f t113 t114).bind fun t115 => (hatstandlaw1_PackBack.j0 k a2 a3 (t115 != a2))))) else (hatstandlaw1_PackBack.j0 k a2 a3 true)) = some r := H
        have A12 := Aside0.mk A120
        clear A120
        by_cases c13 : t112 = a1
        · rw [if_pos c13] at H
          have c13b0 : (t112 == a1) = true := beq_iff_eq.mpr c13
          have c13b1 : (t112 != a1) = false := bne_eq_false_iff_eq.mpr c13
          clear c13
          replace H := Option.bind_eq_some_iff.mp H
          obtain ⟨t113, A140, H⟩ := H
          replace H : ((pack_Tag.f a2).bind fun t114 => ((pack_Word.f t113 t114).bind fun t115 => (hatstandlaw1_PackBack.j0 k a2 a3 (t115 != a2)))) = some r := H
          have A14 := Aside0.mk A140
          clear A140
          replace H := Option.bind_eq_some_iff.mp H
          obtain ⟨t114, A150, H⟩ := H
          replace H : ((pack_Word.f t113 t114).bind fun t115 => (hatstandlaw1_PackBack.j0 k a2 a3 (t115 != a2))) = some r := H
          have A15 := Aside0.mk A150
          clear A150
          replace H := Option.bind_eq_some_iff.mp H
          obtain ⟨t115, A160, H⟩ := H
          replace H : (hatstandlaw1_PackBack.j0 k a2 a3 (t115 != a2)) = some r := H
          have A16 := Aside0.mk A160
          clear A160
          have H' := Aside0.mk H
          clear H
          go_wp2_with (first | (go_at_call 11; (with_reducible refine (pack_Index.calls t110 t111 _ A10.out).mono ?_); rintro e w17 ⟨rfl, hb⟩; have n0_ := Aside0.mk (below_step (by repeat (first | (with_reducible first | exact HB.out | apply below_alloc | apply pw_below_drewN | apply below_drew1) | exact HB.out)) hb); clear HB; have HB := n0_; clear n0_; (try clear hb); (try clear hb2); (try clear hk); (try clear hi)) | (go_at_call 12; (with_reducible refine (pack_Tag.calls t110 t112 _ A12.out).mono ?_); rintro e w18 ⟨rfl, hb⟩; have n0_ := Aside0.mk (below_step (by repeat (first | (with_reducible first | exact HB.out | apply below_alloc | apply pw_below_drewN | apply below_drew1) | exact HB.out)) hb); clear HB; have HB := n0_; clear n0_; (try clear hb); (try clear hb2); (try clear hk); (try clear hi)) | (go_at_call 11; (with_reducible refine (pack_Index.calls a2 t113 _ A14.out).mono ?_); rintro e w19 ⟨rfl, hb⟩; have n0_ := Aside0.mk (below_step (by repeat (first | (with_reducible first | exact HB.out | apply below_alloc | apply pw_below_drewN | apply below_drew1) | exact HB.out)) hb); clear HB; have HB := n0_; clear n0_; (try clear hb); (try clear hb2); (try clear hk); (try clear hi)) | (go_at_call 12; (with_reducible refine (pack_Tag.calls a2 t114 _ A15.out).mono ?_); rintro e w20 ⟨rfl, hb⟩; have n0_ := Aside0.mk (below_step (by repeat (first | (with_reducible first | exact HB.out | apply below_alloc | apply pw_below_drewN | apply below_drew1) | exact HB.out)) hb); clear HB; have HB := n0_; clear n0_; (try clear hb); (try clear hb2); (try clear hk); (try clear hi)) | (go_at_call 10; (with_reducible refine (pack_Word.calls t113 t114 t115 _ A16.out).mono ?_); rintro e w' ⟨rfl, ⟨nd, rfl⟩⟩))
          go_meet
          case rel => exact ⟨_, ((t115 != a2)), (by first | rfl | (simp; done) | (simp [*]; done)), H', ⟨by first | omega | exact Nat.le_refl _⟩, ⟨by repeat (first | (with_reducible first | exact HB.out | apply below_alloc | apply pw_below_drewN | apply below_drew1) | exact HB.out)⟩⟩
        · rw [if_neg c13] at H
          have c13b0 : (t112 == a1) = false := beq_eq_false_iff_ne.mpr c13
          have c13b1 : (t112 != a1) = true := bne_iff_ne.mpr c13
          have H' := Aside0.mk H
          clear H
          go_wp2_with (first | (go_at_call 11; (with_reducible refine (pack_Index.calls t110 t111 _ A10.out).mono ?_); rintro e w21 ⟨rfl, hb⟩; have n0_ := Aside0.mk (below_step (by repeat (first | (with_reducible first | exact HB.out | apply below_alloc | apply pw_below_drewN | apply below_drew1) | exact HB.out)) hb); clear HB; have HB := n0_; clear n0_; (try clear hb); (try clear hb2); (try clear hk); (try clear hi)) | (go_at_call 12; (with_reducible refine (pack_Tag.calls t110 t112 _ A12.out).mono ?_); rintro e w22 ⟨rfl, hb⟩; have n0_ := Aside0.mk (below_step (by repeat (first | (with_reducible first | exact HB.out | apply below_alloc | apply pw_below_drewN | apply below_drew1) | exact HB.out)) hb); clear HB; have HB := n0_; clear n0_; (try clear hb); (try clear hb2); (try clear hk); (try clear hi)))
          go_meet
          case rel => exact ⟨_, (true), (by first | rfl | (simp; done) | (simp [*]; done)), H', ⟨by first | omega | exact Nat.le_refl _⟩, ⟨by repeat (first | (with_reducible first | exact HB.out | apply below_alloc | apply pw_below_drewN | apply below_drew1) | exact HB.out)⟩⟩
      · rw [if_neg c11] at H
        have c11b0 : (t111 == a0) = false := beq_eq_false_iff_ne.mpr c11
        have c11b1 : (t111 != a0) = true := bne_iff_ne.mpr c11
        (first | rw [c11b0] | (simp only [i64_w, i32_w, Go.IntKind.wrap_u32]; rw [c11b0]) | skip)
        have H' := Aside0.mk H
        clear H
        go_wp2_with (first | (go_at_call 11; (with_reducible refine (pack_Index.calls t110 t111 _ A10.out).mono ?_); rintro e w23 ⟨rfl, hb⟩; have n0_ := Aside0.mk (below_step (by repeat (first | (with_reducible first | exact HB.out | apply below_alloc | apply pw_below_drewN | apply below_drew1) | exact HB.out)) hb); clear HB; have HB := n0_; clear n0_; (try clear hb); (try clear hb2); (try clear hk); (try clear hi)))
        go_meet
        case rel => exact ⟨_, (true), (by first | rfl | (simp; done) | (simp [*]; done)), H', ⟨by first | omega | exact Nat.le_refl _⟩, ⟨by repeat (first | (with_reducible first | exact HB.out | apply below_alloc | apply pw_below_drewN | apply below_drew1) | exact HB.out)⟩⟩
    · replace c9 := Bool.eq_false_iff.mpr c9
      subst c9
      have H1 : (hatstandlaw1_PackBack.j0 k a2 a3 true) = some r := by rw [if_neg (show ¬ (false = true) by decide)] at H; exact H
      clear H
      have H := H1
      clear H1
      have H' := Aside0.mk H
      clear H
      go_wp2
      go_meet
      case rel => exact ⟨_, (true), (by first | rfl | (simp; done) | (simp [*]; done)), H', ⟨by first | omega | exact Nat.le_refl _⟩, ⟨by repeat (first | (with_reducible first | exact HB.out | apply below_alloc | apply pw_below_drewN | apply below_drew1) | exact HB.out)⟩⟩
  case rest =>
    clear HC7
    try clear c1
    try clear p2
    try clear c3
    try clear c9
    try clear c10
    try clear c11
    try clear c11b0
    try clear c11b1
    try clear c13
    try clear c13b0
    try clear c13b1
    obtain ⟨kq, x37_6, rfl, HA, HJ6, HB⟩ := hcut
    cases kq with
    | zero => exact absurd HA.out (by simp [hatstandlaw1_PackBack.j0])
    | succ kj6 =>
      have H := HA.out
      clear HA
      simp only [hatstandlaw1_PackBack.j0] at H
      by_cases c24 : x37_6 = true
      · subst c24
        have H1 : (some false) = some r := by rw [if_pos rfl] at H; exact H
        clear H
        have H := H1
        clear H1
        obtain rfl := Option.some.inj H
        go_wp2
        go_ret
        exact ⟨by first | rfl | (simp [errW_none, errW_some] <;> rfl) | (simp [*, errW_none, errW_some] <;> rfl), by repeat (first | (with_reducible first | exact HB.out | apply below_alloc | apply pw_below_drewN | apply below_drew1) | exact HB.out)⟩
      · replace c24 := Bool.eq_false_iff.mpr c24
        subst c24
        have H1 : ((pack_Index.f a2).bind fun t116 => ((pack_Index.f a3).bind fun t117 => (if t116 = t117 then ((pack_Tag.f a2).bind fun t118 => ((pack_Tag.f a3).bind fun t119 => (some ((a2 == a3) == (t118 == t119))))) else (some ((a2 == a3) == false))))) = some r := by rw [if_neg (show ¬ (false = true) by decide)] at H; exact H
        clear H
        have H := H1
        clear H1
        replace H := Option.bind_eq_some_iff.mp H
        obtain ⟨t116, A250, H⟩ := H
        replace H : ((pack_Index.f a3).bind fun t117 => (if t116 = t117 then ((pack_Tag.f a2).bind fun t118 => ((pack_Tag.f a3).bind fun t119 => (some ((a2 == a3) == (t118 == t119))))) else (some ((a2 == a3) == false)))) = some r := H
        have A25 := Aside0.mk A250
        clear A250
        replace H := Option.bind_eq_some_iff.mp H
        obtain ⟨t117, A260, H⟩ := H
        replace H : (if t116 = t117 then ((pack_Tag.f a2).bind fun t118 => ((pack_Tag.f a3).bind fun t119 => (some ((a2 == a3) == (t118 == t119))))) else (some ((a2 == a3) == false))) = some r := H
        have A26 := Aside0.mk A260
        clear A260
        by_cases c27 : t116 = t117
        · rw [if_pos c27] at H
          have c27b0 : (t116 == t117) = true := beq_iff_eq.mpr c27
          have c27b1 : (t116 != t117) = false := bne_eq_false_iff_eq.mpr c27
          clear c27
          replace H := Option.bind_eq_some_iff.mp H
          obtain ⟨t118, A280, H⟩ := H
          replace H : ((pack_Tag.f a3).bind fun t119 => (some ((a2 == a3) == (t118 == t119)))) = some r := H
          have A28 := Aside0.mk A280
          clear A280
          replace H := Option.bind_eq_some_iff.mp H
          obtain ⟨t119, A290, H⟩ := H
          replace H : (some ((a2 == a3) == (t118 == t119))) = some r := H
          have A29 := Aside0.mk A290
          clear A290
          obtain rfl := Option.some.inj H
          go_wp2_with (first | ((with_reducible refine gate_callee (f := 11) rfl ?_); refine goesL_ (some 42) rfl rfl Try.func11 (by kernel_rfl) rfl #[.int .u64 a2] rfl (by (try simp only [List.map_toArray, List.map_cons, List.map_nil]); first | done | rfl | (simp only [List.length_drop, List.length_take]; rfl)) ?_; (with_reducible refine (pack_Index.calls a2 t116 _ A25.out).mono ?_); rintro e w30 ⟨rfl, hb⟩; refine ⟨_, rfl, ?_⟩; have n0_ := Aside0.mk (below_step (by repeat (first | (with_reducible first | exact HB.out | apply below_alloc | apply pw_below_drewN | apply below_drew1) | exact HB.out)) hb); clear HB; have HB := n0_; clear n0_; (try clear hb); (try clear hb2); (try clear hk); (try clear hi)) | ((with_reducible refine gate_callee (f := 11) rfl ?_); refine goesL_ (some 44) rfl rfl Try.func11 (by kernel_rfl) rfl #[.int .u64 a3] rfl (by (try simp only [List.map_toArray, List.map_cons, List.map_nil]); first | done | rfl | (simp only [List.length_drop, List.length_take]; rfl)) ?_; (with_reducible refine (pack_Index.calls a3 t117 _ A26.out).mono ?_); rintro e w31 ⟨rfl, hb⟩; refine ⟨_, rfl, ?_⟩; have n0_ := Aside0.mk (below_step (by repeat (first | (with_reducible first | exact HB.out | apply below_alloc | apply pw_below_drewN | apply below_drew1) | exact HB.out)) hb); clear HB; have HB := n0_; clear n0_; (try clear hb); (try clear hb2); (try clear hk); (try clear hi)) | (go_at_call 12; (with_reducible refine (pack_Tag.calls a2 t118 _ A28.out).mono ?_); rintro e w32 ⟨rfl, hb⟩; have n0_ := Aside0.mk (below_step (by repeat (first | (with_reducible first | exact HB.out | apply below_alloc | apply pw_below_drewN | apply below_drew1) | exact HB.out)) hb); clear HB; have HB := n0_; clear n0_; (try clear hb); (try clear hb2); (try clear hk); (try clear hi)) | (go_at_call 12; (with_reducible refine (pack_Tag.calls a3 t119 _ A29.out).mono ?_); rintro e w33 ⟨rfl, hb⟩; have n0_ := Aside0.mk (below_step (by repeat (first | (with_reducible first | exact HB.out | apply below_alloc | apply pw_below_drewN | apply below_drew1) | exact HB.out)) hb); clear HB; have HB := n0_; clear n0_; (try clear hb); (try clear hb2); (try clear hk); (try clear hi)))
          go_ret
          exact ⟨by first | rfl | (simp [errW_none, errW_some] <;> rfl) | (simp [*, errW_none, errW_some] <;> rfl), by repeat (first | (with_reducible first | exact HB.out | apply below_alloc | apply pw_below_drewN | apply below_drew1) | exact HB.out)⟩
        · rw [if_neg c27] at H
          have c27b0 : (t116 == t117) = false := beq_eq_false_iff_ne.mpr c27
          have c27b1 : (t116 != t117) = true := bne_iff_ne.mpr c27
          obtain rfl := Option.some.inj H
          go_wp2_with (first | ((with_reducible refine gate_callee (f := 11) rfl ?_); refine goesL_ (some 42) rfl rfl Try.func11 (by kernel_rfl) rfl #[.int .u64 a2] rfl (by (try simp only [List.map_toArray, List.map_cons, List.map_nil]); first | done | rfl | (simp only [List.length_drop, List.length_take]; rfl)) ?_; (with_reducible refine (pack_Index.calls a2 t116 _ A25.out).mono ?_); rintro e w34 ⟨rfl, hb⟩; refine ⟨_, rfl, ?_⟩; have n0_ := Aside0.mk (below_step (by repeat (first | (with_reducible first | exact HB.out | apply below_alloc | apply pw_below_drewN | apply below_drew1) | exact HB.out)) hb); clear HB; have HB := n0_; clear n0_; (try clear hb); (try clear hb2); (try clear hk); (try clear hi)) | ((with_reducible refine gate_callee (f := 11) rfl ?_); refine goesL_ (some 44) rfl rfl Try.func11 (by kernel_rfl) rfl #[.int .u64 a3] rfl (by (try simp only [List.map_toArray, List.map_cons, List.map_nil]); first | done | rfl | (simp only [List.length_drop, List.length_take]; rfl)) ?_; (with_reducible refine (pack_Index.calls a3 t117 _ A26.out).mono ?_); rintro e w35 ⟨rfl, hb⟩; refine ⟨_, rfl, ?_⟩; have n0_ := Aside0.mk (below_step (by repeat (first | (with_reducible first | exact HB.out | apply below_alloc | apply pw_below_drewN | apply below_drew1) | exact HB.out)) hb); clear HB; have HB := n0_; clear n0_; (try clear hb); (try clear hb2); (try clear hk); (try clear hi)))
          go_ret
          exact ⟨by first | rfl | (simp [errW_none, errW_some] <;> rfl) | (simp [*, errW_none, errW_some] <;> rfl), by repeat (first | (with_reducible first | exact HB.out | apply below_alloc | apply pw_below_drewN | apply below_drew1) | exact HB.out)⟩

/-- THE ONE PURE STATEMENT of hatstandlaw1_PackBack. -/
def hatstandlaw1_PackBack.Pure : Prop := ∀ (a0 : Int) (a1 : Int) (a2 : Int) (a3 : Int), (Lit.int .u32 a0).wf = true → (Lit.int .u32 a1).wf = true → (Lit.int .u64 a2).wf = true → (Lit.int .u64 a3).wf = true → ∃ k, hatstandlaw1_PackBack.f k a0 a1 a2 a3 = some true
theorem hatstandlaw1_PackBack.walk (P : hatstandlaw1_PackBack.Pure) (a0 : Int) (a1 : Int) (a2 : Int) (a3 : Int) (w : World)  (hw0 : (Lit.int .u32 a0).wf = true) (hw1 : (Lit.int .u32 a1).wf = true) (hw2 : (Lit.int .u64 a2).wf = true) (hw3 : (Lit.int .u64 a3).wf = true) :
    Calls Try.prog 3 #[.int .u32 a0, .int .u32 a1, .int .u64 a2, .int .u64 a3] w fun e w' => e = .returned (.bool true) ∧ Below w.heap.size w w' := by
  obtain ⟨k, h⟩ := P a0 a1 a2 a3 hw0 hw1 hw2 hw3
  refine (hatstandlaw1_PackBack.calls k a0 a1 a2 a3 true w  h).mono ?_
  rintro e w' ⟨rfl, hd⟩
  exact ⟨rfl, hd⟩

/-! ### hatstandlaw1_PackBlind: function 4 -/
def hatstandlaw1_PackBlind.f (a0 : Int) (a1 : Int) (a2 : Int) (a3 : Int) : Option (Bool) := (hatstandlaw1_shown.f).bind fun t120 => (if t120 = true then ((pack_Word.f a1 a0).bind fun t121 => ((pack_Next.f t121 a3).bind fun t122 => ((pack_Word.f a2 a0).bind fun t123 => ((pack_Next.f t123 a3).bind fun t124 => (if t122 = t124 then ((pack_Word.f a3 a0).bind fun t125 => (if t122 = t125 then (some false) else (some ((t121 == t123) == (a1 == a2))))) else (some false)))))) else (some false))
set_option maxHeartbeats 8000000 in
set_option maxRecDepth 100000 in
theorem hatstandlaw1_PackBlind.calls (a0 : Int) (a1 : Int) (a2 : Int) (a3 : Int) (r : Bool) (w : World) (h : hatstandlaw1_PackBlind.f a0 a1 a2 a3 = some r) :
    Calls Try.prog 4 #[.int .u32 a0, .int .u32 a1, .int .u32 a2, .int .u32 a3] w fun e w' => e = .returned (.bool r) ∧ Below w.heap.size w w' := by
  have HB := Aside0.mk (Below.refl w.heap.size w)
  have H : ((hatstandlaw1_shown.f).bind fun t120 => (if t120 = true then ((pack_Word.f a1 a0).bind fun t121 => ((pack_Next.f t121 a3).bind fun t122 => ((pack_Word.f a2 a0).bind fun t123 => ((pack_Next.f t123 a3).bind fun t124 => (if t122 = t124 then ((pack_Word.f a3 a0).bind fun t125 => (if t122 = t125 then (some false) else (some ((t121 == t123) == (a1 == a2))))) else (some false)))))) else (some false))) = some r := h
  clear h
  replace H := Option.bind_eq_some_iff.mp H
  obtain ⟨t120, A50, H⟩ := H
  replace H : (if t120 = true then ((pack_Word.f a1 a0).bind fun t121 => ((pack_Next.f t121 a3).bind fun t122 => ((pack_Word.f a2 a0).bind fun t123 => ((pack_Next.f t123 a3).bind fun t124 => (if t122 = t124 then ((pack_Word.f a3 a0).bind fun t125 => (if t122 = t125 then (some false) else (some ((t121 == t123) == (a1 == a2))))) else (some false)))))) else (some false)) = some r := H
  have A5 := Aside0.mk A50
  clear A50
  by_cases c6 : t120 = true
  · subst c6
    have H1 : ((pack_Word.f a1 a0).bind fun t121 => ((pack_Next.f t121 a3).bind fun t122 => ((pack_Word.f a2 a0).bind fun t123 => ((pack_Next.f t123 a3).bind fun t124 => (if t122 = t124 then ((pack_Word.f a3 a0).bind fun t125 => (if t122 = t125 then (some false) else (some ((t121 == t123) == (a1 == a2))))) else (some false)))))) = some r := by rw [if_pos rfl] at H; exact H
    clear H
    have H := H1
    clear H1
    replace H := Option.bind_eq_some_iff.mp H
    obtain ⟨t121, A70, H⟩ := H
    replace H : ((pack_Next.f t121 a3).bind fun t122 => ((pack_Word.f a2 a0).bind fun t123 => ((pack_Next.f t123 a3).bind fun t124 => (if t122 = t124 then ((pack_Word.f a3 a0).bind fun t125 => (if t122 = t125 then (some false) else (some ((t121 == t123) == (a1 == a2))))) else (some false))))) = some r := H
    have A7 := Aside0.mk A70
    clear A70
    replace H := Option.bind_eq_some_iff.mp H
    obtain ⟨t122, A80, H⟩ := H
    replace H : ((pack_Word.f a2 a0).bind fun t123 => ((pack_Next.f t123 a3).bind fun t124 => (if t122 = t124 then ((pack_Word.f a3 a0).bind fun t125 => (if t122 = t125 then (some false) else (some ((t121 == t123) == (a1 == a2))))) else (some false)))) = some r := H
    have A8 := Aside0.mk A80
    clear A80
    replace H := Option.bind_eq_some_iff.mp H
    obtain ⟨t123, A90, H⟩ := H
    replace H : ((pack_Next.f t123 a3).bind fun t124 => (if t122 = t124 then ((pack_Word.f a3 a0).bind fun t125 => (if t122 = t125 then (some false) else (some ((t121 == t123) == (a1 == a2))))) else (some false))) = some r := H
    have A9 := Aside0.mk A90
    clear A90
    replace H := Option.bind_eq_some_iff.mp H
    obtain ⟨t124, A100, H⟩ := H
    replace H : (if t122 = t124 then ((pack_Word.f a3 a0).bind fun t125 => (if t122 = t125 then (some false) else (some ((t121 == t123) == (a1 == a2))))) else (some false)) = some r := H
    have A10 := Aside0.mk A100
    clear A100
    by_cases c11 : t122 = t124
    · rw [if_pos c11] at H
      have c11b0 : (t122 == t124) = true := beq_iff_eq.mpr c11
      have c11b1 : (t122 != t124) = false := bne_eq_false_iff_eq.mpr c11
      clear c11
      replace H := Option.bind_eq_some_iff.mp H
      obtain ⟨t125, A120, H⟩ := H
      replace H : (if t122 = t125 then (some false) else (some ((t121 == t123) == (a1 == a2)))) = some r := H
      have A12 := Aside0.mk A120
      clear A120
      by_cases c13 : t122 = t125
      · rw [if_pos c13] at H
        have c13b0 : (t122 == t125) = true := beq_iff_eq.mpr c13
        have c13b1 : (t122 != t125) = false := bne_eq_false_iff_eq.mpr c13
        clear c13
        obtain rfl := Option.some.inj H
        go_enter Try.func4, Try.ntmps4
        go_wp2_with (first | ((with_reducible refine gate_callee (f := 9) rfl ?_); refine goesL_ (some 12) rfl rfl Try.func9 (by kernel_rfl) rfl #[] rfl (by (try simp only [List.map_toArray, List.map_cons, List.map_nil]); first | done | rfl | (simp only [List.length_drop, List.length_take]; rfl)) ?_; (with_reducible refine (hatstandlaw1_shown.calls  true _ A5.out).mono ?_); rintro e w14 ⟨rfl, hb⟩; refine ⟨_, rfl, ?_⟩; have n0_ := Aside0.mk (below_step (by repeat (first | (with_reducible first | exact HB.out | apply below_alloc | apply pw_below_drewN | apply below_drew1) | exact HB.out)) hb); clear HB; have HB := n0_; clear n0_; (try clear hb); (try clear hb2); (try clear hk); (try clear hi)) | ((with_reducible refine gate_callee (f := 10) rfl ?_); refine goesL_ (some 17) rfl rfl Try.func10 (by kernel_rfl) rfl #[.int .u32 a1, .int .u32 a0] rfl (by (try simp only [List.map_toArray, List.map_cons, List.map_nil]); first | done | rfl | (simp only [List.length_drop, List.length_take]; rfl)) ?_; (with_reducible refine (pack_Word.calls a1 a0 t121 _ A7.out).mono ?_); rintro e w' ⟨rfl, ⟨nd, rfl⟩⟩; refine ⟨_, rfl, ?_⟩) | ((with_reducible refine gate_callee (f := 13) rfl ?_); refine goesL_ (some 19) rfl rfl Try.func13 (by kernel_rfl) rfl #[.int .u64 t121, .int .u32 a3] rfl (by (try simp only [List.map_toArray, List.map_cons, List.map_nil]); first | done | rfl | (simp only [List.length_drop, List.length_take]; rfl)) ?_; (with_reducible refine (pack_Next.calls t121 a3 t122 _ A8.out).mono ?_); rintro e w15 ⟨rfl, hb⟩; refine ⟨_, rfl, ?_⟩; have n0_ := Aside0.mk (below_step (by repeat (first | (with_reducible first | exact HB.out | apply below_alloc | apply pw_below_drewN | apply below_drew1) | exact HB.out)) hb); clear HB; have HB := n0_; clear n0_; (try clear hb); (try clear hb2); (try clear hk); (try clear hi)) | ((with_reducible refine gate_callee (f := 10) rfl ?_); refine goesL_ (some 22) rfl rfl Try.func10 (by kernel_rfl) rfl #[.int .u32 a2, .int .u32 a0] rfl (by (try simp only [List.map_toArray, List.map_cons, List.map_nil]); first | done | rfl | (simp only [List.length_drop, List.length_take]; rfl)) ?_; (with_reducible refine (pack_Word.calls a2 a0 t123 _ A9.out).mono ?_); rintro e w' ⟨rfl, ⟨nd, rfl⟩⟩; refine ⟨_, rfl, ?_⟩) | ((with_reducible refine gate_callee (f := 13) rfl ?_); refine goesL_ (some 24) rfl rfl Try.func13 (by kernel_rfl) rfl #[.int .u64 t123, .int .u32 a3] rfl (by (try simp only [List.map_toArray, List.map_cons, List.map_nil]); first | done | rfl | (simp only [List.length_drop, List.length_take]; rfl)) ?_; (with_reducible refine (pack_Next.calls t123 a3 t124 _ A10.out).mono ?_); rintro e w16 ⟨rfl, hb⟩; refine ⟨_, rfl, ?_⟩; have n0_ := Aside0.mk (below_step (by repeat (first | (with_reducible first | exact HB.out | apply below_alloc | apply pw_below_drewN | apply below_drew1) | exact HB.out)) hb); clear HB; have HB := n0_; clear n0_; (try clear hb); (try clear hb2); (try clear hk); (try clear hi)) | (go_at_call 10; (with_reducible refine (pack_Word.calls a3 a0 t125 _ A12.out).mono ?_); rintro e w' ⟨rfl, ⟨nd, rfl⟩⟩))
        go_ret
        exact ⟨by first | rfl | (simp [errW_none, errW_some] <;> rfl) | (simp [*, errW_none, errW_some] <;> rfl), by repeat (first | (with_reducible first | exact HB.out | apply below_alloc | apply pw_below_drewN | apply below_drew1) | exact HB.out)⟩
      · rw [if_neg c13] at H
        have c13b0 : (t122 == t125) = false := beq_eq_false_iff_ne.mpr c13
        have c13b1 : (t122 != t125) = true := bne_iff_ne.mpr c13
        have A17 := A7
        have A18 := A9
        obtain rfl := Option.some.inj H
        go_enter Try.func4, Try.ntmps4
        go_wp2_with (first | ((with_reducible refine gate_callee (f := 9) rfl ?_); refine goesL_ (some 12) rfl rfl Try.func9 (by kernel_rfl) rfl #[] rfl (by (try simp only [List.map_toArray, List.map_cons, List.map_nil]); first | done | rfl | (simp only [List.length_drop, List.length_take]; rfl)) ?_; (with_reducible refine (hatstandlaw1_shown.calls  true _ A5.out).mono ?_); rintro e w19 ⟨rfl, hb⟩; refine ⟨_, rfl, ?_⟩; have n0_ := Aside0.mk (below_step (by repeat (first | (with_reducible first | exact HB.out | apply below_alloc | apply pw_below_drewN | apply below_drew1) | exact HB.out)) hb); clear HB; have HB := n0_; clear n0_; (try clear hb); (try clear hb2); (try clear hk); (try clear hi)) | ((with_reducible refine gate_callee (f := 10) rfl ?_); refine goesL_ (some 17) rfl rfl Try.func10 (by kernel_rfl) rfl #[.int .u32 a1, .int .u32 a0] rfl (by (try simp only [List.map_toArray, List.map_cons, List.map_nil]); first | done | rfl | (simp only [List.length_drop, List.length_take]; rfl)) ?_; (with_reducible refine (pack_Word.calls a1 a0 t121 _ A7.out).mono ?_); rintro e w' ⟨rfl, ⟨nd, rfl⟩⟩; refine ⟨_, rfl, ?_⟩) | ((with_reducible refine gate_callee (f := 13) rfl ?_); refine goesL_ (some 19) rfl rfl Try.func13 (by kernel_rfl) rfl #[.int .u64 t121, .int .u32 a3] rfl (by (try simp only [List.map_toArray, List.map_cons, List.map_nil]); first | done | rfl | (simp only [List.length_drop, List.length_take]; rfl)) ?_; (with_reducible refine (pack_Next.calls t121 a3 t122 _ A8.out).mono ?_); rintro e w20 ⟨rfl, hb⟩; refine ⟨_, rfl, ?_⟩; have n0_ := Aside0.mk (below_step (by repeat (first | (with_reducible first | exact HB.out | apply below_alloc | apply pw_below_drewN | apply below_drew1) | exact HB.out)) hb); clear HB; have HB := n0_; clear n0_; (try clear hb); (try clear hb2); (try clear hk); (try clear hi)) | ((with_reducible refine gate_callee (f := 10) rfl ?_); refine goesL_ (some 22) rfl rfl Try.func10 (by kernel_rfl) rfl #[.int .u32 a2, .int .u32 a0] rfl (by (try simp only [List.map_toArray, List.map_cons, List.map_nil]); first | done | rfl | (simp only [List.length_drop, List.length_take]; rfl)) ?_; (with_reducible refine (pack_Word.calls a2 a0 t123 _ A9.out).mono ?_); rintro e w' ⟨rfl, ⟨nd, rfl⟩⟩; refine ⟨_, rfl, ?_⟩) | ((with_reducible refine gate_callee (f := 13) rfl ?_); refine goesL_ (some 24) rfl rfl Try.func13 (by kernel_rfl) rfl #[.int .u64 t123, .int .u32 a3] rfl (by (try simp only [List.map_toArray, List.map_cons, List.map_nil]); first | done | rfl | (simp only [List.length_drop, List.length_take]; rfl)) ?_; (with_reducible refine (pack_Next.calls t123 a3 t124 _ A10.out).mono ?_); rintro e w21 ⟨rfl, hb⟩; refine ⟨_, rfl, ?_⟩; have n0_ := Aside0.mk (below_step (by repeat (first | (with_reducible first | exact HB.out | apply below_alloc | apply pw_below_drewN | apply below_drew1) | exact HB.out)) hb); clear HB; have HB := n0_; clear n0_; (try clear hb); (try clear hb2); (try clear hk); (try clear hi)) | (go_at_call 10; (with_reducible refine (pack_Word.calls a3 a0 t125 _ A12.out).mono ?_); rintro e w' ⟨rfl, ⟨nd, rfl⟩⟩) | (go_at_call 10; (with_reducible refine (pack_Word.calls a1 a0 t121 _ A17.out).mono ?_); rintro e w' ⟨rfl, ⟨nd, rfl⟩⟩) | (go_at_call 10; (with_reducible refine (pack_Word.calls a2 a0 t123 _ A18.out).mono ?_); rintro e w' ⟨rfl, ⟨nd, rfl⟩⟩))
        go_ret
        exact ⟨by first | rfl | (simp [errW_none, errW_some] <;> rfl) | (simp [*, errW_none, errW_some] <;> rfl), by repeat (first | (with_reducible first | exact HB.out | apply below_alloc | apply pw_below_drewN | apply below_drew1) | exact HB.out)⟩
    · rw [if_neg c11] at H
      have c11b0 : (t122 == t124) = false := beq_eq_false_iff_ne.mpr c11
      have c11b1 : (t122 != t124) = true := bne_iff_ne.mpr c11
      obtain rfl := Option.some.inj H
      go_enter Try.func4, Try.ntmps4
      go_wp2_with (first | ((with_reducible refine gate_callee (f := 9) rfl ?_); refine goesL_ (some 12) rfl rfl Try.func9 (by kernel_rfl) rfl #[] rfl (by (try simp only [List.map_toArray, List.map_cons, List.map_nil]); first | done | rfl | (simp only [List.length_drop, List.length_take]; rfl)) ?_; (with_reducible refine (hatstandlaw1_shown.calls  true _ A5.out).mono ?_); rintro e w22 ⟨rfl, hb⟩; refine ⟨_, rfl, ?_⟩; have n0_ := Aside0.mk (below_step (by repeat (first | (with_reducible first | exact HB.out | apply below_alloc | apply pw_below_drewN | apply below_drew1) | exact HB.out)) hb); clear HB; have HB := n0_; clear n0_; (try clear hb); (try clear hb2); (try clear hk); (try clear hi)) | ((with_reducible refine gate_callee (f := 10) rfl ?_); refine goesL_ (some 17) rfl rfl Try.func10 (by kernel_rfl) rfl #[.int .u32 a1, .int .u32 a0] rfl (by (try simp only [List.map_toArray, List.map_cons, List.map_nil]); first | done | rfl | (simp only [List.length_drop, List.length_take]; rfl)) ?_; (with_reducible refine (pack_Word.calls a1 a0 t121 _ A7.out).mono ?_); rintro e w' ⟨rfl, ⟨nd, rfl⟩⟩; refine ⟨_, rfl, ?_⟩) | ((with_reducible refine gate_callee (f := 13) rfl ?_); refine goesL_ (some 19) rfl rfl Try.func13 (by kernel_rfl) rfl #[.int .u64 t121, .int .u32 a3] rfl (by (try simp only [List.map_toArray, List.map_cons, List.map_nil]); first | done | rfl | (simp only [List.length_drop, List.length_take]; rfl)) ?_; (with_reducible refine (pack_Next.calls t121 a3 t122 _ A8.out).mono ?_); rintro e w23 ⟨rfl, hb⟩; refine ⟨_, rfl, ?_⟩; have n0_ := Aside0.mk (below_step (by repeat (first | (with_reducible first | exact HB.out | apply below_alloc | apply pw_below_drewN | apply below_drew1) | exact HB.out)) hb); clear HB; have HB := n0_; clear n0_; (try clear hb); (try clear hb2); (try clear hk); (try clear hi)) | ((with_reducible refine gate_callee (f := 10) rfl ?_); refine goesL_ (some 22) rfl rfl Try.func10 (by kernel_rfl) rfl #[.int .u32 a2, .int .u32 a0] rfl (by (try simp only [List.map_toArray, List.map_cons, List.map_nil]); first | done | rfl | (simp only [List.length_drop, List.length_take]; rfl)) ?_; (with_reducible refine (pack_Word.calls a2 a0 t123 _ A9.out).mono ?_); rintro e w' ⟨rfl, ⟨nd, rfl⟩⟩; refine ⟨_, rfl, ?_⟩) | ((with_reducible refine gate_callee (f := 13) rfl ?_); refine goesL_ (some 24) rfl rfl Try.func13 (by kernel_rfl) rfl #[.int .u64 t123, .int .u32 a3] rfl (by (try simp only [List.map_toArray, List.map_cons, List.map_nil]); first | done | rfl | (simp only [List.length_drop, List.length_take]; rfl)) ?_; (with_reducible refine (pack_Next.calls t123 a3 t124 _ A10.out).mono ?_); rintro e w24 ⟨rfl, hb⟩; refine ⟨_, rfl, ?_⟩; have n0_ := Aside0.mk (below_step (by repeat (first | (with_reducible first | exact HB.out | apply below_alloc | apply pw_below_drewN | apply below_drew1) | exact HB.out)) hb); clear HB; have HB := n0_; clear n0_; (try clear hb); (try clear hb2); (try clear hk); (try clear hi)))
      go_ret
      exact ⟨by first | rfl | (simp [errW_none, errW_some] <;> rfl) | (simp [*, errW_none, errW_some] <;> rfl), by repeat (first | (with_reducible first | exact HB.out | apply below_alloc | apply pw_below_drewN | apply below_drew1) | exact HB.out)⟩
  · replace c6 := Bool.eq_false_iff.mpr c6
    subst c6
    have H1 : (some false) = some r := by rw [if_neg (show ¬ (false = true) by decide)] at H; exact H
    clear H
    have H := H1
    clear H1
    obtain rfl := Option.some.inj H
    go_enter Try.func4, Try.ntmps4
    go_wp2_with (first | ((with_reducible refine gate_callee (f := 9) rfl ?_); refine goesL_ (some 12) rfl rfl Try.func9 (by kernel_rfl) rfl #[] rfl (by (try simp only [List.map_toArray, List.map_cons, List.map_nil]); first | done | rfl | (simp only [List.length_drop, List.length_take]; rfl)) ?_; (with_reducible refine (hatstandlaw1_shown.calls  false _ A5.out).mono ?_); rintro e w25 ⟨rfl, hb⟩; refine ⟨_, rfl, ?_⟩; have n0_ := Aside0.mk (below_step (by repeat (first | (with_reducible first | exact HB.out | apply below_alloc | apply pw_below_drewN | apply below_drew1) | exact HB.out)) hb); clear HB; have HB := n0_; clear n0_; (try clear hb); (try clear hb2); (try clear hk); (try clear hi)))
    go_ret
    exact ⟨by first | rfl | (simp [errW_none, errW_some] <;> rfl) | (simp [*, errW_none, errW_some] <;> rfl), by repeat (first | (with_reducible first | exact HB.out | apply below_alloc | apply pw_below_drewN | apply below_drew1) | exact HB.out)⟩

/-- THE ONE PURE STATEMENT of hatstandlaw1_PackBlind. -/
def hatstandlaw1_PackBlind.Pure : Prop := ∀ (a0 : Int) (a1 : Int) (a2 : Int) (a3 : Int), (Lit.int .u32 a0).wf = true → (Lit.int .u32 a1).wf = true → (Lit.int .u32 a2).wf = true → (Lit.int .u32 a3).wf = true → hatstandlaw1_PackBlind.f a0 a1 a2 a3 = some true
theorem hatstandlaw1_PackBlind.walk (P : hatstandlaw1_PackBlind.Pure) (a0 : Int) (a1 : Int) (a2 : Int) (a3 : Int) (w : World)  (hw0 : (Lit.int .u32 a0).wf = true) (hw1 : (Lit.int .u32 a1).wf = true) (hw2 : (Lit.int .u32 a2).wf = true) (hw3 : (Lit.int .u32 a3).wf = true) :
    Calls Try.prog 4 #[.int .u32 a0, .int .u32 a1, .int .u32 a2, .int .u32 a3] w fun e w' => e = .returned (.bool true) ∧ Below w.heap.size w w' := by
  have h := P a0 a1 a2 a3 hw0 hw1 hw2 hw3
  refine (hatstandlaw1_PackBlind.calls a0 a1 a2 a3 true w  h).mono ?_
  rintro e w' ⟨rfl, hd⟩
  exact ⟨rfl, hd⟩

/-! ### hatstandref1_Word: function 14 -/
def hatstandref1_Word.f (a0 : Int) (a1 : Int) : Option (Int) := some (IntKind.u64.wrap ((IntKind.u64.wrap (4294967296 * (IntKind.u64.wrap (a1)))) + (IntKind.u64.wrap (a0))))
set_option maxHeartbeats 8000000 in
set_option maxRecDepth 100000 in
theorem hatstandref1_Word.calls (a0 : Int) (a1 : Int) (r : Int) (w : World) (h : hatstandref1_Word.f a0 a1 = some r) :
    Calls Try.prog 14 #[.int .u32 a0, .int .u32 a1] w fun e w' => e = .returned (.int .u64 r) ∧ Drawn0 w w' := by
  have H : (some (IntKind.u64.wrap ((IntKind.u64.wrap (4294967296 * (IntKind.u64.wrap (a1)))) + (IntKind.u64.wrap (a0))))) = some r := h
  clear h
  obtain rfl := Option.some.inj H
  go_enter Try.func14, Try.ntmps14
  go_wp2
  go_ret
  exact ⟨by first | rfl | (simp; done) | (simp [*]; done), by repeat (first | exact Drawn0.refl _ | apply Drawn0.step)⟩

end Go.Proofs.Ytkamhidjofngdaa.P
