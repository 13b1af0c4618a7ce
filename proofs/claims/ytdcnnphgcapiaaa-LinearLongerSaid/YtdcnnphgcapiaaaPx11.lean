/- Walks, written by a program for this claim: each Go function that the laws reach comes to what its Lean function says. -/
import Derived.Test.YtdcnnphgcapiaaaPx0
import Derived.Test.YtdcnnphgcapiaaaPx2
import Derived.Test.YtdcnnphgcapiaaaPx7
import Derived.Test.YtdcnnphgcapiaaaPx8
import Derived.Test.YtdcnnphgcapiaaaPx9
namespace Go.Proofs.Ytdcnnphgcapiaaa.P
open Go.RowKit Go.Proofs.YtdcnnphgcapiaaaW.PrintWords Go.Proofs.YtdcnnphgcapiaaaW.PrintLast Go.Proofs.YtdcnnphgcapiaaaW.PrintMore
attribute [local go_sem] max2_int min2_int max_two min_two max_three min_three max_four min_four   -- for this text's walks alone
set_option linter.unusedVariables false
set_option linter.unusedSimpArgs false

/-! ### hatstandlaw15_LinearLonger: function 3 -/
mutual
def hatstandlaw15_LinearLonger.j0 : Nat → List (S51) → Int → Int → Int → Bool → Bool → Bool → Option (Bool)
  | 0, _, _, _, _, _, _, _ => none
  | k + 1, x0, x1, x2, x3, x4, x11, x32 => if x32 = true then (some x11) else ((hatstandlaw15_pick.f x1 4).bind fun t245 => ((hatstandlaw15_made.f k x0 t245).bind fun t246 => (if x4 = true then (if 0 < (t246.length : Int) then (hatstandlaw15_LinearLonger.j1 k x2 x3 t245 (t246.set (0 : Int).toNat (⟨(rd_T30 t246 0).f0, (rd_T30 t246 0).f1, IntKind.u64.wrap (((rd_T30 t246 0).f2) + 1), (rd_T30 t246 0).f3, (rd_T30 t246 0).f4, (rd_T30 t246 0).f5⟩ : S30))) else (none)) else (hatstandlaw15_LinearLonger.j1 k x2 x3 t245 t246))))
def hatstandlaw15_LinearLonger.j1 : Nat → Int → Int → Int → List (S30) → Option (Bool)
  | 0, _, _, _, _ => none
  | k + 1, x2, x3, x12, x13 => (hatstandlaw15_pick.f x2 (x13.length : Int)).bind fun t251 => ((some (([] : List (S30)) : List (S30))).bind fun y252 => (if y252.length + x13.length < 2932031007402 then ((some (y252 ++ x13 : List (S30))).bind fun y255 => (if 0 ≤ t251 then (if t251 < (y255.length : Int) then ((hatstandlaw15_pick.f x3 300).bind fun t259 => ((some (y255.set (t251 : Int).toNat (⟨(rd_T30 y255 t251).f0, (rd_T30 y255 t251).f1, (rd_T30 y255 t251).f2, (rd_T30 y255 t251).f3, wrap64 (((rd_T30 y255 t251).f4) - t259), (rd_T30 y255 t251).f5⟩ : S30) : List (S30))).bind fun y260 => ((hatstandlaw15_pick.f x3 700).bind fun t262 => ((some (y260.set (t251 : Int).toNat (⟨(rd_T30 y260 t251).f0, (rd_T30 y260 t251).f1, (rd_T30 y260 t251).f2, (rd_T30 y260 t251).f3, (rd_T30 y260 t251).f4, wrap64 (((rd_T30 y260 t251).f5) + t262)⟩ : S30) : List (S30))).bind fun y263 => ((linear_Find.f x13 x12).bind fun bt264 => ((linear_Find.f y263 x12).bind fun bt268 => (if bt264.2 = true then (if bt268.2 = true then ((linear_Fits.f k y263 x12 bt264.1).bind fun t272 => (some t272)) else (some false)) else (some true)))))))) else (none)) else (none))) else (none)))
end
def hatstandlaw15_LinearLonger.f (k : Nat) (l0 : List (S51)) (a1 : Int) (a2 : Int) (a3 : Int) (a4 : Bool) : Option (Bool) := (hatstandlaw15_shown.f k).bind fun t244 => (if t244 = true then (if (l0.length : Int) = 0 then (hatstandlaw15_LinearLonger.j0 k l0 a1 a2 a3 a4 t244 true) else (hatstandlaw15_LinearLonger.j0 k l0 a1 a2 a3 a4 t244 (decide ((l0.length : Int) > 6)))) else (hatstandlaw15_LinearLonger.j0 k l0 a1 a2 a3 a4 t244 true))
theorem hatstandlaw15_LinearLonger.mono_l : ∀ k, (∀ y0 y1 y2 y3 y4 y5 y6, LeO (hatstandlaw15_LinearLonger.j0 k y0 y1 y2 y3 y4 y5 y6) (hatstandlaw15_LinearLonger.j0 (k + 1) y0 y1 y2 y3 y4 y5 y6)) ∧ (∀ y0 y1 y2 y3, LeO (hatstandlaw15_LinearLonger.j1 k y0 y1 y2 y3) (hatstandlaw15_LinearLonger.j1 (k + 1) y0 y1 y2 y3))
  | 0 => ⟨fun _ _ _ _ _ _ _ r h => by simp [hatstandlaw15_LinearLonger.j0] at h, fun _ _ _ _ r h => by simp [hatstandlaw15_LinearLonger.j1] at h⟩
  | k + 1 => by
    obtain ⟨ih0, ih1⟩ := hatstandlaw15_LinearLonger.mono_l k
    refine ⟨?_, ?_⟩
    · intro y0 y1 y2 y3 y4 y5 y6
      unfold hatstandlaw15_LinearLonger.j0
      repeat' first
      | (with_reducible exact ih0 _ _ _ _ _ _ _)
      | (with_reducible exact ih1 _ _ _ _)
      | (with_reducible exact hatstandlaw15_made.mono _ _ _)
      | (with_reducible exact hatstandlaw15_shown.mono _)
      | (with_reducible exact linear_Fits.mono _ _ _ _)
      | (with_reducible exact LeO.refl _)
      | (with_reducible exact LeO.none _)
      | (with_reducible refine LeO.ite ?_ ?_)
      | (with_reducible refine LeO.bind ?_ (fun _ => ?_))
      | exact ih0 _ _ _ _ _ _ _
      | exact ih1 _ _ _ _
      | exact hatstandlaw15_made.mono _ _ _
      | exact hatstandlaw15_shown.mono _
      | exact linear_Fits.mono _ _ _ _
      | exact LeO.none _
      | refine LeO.ite ?_ ?_
      | refine LeO.bind ?_ (fun _ => ?_)
    · intro y0 y1 y2 y3
      unfold hatstandlaw15_LinearLonger.j1
      repeat' first
      | (with_reducible exact ih0 _ _ _ _ _ _ _)
      | (with_reducible exact ih1 _ _ _ _)
      | (with_reducible exact hatstandlaw15_made.mono _ _ _)
      | (with_reducible exact hatstandlaw15_shown.mono _)
      | (with_reducible exact linear_Fits.mono _ _ _ _)
      | (with_reducible exact LeO.refl _)
      | (with_reducible exact LeO.none _)
      | (with_reducible refine LeO.ite ?_ ?_)
      | (with_reducible refine LeO.bind ?_ (fun _ => ?_))
      | exact ih0 _ _ _ _ _ _ _
      | exact ih1 _ _ _ _
      | exact hatstandlaw15_made.mono _ _ _
      | exact hatstandlaw15_shown.mono _
      | exact linear_Fits.mono _ _ _ _
      | exact LeO.none _
      | refine LeO.ite ?_ ?_
      | refine LeO.bind ?_ (fun _ => ?_)
theorem hatstandlaw15_LinearLonger.mono : ∀ a0 a1 a2 a3 a4 k, LeO (hatstandlaw15_LinearLonger.f k a0 a1 a2 a3 a4) (hatstandlaw15_LinearLonger.f (k + 1) a0 a1 a2 a3 a4) := by
  intro a0 a1 a2 a3 a4 k
  obtain ⟨ih0, ih1⟩ := hatstandlaw15_LinearLonger.mono_l k
  unfold hatstandlaw15_LinearLonger.f
  repeat' first
      | (with_reducible exact ih0 _ _ _ _ _ _ _)
      | (with_reducible exact ih1 _ _ _ _)
      | (with_reducible exact hatstandlaw15_made.mono _ _ _)
      | (with_reducible exact hatstandlaw15_shown.mono _)
      | (with_reducible exact linear_Fits.mono _ _ _ _)
      | (with_reducible exact LeO.refl _)
      | (with_reducible exact LeO.none _)
      | (with_reducible refine LeO.ite ?_ ?_)
      | (with_reducible refine LeO.bind ?_ (fun _ => ?_))
      | exact ih0 _ _ _ _ _ _ _
      | exact ih1 _ _ _ _
      | exact hatstandlaw15_made.mono _ _ _
      | exact hatstandlaw15_shown.mono _
      | exact linear_Fits.mono _ _ _ _
      | exact LeO.none _
      | refine LeO.ite ?_ ?_
      | refine LeO.bind ?_ (fun _ => ?_)
def hatstandlaw15_LinearLonger.T10 : Bool × List (List Nat × List Nat) := (true, [([], []), ([], []), ([], []), ([], []), ([2, 3], [2, 3]), ([4], [4]), ([5], [5]), ([], []), ([7], [7]), ([6, 8], [6, 8]), ([0, 1, 0, 1, 2, 3, 4, 5, 6, 7, 8, 9], [0, 1]), ([10, 0, 1, 2, 3, 4, 5, 6, 7, 8, 9], [10]), ([11, 9, 8, 0, 1, 2, 3, 4, 5, 6, 7, 8, 9], [9, 11])])
def hatstandlaw15_LinearLonger.B10 : List Nat := [0, 0, 0, 0, 12, 28, 60, 0, 128, 508, 1023, 2047, 4095]
theorem hatstandlaw15_LinearLonger.tab10 : rtab .any (opsOf Try.f3 10) = hatstandlaw15_LinearLonger.T10 := by kernel_rfl
theorem hatstandlaw15_LinearLonger.bits10 : waitsOk hatstandlaw15_LinearLonger.T10.2 hatstandlaw15_LinearLonger.B10 = true := by kernel_rfl
def hatstandlaw15_LinearLonger.T11 : Bool × List (List Nat × List Nat) := (true, [([], []), ([], []), ([], []), ([], []), ([2, 3], [2, 3]), ([4], [4]), ([5], [5]), ([], []), ([7], [7]), ([6, 8], [6, 8]), ([0, 1, 0, 1, 2, 3, 4, 5, 6, 7, 8, 9], [0, 1]), ([10, 0, 1, 2, 3, 4, 5, 6, 7, 8, 9], [10]), ([11, 9, 8, 0, 1, 2, 3, 4, 5, 6, 7, 8, 9], [9, 11])])
def hatstandlaw15_LinearLonger.B11 : List Nat := [0, 0, 0, 0, 12, 28, 60, 0, 128, 508, 1023, 2047, 4095]
theorem hatstandlaw15_LinearLonger.tab11 : rtab .any (opsOf Try.f3 11) = hatstandlaw15_LinearLonger.T11 := by kernel_rfl
theorem hatstandlaw15_LinearLonger.bits11 : waitsOk hatstandlaw15_LinearLonger.T11.2 hatstandlaw15_LinearLonger.B11 = true := by kernel_rfl
set_option maxHeartbeats 8000000 in
set_option maxRecDepth 100000 in
theorem hatstandlaw15_LinearLonger.calls (k : Nat) (A0 : Option Addr) (c0 : Nat) (l0 : List (S51)) (a1 : Int) (a2 : Int) (a3 : Int) (a4 : Bool) (r : Bool) (w : World) (hr0 : Kd.C k51 w A0 l0.length l0) (hc0 : l0.length ≤ c0) (h : hatstandlaw15_LinearLonger.f k l0 a1 a2 a3 a4 = some r) (ht_ : r = true) :
    Calls Try.prog 3 #[.slice A0 l0.length c0, .int .i64 a1, .int .i64 a2, .int .i64 a3, .bool a4] w fun e w' => e = .returned (.bool r) ∧ Below w.heap.size w w' := by
  have HR0 := Aside0.mk hr0
  have HC0 := Aside0.mk hc0
  clear hr0 hc0
  have HB := Aside0.mk (Below.refl w.heap.size w)
  have HT0 := Aside0.mk ht_
  clear ht_
  have H : ((hatstandlaw15_shown.f k).bind fun t244 => (if t244 = true then (if (l0.length : Int) = 0 then (hatstandlaw15_LinearLonger.j0 k l0 a1 a2 a3 a4 t244 true) else (hatstandlaw15_LinearLonger.j0 k l0 a1 a2 a3 a4 t244 (decide ((l0.length : Int) > 6)))) else (hatstandlaw15_LinearLonger.j0 k l0 a1 a2 a3 a4 t244 true))) = some r := h
  clear h
  replace H := Option.bind_eq_some_iff.mp H
  obtain ⟨t244, A60, H⟩ := H
  replace H : (if t244 = true then (if (l0.length : Int) = 0 then (hatstandlaw15_LinearLonger.j0 k l0 a1 a2 a3 a4 t244 true) else (hatstandlaw15_LinearLonger.j0 k l0 a1 a2 a3 a4 t244 (decide ((l0.length : Int) > 6)))) else (hatstandlaw15_LinearLonger.j0 k l0 a1 a2 a3 a4 t244 true)) = some r := H
  have A6 := Aside0.mk A60
  clear A60
  have HC7 := Aside0.mk H
  clear H
  go_enter Try.func3, Try.ntmps3
  go_upto_region 2 with (first | ((with_reducible refine gate_callee (f := 9) rfl ?_); refine goesL_ (some 20) rfl rfl Try.func9 (by kernel_rfl) rfl #[] rfl (by (try simp only [List.map_toArray, List.map_cons, List.map_nil]); first | done | rfl | (simp only [List.length_drop, List.length_take]; rfl)) ?_; (with_reducible refine (hatstandlaw15_shown.calls k  t244 _ A6.out).mono ?_); rintro e w8 ⟨rfl, hb⟩; refine ⟨_, rfl, ?_⟩; have n0_ := Aside0.mk (below_step (by repeat (first | (with_reducible first | exact HB.out | apply below_alloc | apply pw_below_drewN | apply below_drew1) | exact HB.out)) hb); clear HB; have HB := n0_; clear n0_; (try clear hb); (try clear hb2); (try clear hk); (try clear hi)))
  (try simp only [Act.put, List.setIfInBounds_toArray, List.set_cons_zero, List.set_cons_succ])
  go_cut [32] (fun v32 wc => ∃ (kq : Nat) (x32_6 : Bool), v32 = .bool x32_6 ∧ Aside0 (hatstandlaw15_LinearLonger.j0 kq l0 a1 a2 a3 a4 t244 x32_6 = some r) ∧ Aside0 (kq ≤ k) ∧ Aside0 (Below w.heap.size w wc))
  case first =>
    have H := HC7.out
    clear HC7
    by_cases c9 : t244 = true
    · subst c9
      have H1 : (if (l0.length : Int) = 0 then (hatstandlaw15_LinearLonger.j0 k l0 a1 a2 a3 a4 true true) else (hatstandlaw15_LinearLonger.j0 k l0 a1 a2 a3 a4 true (decide ((l0.length : Int) > 6)))) = some r := by rw [if_pos rfl] at H; exact H
      clear H
      have H := H1
      clear H1
      by_cases c10 : (l0.length : Int) = 0
      · rw [if_pos c10] at H
        have c10b0 : ((l0.length : Int) == 0) = true := beq_iff_eq.mpr c10
        have c10b1 : ((l0.length : Int) != 0) = false := bne_eq_false_iff_eq.mpr c10
        clear c10
        (first | rw [c10b0] | (simp only [i64_w, i32_w, Go.IntKind.wrap_u32]; rw [c10b0]) | skip)
        have H' := Aside0.mk H
        clear H
        go_wp2
        go_meet
        case rel => exact ⟨_, (true), (by first | rfl | (simp; done) | (simp [*]; done)), H', ⟨by first | omega | exact Nat.le_refl _⟩, ⟨by repeat (first | (with_reducible first | exact HB.out | apply below_alloc | apply pw_below_drewN | apply below_drew1) | exact HB.out)⟩⟩
      · rw [if_neg c10] at H
        have c10b0 : ((l0.length : Int) == 0) = false := beq_eq_false_iff_ne.mpr c10
        have c10b1 : ((l0.length : Int) != 0) = true := bne_iff_ne.mpr c10
        have c10b2 : ¬ (l0 = []) := fun h_ => c10 (by rw [h_]; rfl)
        (first | rw [c10b0] | (simp only [i64_w, i32_w, Go.IntKind.wrap_u32]; rw [c10b0]) | skip)
        have H' := Aside0.mk H
        clear H
        go_wp2
        go_meet
        case rel => exact ⟨_, (decide ((l0.length : Int) > 6)), (by first | rfl | (simp; done) | (simp [*]; done)), H', ⟨by first | omega | exact Nat.le_refl _⟩, ⟨by repeat (first | (with_reducible first | exact HB.out | apply below_alloc | apply pw_below_drewN | apply below_drew1) | exact HB.out)⟩⟩
    · replace c9 := Bool.eq_false_iff.mpr c9
      subst c9
      have H1 : (hatstandlaw15_LinearLonger.j0 k l0 a1 a2 a3 a4 false true) = some r := by rw [if_neg (show ¬ (false = true) by decide)] at H; exact H
      clear H
      have H := H1
      clear H1
      have H' := Aside0.mk H
      clear H
      go_wp2
      go_meet
      case rel => exact ⟨_, (true), (by first | rfl | (simp; done) | (simp [*]; done)), H', ⟨by first | omega | exact Nat.le_refl _⟩, ⟨by repeat (first | (with_reducible first | exact HB.out | apply below_alloc | apply pw_below_drewN | apply below_drew1) | exact HB.out)⟩⟩
  case rest =>
    clear HC7
    try clear c1
    try clear p2
    try clear c3
    try clear c9
    try clear c10
    try clear c10b0
    try clear c10b1
    try clear c10b2
    obtain ⟨kq, x32_6, rfl, HA, HJ6, HB⟩ := hcut
    cases kq with
    | zero => exact absurd HA.out (by simp [hatstandlaw15_LinearLonger.j0])
    | succ kj6 =>
      have H := HA.out
      clear HA
      simp only [hatstandlaw15_LinearLonger.j0] at H
      by_cases c11 : x32_6 = true
      · subst c11
        have H1 : (some t244) = some r := by rw [if_pos rfl] at H; exact H
        clear H
        have H := H1
        clear H1
        obtain rfl := Option.some.inj H
        go_wp2
        go_ret
        exact ⟨by first | rfl | (simp [errW_none, errW_some] <;> rfl) | (simp [*, errW_none, errW_some] <;> rfl), by repeat (first | (with_reducible first | exact HB.out | apply below_alloc | apply pw_below_drewN | apply below_drew1) | exact HB.out)⟩
      · replace c11 := Bool.eq_false_iff.mpr c11
        subst c11
        have H1 : ((hatstandlaw15_pick.f a1 4).bind fun t245 => ((hatstandlaw15_made.f kj6 l0 t245).bind fun t246 => (if a4 = true then (if 0 < (t246.length : Int) then (hatstandlaw15_LinearLonger.j1 kj6 a2 a3 t245 (t246.set (0 : Int).toNat (⟨(rd_T30 t246 0).f0, (rd_T30 t246 0).f1, IntKind.u64.wrap (((rd_T30 t246 0).f2) + 1), (rd_T30 t246 0).f3, (rd_T30 t246 0).f4, (rd_T30 t246 0).f5⟩ : S30))) else (none)) else (hatstandlaw15_LinearLonger.j1 kj6 a2 a3 t245 t246)))) = some r := by rw [if_neg (show ¬ (false = true) by decide)] at H; exact H
        clear H
        have H := H1
        clear H1
        replace H := Option.bind_eq_some_iff.mp H
        obtain ⟨t245, A120, H⟩ := H
        replace H : ((hatstandlaw15_made.f kj6 l0 t245).bind fun t246 => (if a4 = true then (if 0 < (t246.length : Int) then (hatstandlaw15_LinearLonger.j1 kj6 a2 a3 t245 (t246.set (0 : Int).toNat (⟨(rd_T30 t246 0).f0, (rd_T30 t246 0).f1, IntKind.u64.wrap (((rd_T30 t246 0).f2) + 1), (rd_T30 t246 0).f3, (rd_T30 t246 0).f4, (rd_T30 t246 0).f5⟩ : S30))) else (none)) else (hatstandlaw15_LinearLonger.j1 kj6 a2 a3 t245 t246))) = some r := H
        have A12 := Aside0.mk A120
        clear A120
        replace H := Option.bind_eq_some_iff.mp H
        obtain ⟨t246, A130, H⟩ := H
        replace H : (if a4 = true then (if 0 < (t246.length : Int) then (hatstandlaw15_LinearLonger.j1 kj6 a2 a3 t245 (t246.set (0 : Int).toNat (⟨(rd_T30 t246 0).f0, (rd_T30 t246 0).f1, IntKind.u64.wrap (((rd_T30 t246 0).f2) + 1), (rd_T30 t246 0).f3, (rd_T30 t246 0).f4, (rd_T30 t246 0).f5⟩ : S30))) else (none)) else (hatstandlaw15_LinearLonger.j1 kj6 a2 a3 t245 t246)) = some r := H
        have A13 := Aside0.mk A130
        clear A130
        have HC14 := Aside0.mk H
        clear H
        go_upto_if 39 with (first | ((with_reducible refine gate_callee (f := 10) rfl ?_); refine goesL_ (some 35) rfl rfl Try.func10 (by kernel_rfl) rfl #[.int .i64 a1, .int .i64 4] rfl (by (try simp only [List.map_toArray, List.map_cons, List.map_nil]); first | done | rfl | (simp only [List.length_drop, List.length_take]; rfl)) ?_; (with_reducible refine (hatstandlaw15_pick.calls a1 4 t245 _ A12.out).mono ?_); rintro e w' ⟨rfl, ⟨nd, rfl⟩⟩; refine ⟨_, rfl, ?_⟩) | ((with_reducible refine gate_callee (f := 11) rfl ?_); refine goesL_ (some 38) rfl rfl Try.func11 (by kernel_rfl) rfl #[.slice A0 l0.length c0, .int .i64 t245] rfl (by (try simp only [List.map_toArray, List.map_cons, List.map_nil]); first | done | rfl | (simp only [List.length_drop, List.length_take]; rfl)) ?_; (with_reducible refine (hatstandlaw15_made.calls kj6 _ _ l0 t245 t246 _ ?side1 ?side2 A13.out).mono ?_); (case side1 => repeat (first | exact (Kd.C_below HR0.out (by repeat (first | (with_reducible first | exact HB.out | apply below_alloc | apply pw_below_drewN | apply below_drew1) | exact HB.out))) | (with_reducible refine Kd.C_alloc ?_ _) | (with_reducible refine Kd.C_drewN ?_ _) | (with_reducible refine Kd.C_drew ?_))); (case side2 => exact HC0.out); rintro e w15 ⟨v247, rfl, ho0, hb⟩; refine ⟨_, rfl, ?_⟩; have n0_ := Aside0.mk (Kd.R_lower ho0 (below_size (by repeat (first | (with_reducible first | exact HB.out | apply below_alloc | apply pw_below_drewN | apply below_drew1) | exact HB.out)))); have n1_ := Aside0.mk (below_step (by repeat (first | (with_reducible first | exact HB.out | apply below_alloc | apply pw_below_drewN | apply below_drew1) | exact HB.out)) hb); clear HB; have HO248 := n0_; have HB := n1_; clear n0_ n1_; (try clear hb); (try clear hb2); (try clear hk); (try clear hi); (try clear ho0)))
        (try simp only [Act.put, List.setIfInBounds_toArray, List.set_cons_zero, List.set_cons_succ])
        go_cut [] (fun wc => ∃ (kq : Nat) (x13_13 : List (S30)), Aside0 (hatstandlaw15_LinearLonger.j1 kq a2 a3 t245 x13_13 = some r) ∧ Aside0 (kq ≤ kj6) ∧ Aside0 (Kd.R k30 30 wc w.heap.size (fun _ => True) v247 x13_13) ∧ Aside0 (Below w.heap.size w wc))
        case first =>
          have H := HC14.out
          clear HC14
          by_cases c16 : a4 = true
          · subst c16
            have H1 : (if 0 < (t246.length : Int) then (hatstandlaw15_LinearLonger.j1 kj6 a2 a3 t245 (t246.set (0 : Int).toNat (⟨(rd_T30 t246 0).f0, (rd_T30 t246 0).f1, IntKind.u64.wrap (((rd_T30 t246 0).f2) + 1), (rd_T30 t246 0).f3, (rd_T30 t246 0).f4, (rd_T30 t246 0).f5⟩ : S30))) else (none)) = some r := by rw [if_pos rfl] at H; exact H
            clear H
            have H := H1
            clear H1
            by_cases c17 : 0 < (t246.length : Int)
            · rw [if_pos c17] at H
              have c17b0 : decide (0 < (t246.length : Int)) = true := decide_eq_true c17
              have c17b1 : decide (0 < t246.length) = true := decide_eq_true (by omega)
              clear c17
              (first | rw [c17b0] | (simp only [i64_w, i32_w, Go.IntKind.wrap_u32]; rw [c17b0]) | skip)
              obtain ⟨y250, hy250⟩ : ∃ y_ : List (S30), y_ = (t246.set (0 : Int).toNat (⟨(rd_T30 t246 0).f0, (rd_T30 t246 0).f1, IntKind.u64.wrap (((rd_T30 t246 0).f2) + 1), (rd_T30 t246 0).f3, (rd_T30 t246 0).f4, (rd_T30 t246 0).f5⟩ : S30)) := ⟨_, rfl⟩
              replace H : (hatstandlaw15_LinearLonger.j1 kj6 a2 a3 t245 y250) = some r := by first | (rw [hy250]; with_reducible exact H) | (have H2_ := (Option.bind_some _ _).symm.trans H; rw [hy250]; with_reducible exact H2_) | (have H2_ := (Option.bind_some _ _).symm.trans H; with_reducible exact H2_) | with_reducible exact H | (rw [hy250]; exact H) | exact H
              have Ny250 := Aside0.mk hy250
              clear hy250
              have H' := Aside0.mk H
              clear H
              obtain ⟨Ao19, co19, eo19⟩ := Kd.R_slice HO248.out
              subst eo19
              have p249 : 0 ≤ (0 : Int) := (by omega)
              have q249 : 0 < (t246.length : Int) := of_decide_eq_true (by first | (with_reducible assumption) | assumption)
              obtain ⟨ad249, e249, hx249_0, hx249_1, hx249_2, hx249_3, hx249_4, hx249_5⟩ := at_T30 (Kd.R_reads' HO248.out).2.2 0 p249 q249
              cases e249
              have qi249 : (0 < t246.length) = True := eq_true (by omega)
              (try rw [show ((0 : Int)).toNat = 0 from rfl] at hx249_0)
              (try rw [show 0 * 6 = 0 from rfl] at hx249_0)
              (try rw [Addr.add_zero'] at hx249_0)
              (try rw [show ((0 : Int)).toNat = 0 from rfl] at hx249_1)
              (try rw [show 0 * 6 = 0 from rfl] at hx249_1)
              (try rw [Addr.add_zero'] at hx249_1)
              (try rw [show ((0 : Int)).toNat = 0 from rfl] at hx249_2)
              (try rw [show 0 * 6 = 0 from rfl] at hx249_2)
              (try rw [Addr.add_zero'] at hx249_2)
              (try rw [show ((0 : Int)).toNat = 0 from rfl] at hx249_3)
              (try rw [show 0 * 6 = 0 from rfl] at hx249_3)
              (try rw [Addr.add_zero'] at hx249_3)
              (try rw [show ((0 : Int)).toNat = 0 from rfl] at hx249_4)
              (try rw [show 0 * 6 = 0 from rfl] at hx249_4)
              (try rw [Addr.add_zero'] at hx249_4)
              (try rw [show ((0 : Int)).toNat = 0 from rfl] at hx249_5)
              (try rw [show 0 * 6 = 0 from rfl] at hx249_5)
              (try rw [Addr.add_zero'] at hx249_5)
              replace p249 := eq_true p249
              replace q249 := eq_true q249
              have p18 : 0 ≤ (0 : Int) := (by omega)
              have q18 : (0 : Int) < ((t246.length : Int) : Int) := of_decide_eq_true (by first | (with_reducible assumption) | assumption)
              have qi18 : (0 < t246.length) = True := eq_true (by omega)
              obtain ⟨go18, co18, eo18, gb18, gl18, cl18, HG18⟩ := Kd.R_form HO248.out (by omega)
              (first | cases eo18 | (injection eo18 with ea_ en_ ec_; (first | subst ea_ | (injection ea_ with ea_; subst ea_)); subst ec_; clear en_))
              have GB18 := Aside0.mk gb18
              have GG18 := Aside0.mk HG18
              clear gb18 gl18 HG18
              (first | simp only [add_plain] at hx249_0 | skip)
              (first | simp only [add_plain] at hx249_1 | skip)
              (first | simp only [add_plain] at hx249_2 | skip)
              (first | simp only [add_plain] at hx249_3 | skip)
              (first | simp only [add_plain] at hx249_4 | skip)
              (first | simp only [add_plain] at hx249_5 | skip)
              obtain ⟨ce18, hcl18, hM18, hcc18, hfr18⟩ := Kd.R_elem HO248.out z30 (0 : Int) p18 q18
              obtain rfl := k30_openM hM18
              have hx18_0 : w15.cell? ⟨go18, (0 : Int).toNat * 6, none⟩ = some (.int .i64 ((rd_T30 t246 0).f0)) := hcc18 0 _ rfl
              have hx18_1 : w15.cell? ⟨go18, (0 : Int).toNat * 6 + 1, none⟩ = some (.bool ((rd_T30 t246 0).f1)) := hcc18 1 _ rfl
              have hx18_2 : w15.cell? ⟨go18, (0 : Int).toNat * 6 + 2, none⟩ = some (.int .u64 ((rd_T30 t246 0).f2)) := hcc18 2 _ rfl
              have hx18_3 : w15.cell? ⟨go18, (0 : Int).toNat * 6 + 3, none⟩ = some (.int .i64 ((rd_T30 t246 0).f3)) := hcc18 3 _ rfl
              have hx18_4 : w15.cell? ⟨go18, (0 : Int).toNat * 6 + 4, none⟩ = some (.int .i64 ((rd_T30 t246 0).f4)) := hcc18 4 _ rfl
              have hx18_5 : w15.cell? ⟨go18, (0 : Int).toNat * 6 + 5, none⟩ = some (.int .i64 ((rd_T30 t246 0).f5)) := hcc18 5 _ rfl
              have hf18_0 : w15.frozen? ⟨go18, (0 : Int).toNat * 6, none⟩ = false := hfr18 0
              have hf18_1 : w15.frozen? ⟨go18, (0 : Int).toNat * 6 + 1, none⟩ = false := hfr18 1
              have hf18_2 : w15.frozen? ⟨go18, (0 : Int).toNat * 6 + 2, none⟩ = false := hfr18 2
              have hf18_3 : w15.frozen? ⟨go18, (0 : Int).toNat * 6 + 3, none⟩ = false := hfr18 3
              have hf18_4 : w15.frozen? ⟨go18, (0 : Int).toNat * 6 + 4, none⟩ = false := hfr18 4
              have hf18_5 : w15.frozen? ⟨go18, (0 : Int).toNat * 6 + 5, none⟩ = false := hfr18 5
              clear hcl18 hcc18 hfr18 hM18
              (try rw [show ((0 : Int)).toNat = 0 from rfl] at hx18_0)
              (try simp only [Nat.reduceMul, Nat.zero_mul, Nat.zero_add, Nat.reduceAdd] at hx18_0)
              (try rw [show ((0 : Int)).toNat = 0 from rfl] at hf18_0)
              (try simp only [Nat.reduceMul, Nat.zero_mul, Nat.zero_add, Nat.reduceAdd] at hf18_0)
              (try rw [show ((0 : Int)).toNat = 0 from rfl] at hx18_1)
              (try simp only [Nat.reduceMul, Nat.zero_mul, Nat.zero_add, Nat.reduceAdd] at hx18_1)
              (try rw [show ((0 : Int)).toNat = 0 from rfl] at hf18_1)
              (try simp only [Nat.reduceMul, Nat.zero_mul, Nat.zero_add, Nat.reduceAdd] at hf18_1)
              (try rw [show ((0 : Int)).toNat = 0 from rfl] at hx18_2)
              (try simp only [Nat.reduceMul, Nat.zero_mul, Nat.zero_add, Nat.reduceAdd] at hx18_2)
              (try rw [show ((0 : Int)).toNat = 0 from rfl] at hf18_2)
              (try simp only [Nat.reduceMul, Nat.zero_mul, Nat.zero_add, Nat.reduceAdd] at hf18_2)
              (try rw [show ((0 : Int)).toNat = 0 from rfl] at hx18_3)
              (try simp only [Nat.reduceMul, Nat.zero_mul, Nat.zero_add, Nat.reduceAdd] at hx18_3)
              (try rw [show ((0 : Int)).toNat = 0 from rfl] at hf18_3)
              (try simp only [Nat.reduceMul, Nat.zero_mul, Nat.zero_add, Nat.reduceAdd] at hf18_3)
              (try rw [show ((0 : Int)).toNat = 0 from rfl] at hx18_4)
              (try simp only [Nat.reduceMul, Nat.zero_mul, Nat.zero_add, Nat.reduceAdd] at hx18_4)
              (try rw [show ((0 : Int)).toNat = 0 from rfl] at hf18_4)
              (try simp only [Nat.reduceMul, Nat.zero_mul, Nat.zero_add, Nat.reduceAdd] at hf18_4)
              (try rw [show ((0 : Int)).toNat = 0 from rfl] at hx18_5)
              (try simp only [Nat.reduceMul, Nat.zero_mul, Nat.zero_add, Nat.reduceAdd] at hx18_5)
              (try rw [show ((0 : Int)).toNat = 0 from rfl] at hf18_5)
              (try simp only [Nat.reduceMul, Nat.zero_mul, Nat.zero_add, Nat.reduceAdd] at hf18_5)
              replace p18 := eq_true p18
              replace q18 := eq_true q18
              have HX20 := Aside0.mk (show Kd.R k30 30 w15 w.heap.size (fun _ => True) (.slice (some ⟨go18, 0, none⟩) t246.length co19) t246 from (by (with_reducible repeat (first | apply Kd.R_alloc | apply Kd.R_drewN | apply Kd.R_drew)); exact HO248.out))
              obtain ⟨ce20, hcl20, hM20, hcc20, hfr20⟩ := Kd.R_elem HX20.out z30 (0 : Int) (by omega) (by have h_ : (0 : Int) < ((t246.length : Int) : Int) := of_decide_eq_true (by first | (with_reducible assumption) | assumption); first | exact h_ | (have e_ := (Kd.R_reads' HO248.out).1; omega) | simpa using h_)
              obtain rfl := k30_openM hM20
              have HP20 := Kd.R_seg HX20.out (0 : Int) (by omega) (by have h_ : (0 : Int) < ((t246.length : Int) : Int) := of_decide_eq_true (by first | (with_reducible assumption) | assumption); first | exact h_ | (have e_ := (Kd.R_reads' HO248.out).1; omega) | simpa using h_) (seg := [.int .u64 (IntKind.u64.wrap (((rd_T30 t246 0).f2) + 1))]) (j := 2) hcl20 hcc20 (show 3 ≤ 6 from by decide) (x' := (⟨(rd_T30 t246 0).f0, (rd_T30 t246 0).f1, IntKind.u64.wrap (((rd_T30 t246 0).f2) + 1), (rd_T30 t246 0).f3, (rd_T30 t246 0).f4, (rd_T30 t246 0).f5⟩ : S30)) (k30_mkM _ _ _ (⟨(rd_T30 t246 0).f0, (rd_T30 t246 0).f1, IntKind.u64.wrap (((rd_T30 t246 0).f2) + 1), (rd_T30 t246 0).f3, (rd_T30 t246 0).f4, (rd_T30 t246 0).f5⟩ : S30) ) (fun _ hk => hk)
              have hx20_2 := hcc20 2 _ rfl
              (try simp only [show (k30).sz = 6 from rfl, Nat.mul_one, Nat.add_zero] at hx20_2)
              (try rw [show ((0 : Int)).toNat = 0 from rfl] at hx20_2)
              (try simp only [Nat.reduceMul, Nat.zero_mul, Nat.zero_add, Nat.reduceAdd] at hx20_2)
              have hf20_2 := hfr20 2
              (try simp only [show (k30).sz = 6 from rfl, Nat.mul_one, Nat.add_zero] at hf20_2)
              (try rw [show ((0 : Int)).toNat = 0 from rfl] at hf20_2)
              (try simp only [Nat.reduceMul, Nat.zero_mul, Nat.zero_add, Nat.reduceAdd] at hf20_2)
              clear hcl20 hcc20 hfr20 hM20
              go_wp2_with (first | ((with_reducible refine gate_store (t := 27) (p := 46) rfl ?_); refine store_event (t := 27) (p := 46) (v := ?vo_w21) (w1 := (w15.setCell ⟨go18, 2, none⟩ (.int .u64 (IntKind.u64.wrap (((rd_T30 t246 0).f2) + 1))))) ?hg ?ho ?hn ?hr ?_; (case ho => rfl); (case hg => rfl); (case hn => rfl); (case hr => first | (go_simp; done) | (go_simp; rfl)); intro w21 hw; have hg : w15.grownBy w21 (some go18) := (by rw [hw]; exact HP20.2); have hp_ : Kd.R k30 30 w21 w.heap.size (fun _ => True) (.slice (some ⟨go18, 0, none⟩) t246.length co19) y250 := (by rw [hw, Ny250.out]; exact HP20.1); clear HP20; have n0_ := Aside0.mk (hp_); have n1_ := Aside0.mk ((by rw [hw]; exact below_set (HB.out) GB18.out : Below w.heap.size w w21)); clear HO248; clear HB; have HO248 := n0_; have HB := n1_; clear n0_ n1_; clear hg hw hp_))
              go_meet
              case rel => exact ⟨_, (y250), H', ⟨by have := HJ6.out; first | omega | exact Nat.le_refl _⟩, ⟨by (with_reducible repeat (first | apply Kd.R_alloc | apply Kd.R_drewN | apply Kd.R_drew)); exact HO248.out⟩, ⟨by repeat (first | (with_reducible first | exact HB.out | apply below_alloc | apply pw_below_drewN | apply below_drew1) | exact HB.out)⟩⟩
            · rw [if_neg c17] at H
              exact absurd H (by simp)
          · replace c16 := Bool.eq_false_iff.mpr c16
            subst c16
            have H1 : (hatstandlaw15_LinearLonger.j1 kj6 a2 a3 t245 t246) = some r := by rw [if_neg (show ¬ (false = true) by decide)] at H; exact H
            clear H
            have H := H1
            clear H1
            have H' := Aside0.mk H
            clear H
            go_wp2
            go_meet
            case rel => exact ⟨_, (t246), H', ⟨by have := HJ6.out; first | omega | exact Nat.le_refl _⟩, ⟨by (with_reducible repeat (first | apply Kd.R_alloc | apply Kd.R_drewN | apply Kd.R_drew)); exact HO248.out⟩, ⟨by repeat (first | (with_reducible first | exact HB.out | apply below_alloc | apply pw_below_drewN | apply below_drew1) | exact HB.out)⟩⟩
        case rest =>
          clear HC14
          try clear c1
          try clear p1
          try clear q1
          try clear hx1
          try clear qi1
          try clear c2
          try clear p2
          try clear q2
          try clear hx2
          try clear qi2
          try clear c3
          try clear c9
          try clear c10
          try clear c10b0
          try clear c10b1
          try clear c10b2
          try clear c11
          try clear c16
          try clear c17
          try clear c17b0
          try clear c17b1
          try clear c18
          try clear p18
          try clear q18
          try clear hx18
          try clear qi18
          try clear hf18
          try clear c20
          try clear hx20
          try clear hf20
          try clear hx18_0
          try clear hx18_1
          try clear hx18_2
          try clear hx18_3
          try clear hx18_4
          try clear hx18_5
          try clear hx20_2
          try clear hx249_0
          try clear hx249_1
          try clear hx249_2
          try clear hx249_3
          try clear hx249_4
          try clear hx249_5
          try clear p18
          try clear p2
          try clear p249
          try clear q18
          try clear q249
          obtain ⟨kq, x13_13, HA, HJ13, HO_13, HB⟩ := hcut
          cases kq with
          | zero => exact absurd HA.out (by simp [hatstandlaw15_LinearLonger.j1])
          | succ kj13 =>
            have H := HA.out
            clear HA
            simp only [hatstandlaw15_LinearLonger.j1] at H
            replace H := Option.bind_eq_some_iff.mp H
            obtain ⟨t251, A220, H⟩ := H
            replace H : ((some (([] : List (S30)) : List (S30))).bind fun y252 => (if y252.length + x13_13.length < 2932031007402 then ((some (y252 ++ x13_13 : List (S30))).bind fun y255 => (if 0 ≤ t251 then (if t251 < (y255.length : Int) then ((hatstandlaw15_pick.f a3 300).bind fun t259 => ((some (y255.set (t251 : Int).toNat (⟨(rd_T30 y255 t251).f0, (rd_T30 y255 t251).f1, (rd_T30 y255 t251).f2, (rd_T30 y255 t251).f3, wrap64 (((rd_T30 y255 t251).f4) - t259), (rd_T30 y255 t251).f5⟩ : S30) : List (S30))).bind fun y260 => ((hatstandlaw15_pick.f a3 700).bind fun t262 => ((some (y260.set (t251 : Int).toNat (⟨(rd_T30 y260 t251).f0, (rd_T30 y260 t251).f1, (rd_T30 y260 t251).f2, (rd_T30 y260 t251).f3, (rd_T30 y260 t251).f4, wrap64 (((rd_T30 y260 t251).f5) + t262)⟩ : S30) : List (S30))).bind fun y263 => ((linear_Find.f x13_13 t245).bind fun bt264 => ((linear_Find.f y263 t245).bind fun bt268 => (if bt264.2 = true then (if bt268.2 = true then ((linear_Fits.f kj13 y263 t245 bt264.1).bind fun t272 => (some t272)) else (some false)) else (some true)))))))) else (none)) else (none))) else (none))) = some r := H
            have A22 := Aside0.mk A220
            clear A220
            obtain ⟨y252, hy252⟩ : ∃ y_ : List (S30), y_ = (([] : List (S30))) := ⟨_, rfl⟩
            replace H : (if y252.length + x13_13.length < 2932031007402 then ((some (y252 ++ x13_13 : List (S30))).bind fun y255 => (if 0 ≤ t251 then (if t251 < (y255.length : Int) then ((hatstandlaw15_pick.f a3 300).bind fun t259 => ((some (y255.set (t251 : Int).toNat (⟨(rd_T30 y255 t251).f0, (rd_T30 y255 t251).f1, (rd_T30 y255 t251).f2, (rd_T30 y255 t251).f3, wrap64 (((rd_T30 y255 t251).f4) - t259), (rd_T30 y255 t251).f5⟩ : S30) : List (S30))).bind fun y260 => ((hatstandlaw15_pick.f a3 700).bind fun t262 => ((some (y260.set (t251 : Int).toNat (⟨(rd_T30 y260 t251).f0, (rd_T30 y260 t251).f1, (rd_T30 y260 t251).f2, (rd_T30 y260 t251).f3, (rd_T30 y260 t251).f4, wrap64 (((rd_T30 y260 t251).f5) + t262)⟩ : S30) : List (S30))).bind fun y263 => ((linear_Find.f x13_13 t245).bind fun bt264 => ((linear_Find.f y263 t245).bind fun bt268 => (if bt264.2 = true then (if bt268.2 = true then ((linear_Fits.f kj13 y263 t245 bt264.1).bind fun t272 => (some t272)) else (some false)) else (some true)))))))) else (none)) else (none))) else (none)) = some r := by first | (rw [hy252]; with_reducible exact H) | (have H2_ := (Option.bind_some _ _).symm.trans H; rw [hy252]; with_reducible exact H2_) | (have H2_ := (Option.bind_some _ _).symm.trans H; with_reducible exact H2_) | with_reducible exact H | (rw [hy252]; exact H) | exact H
            have Ny252 := Aside0.mk hy252
            clear hy252
            by_cases c23 : y252.length + x13_13.length < 2932031007402
            · rw [if_pos c23] at H
              have LMc23 := Aside0.mk c23
              clear c23
              obtain ⟨y255, hy255⟩ : ∃ y_ : List (S30), y_ = (y252 ++ x13_13) := ⟨_, rfl⟩
              replace H : (if 0 ≤ t251 then (if t251 < (y255.length : Int) then ((hatstandlaw15_pick.f a3 300).bind fun t259 => ((some (y255.set (t251 : Int).toNat (⟨(rd_T30 y255 t251).f0, (rd_T30 y255 t251).f1, (rd_T30 y255 t251).f2, (rd_T30 y255 t251).f3, wrap64 (((rd_T30 y255 t251).f4) - t259), (rd_T30 y255 t251).f5⟩ : S30) : List (S30))).bind fun y260 => ((hatstandlaw15_pick.f a3 700).bind fun t262 => ((some (y260.set (t251 : Int).toNat (⟨(rd_T30 y260 t251).f0, (rd_T30 y260 t251).f1, (rd_T30 y260 t251).f2, (rd_T30 y260 t251).f3, (rd_T30 y260 t251).f4, wrap64 (((rd_T30 y260 t251).f5) + t262)⟩ : S30) : List (S30))).bind fun y263 => ((linear_Find.f x13_13 t245).bind fun bt264 => ((linear_Find.f y263 t245).bind fun bt268 => (if bt264.2 = true then (if bt268.2 = true then ((linear_Fits.f kj13 y263 t245 bt264.1).bind fun t272 => (some t272)) else (some false)) else (some true)))))))) else (none)) else (none)) = some r := by first | (rw [hy255]; with_reducible exact H) | (have H2_ := (Option.bind_some _ _).symm.trans H; rw [hy255]; with_reducible exact H2_) | (have H2_ := (Option.bind_some _ _).symm.trans H; with_reducible exact H2_) | with_reducible exact H | (rw [hy255]; exact H) | exact H
              have Ny255 := Aside0.mk hy255
              clear hy255
              by_cases c24 : 0 ≤ t251
              · rw [if_pos c24] at H
                have c24b0 : decide (0 ≤ t251) = true := decide_eq_true c24
                clear c24
                by_cases c25 : t251 < (y255.length : Int)
                · rw [if_pos c25] at H
                  have c25b0 : decide (t251 < (y255.length : Int)) = true := decide_eq_true c25
                  clear c25
                  replace H := Option.bind_eq_some_iff.mp H
                  obtain ⟨t259, A260, H⟩ := H
                  replace H : ((some (y255.set (t251 : Int).toNat (⟨(rd_T30 y255 t251).f0, (rd_T30 y255 t251).f1, (rd_T30 y255 t251).f2, (rd_T30 y255 t251).f3, wrap64 (((rd_T30 y255 t251).f4) - t259), (rd_T30 y255 t251).f5⟩ : S30) : List (S30))).bind fun y260 => ((hatstandlaw15_pick.f a3 700).bind fun t262 => ((some (y260.set (t251 : Int).toNat (⟨(rd_T30 y260 t251).f0, (rd_T30 y260 t251).f1, (rd_T30 y260 t251).f2, (rd_T30 y260 t251).f3, (rd_T30 y260 t251).f4, wrap64 (((rd_T30 y260 t251).f5) + t262)⟩ : S30) : List (S30))).bind fun y263 => ((linear_Find.f x13_13 t245).bind fun bt264 => ((linear_Find.f y263 t245).bind fun bt268 => (if bt264.2 = true then (if bt268.2 = true then ((linear_Fits.f kj13 y263 t245 bt264.1).bind fun t272 => (some t272)) else (some false)) else (some true))))))) = some r := H
                  have A26 := Aside0.mk A260
                  clear A260
                  obtain ⟨y260, hy260⟩ : ∃ y_ : List (S30), y_ = (y255.set (t251 : Int).toNat (⟨(rd_T30 y255 t251).f0, (rd_T30 y255 t251).f1, (rd_T30 y255 t251).f2, (rd_T30 y255 t251).f3, wrap64 (((rd_T30 y255 t251).f4) - t259), (rd_T30 y255 t251).f5⟩ : S30)) := ⟨_, rfl⟩
                  replace H : ((hatstandlaw15_pick.f a3 700).bind fun t262 => ((some (y260.set (t251 : Int).toNat (⟨(rd_T30 y260 t251).f0, (rd_T30 y260 t251).f1, (rd_T30 y260 t251).f2, (rd_T30 y260 t251).f3, (rd_T30 y260 t251).f4, wrap64 (((rd_T30 y260 t251).f5) + t262)⟩ : S30) : List (S30))).bind fun y263 => ((linear_Find.f x13_13 t245).bind fun bt264 => ((linear_Find.f y263 t245).bind fun bt268 => (if bt264.2 = true then (if bt268.2 = true then ((linear_Fits.f kj13 y263 t245 bt264.1).bind fun t272 => (some t272)) else (some false)) else (some true)))))) = some r := by first | (rw [hy260]; with_reducible exact H) | (have H2_ := (Option.bind_some _ _).symm.trans H; rw [hy260]; with_reducible exact H2_) | (have H2_ := (Option.bind_some _ _).symm.trans H; with_reducible exact H2_) | with_reducible exact H | (rw [hy260]; exact H) | exact H
                  have Ny260 := Aside0.mk hy260
                  clear hy260
                  replace H := Option.bind_eq_some_iff.mp H
                  obtain ⟨t262, A280, H⟩ := H
                  replace H : ((some (y260.set (t251 : Int).toNat (⟨(rd_T30 y260 t251).f0, (rd_T30 y260 t251).f1, (rd_T30 y260 t251).f2, (rd_T30 y260 t251).f3, (rd_T30 y260 t251).f4, wrap64 (((rd_T30 y260 t251).f5) + t262)⟩ : S30) : List (S30))).bind fun y263 => ((linear_Find.f x13_13 t245).bind fun bt264 => ((linear_Find.f y263 t245).bind fun bt268 => (if bt264.2 = true then (if bt268.2 = true then ((linear_Fits.f kj13 y263 t245 bt264.1).bind fun t272 => (some t272)) else (some false)) else (some true))))) = some r := H
                  have A28 := Aside0.mk A280
                  clear A280
                  obtain ⟨y263, hy263⟩ : ∃ y_ : List (S30), y_ = (y260.set (t251 : Int).toNat (⟨(rd_T30 y260 t251).f0, (rd_T30 y260 t251).f1, (rd_T30 y260 t251).f2, (rd_T30 y260 t251).f3, (rd_T30 y260 t251).f4, wrap64 (((rd_T30 y260 t251).f5) + t262)⟩ : S30)) := ⟨_, rfl⟩
                  replace H : ((linear_Find.f x13_13 t245).bind fun bt264 => ((linear_Find.f y263 t245).bind fun bt268 => (if bt264.2 = true then (if bt268.2 = true then ((linear_Fits.f kj13 y263 t245 bt264.1).bind fun t272 => (some t272)) else (some false)) else (some true)))) = some r := by first | (rw [hy263]; with_reducible exact H) | (have H2_ := (Option.bind_some _ _).symm.trans H; rw [hy263]; with_reducible exact H2_) | (have H2_ := (Option.bind_some _ _).symm.trans H; with_reducible exact H2_) | with_reducible exact H | (rw [hy263]; exact H) | exact H
                  have Ny263 := Aside0.mk hy263
                  clear hy263
                  replace H := Option.bind_eq_some_iff.mp H
                  obtain ⟨⟨t264, t265⟩, A300, H⟩ := H
                  replace H : ((linear_Find.f y263 t245).bind fun bt268 => (if t265 = true then (if bt268.2 = true then ((linear_Fits.f kj13 y263 t245 t264).bind fun t272 => (some t272)) else (some false)) else (some true))) = some r := H
                  have A30 := Aside0.mk A300
                  clear A300
                  replace H := Option.bind_eq_some_iff.mp H
                  obtain ⟨⟨t268, t269⟩, A310, H⟩ := H
                  replace H : (if t265 = true then (if t269 = true then ((linear_Fits.f kj13 y263 t245 t264).bind fun t272 => (some t272)) else (some false)) else (some true)) = some r := H
                  have A31 := Aside0.mk A310
                  clear A310
                  by_cases c32 : t265 = true
                  · subst c32
                    have H1 : (if t269 = true then ((linear_Fits.f kj13 y263 t245 t264).bind fun t272 => (some t272)) else (some false)) = some r := by rw [if_pos rfl] at H; exact H
                    clear H
                    have H := H1
                    clear H1
                    by_cases c33 : t269 = true
                    · subst c33
                      have H1 : ((linear_Fits.f kj13 y263 t245 t264).bind fun t272 => (some t272)) = some r := by rw [if_pos rfl] at H; exact H
                      clear H
                      have H := H1
                      clear H1
                      replace H := Option.bind_eq_some_iff.mp H
                      obtain ⟨t272, A340, H⟩ := H
                      replace H : (some t272) = some r := H
                      have A34 := Aside0.mk A340
                      clear A340
                      obtain rfl := Option.some.inj H
                      obtain ⟨Ao35, co35, eo35⟩ := Kd.R_slice HO_13.out
                      subst eo35
                      try go_wp2_with (first | ((with_reducible refine gate_callee (f := 10) rfl ?_); refine goesL_ (some 50) rfl rfl Try.func10 (by kernel_rfl) rfl #[.int .i64 a2, .int .i64 (x13_13.length : Int)] rfl (by (try simp only [List.map_toArray, List.map_cons, List.map_nil]); first | done | rfl | (simp only [List.length_drop, List.length_take]; rfl)) ?_; (with_reducible refine (hatstandlaw15_pick.calls a2 (x13_13.length : Int) t251 _ A22.out).mono ?_); rintro e w' ⟨rfl, ⟨nd, rfl⟩⟩; refine ⟨_, rfl, ?_⟩; (try (rw [drewN_self wc]; generalize hq_ : World.drewN wc _ = wc; have n0_ : Aside0 (Kd.R k30 30 wc w.heap.size (fun _ => True) (.slice Ao35 x13_13.length co35) x13_13) := ⟨by rw [← hq_]; exact (by (with_reducible repeat (first | apply Kd.R_alloc | apply Kd.R_drewN | apply Kd.R_drew)); exact HO_13.out)⟩; have n1_ : Aside0 (Below w.heap.size w wc) := ⟨by rw [← hq_]; exact (by repeat (first | (with_reducible first | exact HB.out | apply below_alloc | apply pw_below_drewN | apply below_drew1) | exact HB.out))⟩; clear HO_13 HB hq_; have HO_13 := n0_; have HB := n1_; clear n0_ n1_))) | ((with_reducible refine gate_dst (N := 51) rfl ?_); (try (refine gate_guard (by rfl) ?_; dsimp only)); refine Kd.R_lit k30 _ 30 ?hg (N := 51) ?hd (xs := ([] : List (S30))) (inner := []) (ok := fun _ => True) (okp := fun _ => True) ?hr ?hp (fun _ hk => hk) trivial (Below.refl _ _) (Nat.le_refl _) (by simp) ?_; (case hd => rfl); (case hg => rfl); (case hr => first | (go_simp; done) | (go_simp; rfl)); (case hp => exact (Reps.none _ _)); intro v253 w36 ho37 hb hg_ hnew_; clear hg_ hnew_; (first | rw [← Ny252.out] at ho37 | (simp only [Int.reduceToNat] at ho37; rw [← Ny252.out] at ho37)); have n0_ := Aside0.mk (Kd.R_elder' (by (with_reducible repeat (first | apply Kd.R_alloc | apply Kd.R_drewN | apply Kd.R_drew)); exact HO_13.out) (Kd.R_base ho37) hb); have n1_ := Aside0.mk (Kd.R_lower (Kd.R_new' ho37 (Kd.R_lt (by (with_reducible repeat (first | apply Kd.R_alloc | apply Kd.R_drewN | apply Kd.R_drew)); exact HO_13.out))) (below_size (by repeat (first | (with_reducible first | exact HB.out | apply below_alloc | apply pw_below_drewN | apply below_drew1) | exact HB.out)))); have n2_ := Aside0.mk (below_step (by repeat (first | (with_reducible first | exact HB.out | apply below_alloc | apply pw_below_drewN | apply below_drew1) | exact HB.out)) hb); clear HO_13; clear HB; have HO_13 := n0_; have HO254 := n1_; have HB := n2_; clear n0_ n1_ n2_; clear hb ho37) | ((with_reducible refine gate_builtin (b := .append) (xs := #[.tmp 51, .tmp 52]) rfl ?_); (try (refine gate_guard (by rfl) ?_; dsimp only)); at_builtin; refine Kd.R_append_rows k30 (w0 := w) w.heap.size rfl (.tmp 51) (.tmp 52) 25 30 (.agg #[(.int .i64 0), (.bool false), (.int .u64 0), (.int .i64 0), (.int .i64 0), (.int .i64 0)]) 48 rfl Try.underlying25 info30 rfl (by decide) (by omega) v253 y252 x13_13 _ _ _ (fun k_ => some k_ ≠ (.slice Ao35 x13_13.length co35 : Value).ownBlock) (fun _ => False) rfl rfl ?aO ?aR (fun _ _ h => h) (fun _ h => h.elim) ?aF ?aB ?aS ?aL ?_; (case aR => repeat (first | exact (Kd.R_reads' HO_13.out).2.2 | (with_reducible refine Kd.C_alloc ?_ _) | (with_reducible refine Kd.C_drewN ?_ _) | (with_reducible refine Kd.C_drew ?_))); (case aB => exact (by repeat (first | (with_reducible first | exact HB.out | apply below_alloc | apply pw_below_drewN | apply below_drew1) | exact HB.out))); (case aF => exact (fun k_ hk => Kd.fresh' (Kd.R_lt (by (with_reducible repeat (first | apply Kd.R_alloc | apply Kd.R_drewN | apply Kd.R_drew)); exact HO_13.out)) k_ hk)); (case aO => exact (by (with_reducible repeat (first | apply Kd.R_alloc | apply Kd.R_drewN | apply Kd.R_drew)); exact Kd.R_mono HO254.out (fun _ hk => hk.2))); (case aS => exact (below_size (by repeat (first | (with_reducible first | exact HB.out | apply below_alloc | apply pw_below_drewN | apply below_drew1) | exact HB.out)))); (case aL => have := LMc23.out; omega); intro v256 w38 ho hb hg hat; rw [← Ny255.out] at ho; have n0_ := Aside0.mk (Kd.R_after (ok := (fun _ => True)) (by (with_reducible repeat (first | apply Kd.R_alloc | apply Kd.R_drewN | apply Kd.R_drew)); exact HO_13.out) hg hat); have n1_ := Aside0.mk (hb); have n2_ := Aside0.mk (ho); clear HO_13; clear HB; clear HO254; have HO_13 := n0_; have HB := n1_; have HO257 := n2_; clear n0_ n1_ n2_; clear ho hb hg hat))
                      have n0_ := Aside0.mk (Kd.R_drew HO_13.out)
                      have n1_ := Aside0.mk (Kd.R_drew HO257.out)
                      have n2_ := Aside0.mk (below_drew1 HB.out)
                      clear HO_13
                      clear HO257
                      clear HB
                      have HO_13 := n0_
                      have HO257 := n1_
                      have HB := n2_
                      clear n0_ n1_ n2_
                      obtain ⟨Ao40, co40, eo40⟩ := Kd.R_slice HO257.out
                      (first | subst eo40 | (injection eo40 with f1_ f2_ f3_; have f4_ := f1_.symm; have f5_ := f3_.symm; clear f1_ f2_ f3_; subst f4_; subst f5_))
                      have p258 : 0 ≤ (t251 : Int) := of_decide_eq_true (by first | (with_reducible assumption) | assumption)
                      have q258 : t251 < (y255.length : Int) := of_decide_eq_true (by first | (with_reducible assumption) | assumption)
                      obtain ⟨ad258, e258, hx258_0, hx258_1, hx258_2, hx258_3, hx258_4, hx258_5⟩ := at_T30 (Kd.R_reads' HO257.out).2.2 t251 p258 q258
                      cases e258
                      replace p258 := eq_true p258
                      replace q258 := eq_true q258
                      refine start_ (n := 13) (S := fun w' => w'.cell? (ad258.add ((t251).toNat * 6)) = some (.int .i64 ((rd_T30 y255 t251).f0)) ∧ w'.cell? ⟨(ad258.add ((t251).toNat * 6)).block, (ad258.add ((t251).toNat * 6)).off + 1, none⟩ = some (.bool ((rd_T30 y255 t251).f1)) ∧ w'.cell? ⟨(ad258.add ((t251).toNat * 6)).block, (ad258.add ((t251).toNat * 6)).off + 2, none⟩ = some (.int .u64 ((rd_T30 y255 t251).f2)) ∧ w'.cell? ⟨(ad258.add ((t251).toNat * 6)).block, (ad258.add ((t251).toNat * 6)).off + 3, none⟩ = some (.int .i64 ((rd_T30 y255 t251).f3)) ∧ w'.cell? ⟨(ad258.add ((t251).toNat * 6)).block, (ad258.add ((t251).toNat * 6)).off + 4, none⟩ = some (.int .i64 ((rd_T30 y255 t251).f4)) ∧ w'.cell? ⟨(ad258.add ((t251).toNat * 6)).block, (ad258.add ((t251).toNat * 6)).off + 5, none⟩ = some (.int .i64 ((rd_T30 y255 t251).f5))) (ds := [12]) #[false, false, false, false, false, false, false, false, false, false, false, false, false] (by kernel_rfl) rfl rfl ⟨hx258_0, hx258_1, hx258_2, hx258_3, hx258_4, hx258_5⟩ (fun hHeld => ?_); refine with_tabW hatstandlaw15_LinearLonger.tab10 hatstandlaw15_LinearLonger.bits10 (fun HT_ HW_ => ?_)
                      generalize w38.drew = w39 at HO_13 HO257 HB hx258_0 hx258_1 hx258_2 hx258_3 hx258_4 hx258_5 hHeld ⊢
                      refine pure_ (i := 0) (N := some 54) (v := ?_) (a' := ?_) #[true, false, false, false, false, false, false, false, false, false, false, false, false] rfl rfl (any_of HT_.out (by kernel_rfl)) (fun _ _ _ h => h) (Or.inl ⟨by rfl, ?_⟩) ?_ ?_
                      rotate_left
                      · intro w'
                        go_simp
                        with_reducible rfl
                      rotate_left
                      · simp only [Act.put, List.setIfInBounds_toArray, List.set_cons_zero, List.set_cons_succ, i64_w, i32_w, Go.IntKind.wrap_u32]
                        rfl
                      refine pure_ (i := 1) (N := some 55) (v := ?_) (a' := ?_) #[true, true, false, false, false, false, false, false, false, false, false, false, false] rfl rfl (any_of HT_.out (by kernel_rfl)) (fun _ _ _ h => h) (Or.inl ⟨by rfl, ?_⟩) ?_ ?_
                      rotate_left
                      · intro w'
                        go_simp
                        with_reducible rfl
                      rotate_left
                      · simp only [Act.put, List.setIfInBounds_toArray, List.set_cons_zero, List.set_cons_succ, i64_w, i32_w, Go.IntKind.wrap_u32]
                        rfl
                      refine pure_ (i := 2) (N := some 56) (v := ?_) (a' := ?_) #[true, true, true, false, false, false, false, false, false, false, false, false, false] rfl rfl (any_of HT_.out (by kernel_rfl)) (fun _ _ _ h => h) (Or.inl ⟨by rfl, ?_⟩) ?_ ?_
                      rotate_left
                      · intro w'
                        go_simp
                        with_reducible rfl
                      rotate_left
                      · simp only [Act.put, List.setIfInBounds_toArray, List.set_cons_zero, List.set_cons_succ, i64_w, i32_w, Go.IntKind.wrap_u32]
                        rfl
                      refine pure_ (i := 3) (N := some 57) (v := ?_) (a' := ?_) #[true, true, true, true, false, false, false, false, false, false, false, false, false] rfl rfl (any_of HT_.out (by kernel_rfl)) (fun _ _ _ h => h) (Or.inl ⟨by rfl, ?_⟩) ?_ ?_
                      rotate_left
                      · intro w'
                        go_simp
                        with_reducible rfl
                      rotate_left
                      · simp only [Act.put, List.setIfInBounds_toArray, List.set_cons_zero, List.set_cons_succ, i64_w, i32_w, Go.IntKind.wrap_u32]
                        rfl
                      refine pure_ (i := 4) (N := some 58) (v := ?_) (a' := ?_) #[true, true, true, true, true, false, false, false, false, false, false, false, false] rfl rfl (any_of HT_.out (by kernel_rfl)) (fun _ _ _ h => h) (Or.inl ⟨by rfl, ?_⟩) ?_ ?_
                      rotate_left
                      · intro w'
                        go_simp
                        with_reducible rfl
                      rotate_left
                      · simp only [Act.put, List.setIfInBounds_toArray, List.set_cons_zero, List.set_cons_succ, i64_w, i32_w, Go.IntKind.wrap_u32]
                        rfl
                      refine pure_ (i := 5) (N := some 59) (v := ?_) (a' := ?_) #[true, true, true, true, true, true, false, false, false, false, false, false, false] rfl rfl (any_of HT_.out (by kernel_rfl)) (fun _ _ _ h => h) (Or.inl ⟨by rfl, ?_⟩) ?_ ?_
                      rotate_left
                      · intro w'
                        go_simp
                        with_reducible rfl
                      rotate_left
                      · simp only [Act.put, List.setIfInBounds_toArray, List.set_cons_zero, List.set_cons_succ, i64_w, i32_w, Go.IntKind.wrap_u32]
                        rfl
                      refine pure_ (i := 7) (N := some 61) (v := ?_) (a' := ?_) #[true, true, true, true, true, true, false, true, false, false, false, false, false] rfl rfl (any_of HT_.out (by kernel_rfl)) (fun _ _ _ h => h) (Or.inl ⟨by rfl, ?_⟩) ?_ ?_
                      rotate_left
                      · intro w'
                        go_simp
                        with_reducible rfl
                      rotate_left
                      · simp only [Act.put, List.setIfInBounds_toArray, List.set_cons_zero, List.set_cons_succ, i64_w, i32_w, Go.IntKind.wrap_u32]
                        rfl
                      refine take_ (i := 6) (N := some 60) (v := ?_) (a' := ?_) #[true, true, true, true, true, true, true, true, false, false, false, false, false] rfl rfl (take_ofW HT_.out HW_.out (by kernel_rfl)) (fun _ _ _ h => h) (Or.inl ⟨by rfl, ?_⟩) hHeld ?_ ?_
                      rotate_left
                      · rintro w' ⟨s0, s1, s2, s3, s4, s5⟩
                        go_simp
                        with_reducible rfl
                      rotate_left
                      · simp only [Act.put, List.setIfInBounds_toArray, List.set_cons_zero, List.set_cons_succ, i64_w, i32_w, Go.IntKind.wrap_u32]
                        rfl
                      refine one_ (i := 8) (N := some 62) #[true, true, true, true, true, true, true, true, true, false, false, false, false] rfl rfl (one_of HT_.out (by kernel_rfl)) (by decide) (fun K hK => ?_)
                      refine goes_ Try.func10 (by kernel_rfl) rfl #[.int .i64 a3, .int .i64 300] (by rfl) rfl rfl (by (try simp only [List.map_toArray, List.map_cons, List.map_nil]); first | done | rfl | (simp only [List.length_drop, List.length_take]; rfl)) ?_
                      with_reducible refine (hatstandlaw15_pick.calls a3 300 t259 _ A26.out).mono ?_
                      rintro e w' ⟨rfl, ⟨nd, rfl⟩⟩
                      refine ⟨_, rfl, ?_⟩
                      have p27 : 0 ≤ (t251 : Int) := of_decide_eq_true (by first | (with_reducible assumption) | assumption)
                      have q27 : (t251 : Int) < ((y255.length : Int) : Int) := of_decide_eq_true (by first | (with_reducible assumption) | assumption)
                      obtain ⟨go27, co27, eo27, gb27, gl27, cl27, HG27⟩ := Kd.R_form HO257.out (by omega)
                      (first | cases eo27 | (injection eo27 with ea_ en_ ec_; (first | subst ea_ | (injection ea_ with ea_; subst ea_)); subst ec_; clear en_))
                      have GB27 := Aside0.mk gb27
                      have GG27 := Aside0.mk HG27
                      clear gb27 gl27 HG27
                      (first | simp only [add_plain] at hx258_0 | skip)
                      (first | simp only [add_plain] at hx258_1 | skip)
                      (first | simp only [add_plain] at hx258_2 | skip)
                      (first | simp only [add_plain] at hx258_3 | skip)
                      (first | simp only [add_plain] at hx258_4 | skip)
                      (first | simp only [add_plain] at hx258_5 | skip)
                      obtain ⟨ce27, hcl27, hM27, hcc27, hfr27⟩ := Kd.R_elem HO257.out z30 (t251 : Int) p27 q27
                      obtain rfl := k30_openM hM27
                      have hx27_0 : World.cell? _ ⟨go27, (t251 : Int).toNat * 6, none⟩ = some (.int .i64 ((rd_T30 y255 t251).f0)) := hcc27 0 _ rfl
                      have hx27_1 : World.cell? _ ⟨go27, (t251 : Int).toNat * 6 + 1, none⟩ = some (.bool ((rd_T30 y255 t251).f1)) := hcc27 1 _ rfl
                      have hx27_2 : World.cell? _ ⟨go27, (t251 : Int).toNat * 6 + 2, none⟩ = some (.int .u64 ((rd_T30 y255 t251).f2)) := hcc27 2 _ rfl
                      have hx27_3 : World.cell? _ ⟨go27, (t251 : Int).toNat * 6 + 3, none⟩ = some (.int .i64 ((rd_T30 y255 t251).f3)) := hcc27 3 _ rfl
                      have hx27_4 : World.cell? _ ⟨go27, (t251 : Int).toNat * 6 + 4, none⟩ = some (.int .i64 ((rd_T30 y255 t251).f4)) := hcc27 4 _ rfl
                      have hx27_5 : World.cell? _ ⟨go27, (t251 : Int).toNat * 6 + 5, none⟩ = some (.int .i64 ((rd_T30 y255 t251).f5)) := hcc27 5 _ rfl
                      have hf27_0 : World.frozen? _ ⟨go27, (t251 : Int).toNat * 6, none⟩ = false := hfr27 0
                      have hf27_1 : World.frozen? _ ⟨go27, (t251 : Int).toNat * 6 + 1, none⟩ = false := hfr27 1
                      have hf27_2 : World.frozen? _ ⟨go27, (t251 : Int).toNat * 6 + 2, none⟩ = false := hfr27 2
                      have hf27_3 : World.frozen? _ ⟨go27, (t251 : Int).toNat * 6 + 3, none⟩ = false := hfr27 3
                      have hf27_4 : World.frozen? _ ⟨go27, (t251 : Int).toNat * 6 + 4, none⟩ = false := hfr27 4
                      have hf27_5 : World.frozen? _ ⟨go27, (t251 : Int).toNat * 6 + 5, none⟩ = false := hfr27 5
                      clear hcl27 hcc27 hfr27 hM27
                      replace p27 := eq_true p27
                      replace q27 := eq_true q27
                      obtain ⟨ce41, hcl41, hM41, hcc41, hfr41⟩ := Kd.R_elem HO257.out z30 (t251 : Int) (of_decide_eq_true (by first | (with_reducible assumption) | assumption)) (by have h_ : (t251 : Int) < ((y255.length : Int) : Int) := of_decide_eq_true (by first | (with_reducible assumption) | assumption); first | exact h_ | (have e_ := (Kd.R_reads' HO257.out).1; omega) | simpa using h_)
                      obtain rfl := k30_openM hM41
                      have HP41 := (Kd.R_seg HO257.out (t251 : Int) (of_decide_eq_true (by first | (with_reducible assumption) | assumption)) (by have h_ : (t251 : Int) < ((y255.length : Int) : Int) := of_decide_eq_true (by first | (with_reducible assumption) | assumption); first | exact h_ | (have e_ := (Kd.R_reads' HO257.out).1; omega) | simpa using h_) (seg := [.int .i64 (wrap64 (((rd_T30 y255 t251).f4) - t259))]) (j := 4) hcl41 hcc41 (show 5 ≤ 6 from by decide) (x' := (⟨(rd_T30 y255 t251).f0, (rd_T30 y255 t251).f1, (rd_T30 y255 t251).f2, (rd_T30 y255 t251).f3, wrap64 (((rd_T30 y255 t251).f4) - t259), (rd_T30 y255 t251).f5⟩ : S30)) (k30_mkM _ _ _ (⟨(rd_T30 y255 t251).f0, (rd_T30 y255 t251).f1, (rd_T30 y255 t251).f2, (rd_T30 y255 t251).f3, wrap64 (((rd_T30 y255 t251).f4) - t259), (rd_T30 y255 t251).f5⟩ : S30) ) (fun _ hk => hk)).1
                      rw [← Ny260.out] at HP41
                      have HQ41 := Aside0.mk HP41
                      clear hcl41 hcc41 hfr41 hM41 HP41
                      refine hK.out _ _ ⟨hHeld.1, hHeld.2.1, hHeld.2.2.1, hHeld.2.2.2.1, hHeld.2.2.2.2.1, hHeld.2.2.2.2.2⟩ (fun hHeld => ?_)
                      clear hK K
                      refine norm_ (a' := ?_) ?_ ?_
                      rotate_left
                      · show Act.put _ (some 62) _ = _
                        simp only [Act.put, List.setIfInBounds_toArray, List.set_cons_zero, List.set_cons_succ, i64_w, i32_w, Go.IntKind.wrap_u32]
                        rfl
                      refine pure_ (i := 9) (N := some 63) (v := ?_) (a' := ?_) #[true, true, true, true, true, true, true, true, true, true, false, false, false] rfl rfl (any_of HT_.out (by kernel_rfl)) (fun _ _ _ h => h) (Or.inl ⟨by rfl, ?_⟩) ?_ ?_
                      rotate_left
                      · intro w'
                        go_simp
                        with_reducible rfl
                      rotate_left
                      · simp only [Act.put, List.setIfInBounds_toArray, List.set_cons_zero, List.set_cons_succ, i64_w, i32_w, Go.IntKind.wrap_u32]
                        rfl
                      refine pure_ (i := 10) (N := some 64) (v := ?_) (a' := ?_) #[true, true, true, true, true, true, true, true, true, true, true, false, false] rfl rfl (any_of HT_.out (by kernel_rfl)) (fun _ _ _ h => h) (Or.inl ⟨by rfl, ?_⟩) ?_ ?_
                      rotate_left
                      · intro w'
                        go_simp
                        with_reducible rfl
                      rotate_left
                      · simp only [Act.put, List.setIfInBounds_toArray, List.set_cons_zero, List.set_cons_succ, i64_w, i32_w, Go.IntKind.wrap_u32]
                        rfl
                      refine pure_ (i := 11) (N := some 65) (v := ?_) (a' := ?_) #[true, true, true, true, true, true, true, true, true, true, true, true, false] rfl rfl (any_of HT_.out (by kernel_rfl)) (fun _ _ _ h => h) (Or.inl ⟨by rfl, ?_⟩) ?_ ?_
                      rotate_left
                      · intro w'
                        go_simp
                        with_reducible rfl
                      rotate_left
                      · simp only [Act.put, List.setIfInBounds_toArray, List.set_cons_zero, List.set_cons_succ, i64_w, i32_w, Go.IntKind.wrap_u32]
                        rfl
                      refine last_ (i := 12) (N := none) #[true, true, true, true, true, true, true, true, true, true, true, true, true] rfl rfl (one_of HT_.out (by kernel_rfl)) (by decide) (fun K hK => ?_)
                      refine skip_ (w1 := ?_) (by rfl) rfl ?_ ?_
                      rotate_left
                      · go_simp
                        rfl
                      refine hK.out _ _ ?_
                      clear hK K
                      refine done_ (done_of HT_.out (by kernel_rfl)) ?_
                      try go_wp2
                      (try rw [show ∀ (p_ : Addr) (u_ : Value) (n_ : Nat), (w39.drewN n_).setCell p_ u_ = (w39.setCell p_ u_).drewN n_ from fun _ _ _ => rfl])
                      have n0_ : Aside0 (Kd.R k30 30 (w39.setCell ⟨go27, (t251 : Int).toNat * 6 + 4, none⟩ (.int .i64 (wrap64 (((rd_T30 y255 t251).f4) - t259)))) w.heap.size (fun k_ => some k_ ≠ (.slice (some ⟨go27, 0, none⟩) y255.length co40 : Value).ownBlock) (.slice Ao35 x13_13.length co35) x13_13) := ⟨by (with_reducible repeat (first | apply Kd.R_alloc | apply Kd.R_drewN | apply Kd.R_drew)); exact Kd.R_mono (Kd.R_far (p := ⟨go27, (t251 : Int).toNat * 6 + 4, none⟩) (Kd.R_mono HO_13.out (fun k_ hk => (⟨hk, fun e_ => hk.2 (by rw [e_]; rfl)⟩ : _ ∧ k_ ≠ go27))) (fun _ hk => hk.2) (.int .i64 (wrap64 (((rd_T30 y255 t251).f4) - t259)))) (fun _ hk => hk.1.2)⟩
                      have n1_ : Aside0 (Kd.R k30 30 (w39.setCell ⟨go27, (t251 : Int).toNat * 6 + 4, none⟩ (.int .i64 (wrap64 (((rd_T30 y255 t251).f4) - t259)))) w.heap.size (fun k_ => some k_ ≠ (.slice Ao35 x13_13.length co35 : Value).ownBlock) (.slice (some ⟨go27, 0, none⟩) y255.length co40) y260) := ⟨by (with_reducible repeat (first | apply Kd.R_alloc | apply Kd.R_drewN | apply Kd.R_drew)); exact HQ41.out⟩
                      have n2_ : Aside0 (Below w.heap.size w (w39.setCell ⟨go27, (t251 : Int).toNat * 6 + 4, none⟩ (.int .i64 (wrap64 (((rd_T30 y255 t251).f4) - t259))))) := ⟨by repeat (first | (with_reducible first | exact HB.out | apply below_alloc | apply pw_below_drewN | apply below_drew1 | refine below_set ?_ GB27.out) | exact HB.out)⟩
                      (try clear HO_13)
                      (try clear HO257)
                      (try clear HB)
                      generalize (w39.setCell ⟨go27, (t251 : Int).toNat * 6 + 4, none⟩ (.int .i64 (wrap64 (((rd_T30 y255 t251).f4) - t259)))) = w42 at n0_ n1_ n2_ ⊢
                      have HO_13 := n0_
                      have HO257 := n1_
                      have HB := n2_
                      clear n0_ n1_ n2_
                      (try (rw [drewN_self w42]; generalize hq_ : World.drewN w42 _ = w42; have n0_ : Aside0 (Kd.R k30 30 w42 w.heap.size (fun k_ => some k_ ≠ (.slice Ao35 x13_13.length co35 : Value).ownBlock) (.slice (some ⟨go27, 0, none⟩) y255.length co40) y260) := ⟨by rw [← hq_]; exact (by (with_reducible repeat (first | apply Kd.R_alloc | apply Kd.R_drewN | apply Kd.R_drew)); exact HO257.out)⟩; have n1_ : Aside0 (Kd.R k30 30 w42 w.heap.size (fun k_ => some k_ ≠ (.slice (some ⟨go27, 0, none⟩) y255.length co40 : Value).ownBlock) (.slice Ao35 x13_13.length co35) x13_13) := ⟨by rw [← hq_]; exact (by (with_reducible repeat (first | apply Kd.R_alloc | apply Kd.R_drewN | apply Kd.R_drew)); exact HO_13.out)⟩; have n2_ : Aside0 (Below w.heap.size w w42) := ⟨by rw [← hq_]; exact (by repeat (first | (with_reducible first | exact HB.out | apply below_alloc | apply pw_below_drewN | apply below_drew1) | exact HB.out))⟩; clear HO257 HO_13 HB hq_; have HO257 := n0_; have HO_13 := n1_; have HB := n2_; clear n0_ n1_ n2_))
                      have n0_ := Aside0.mk (Kd.R_drew HO_13.out)
                      have n1_ := Aside0.mk (Kd.R_drew HO257.out)
                      have n2_ := Aside0.mk (below_drew1 HB.out)
                      clear HO_13
                      clear HO257
                      clear HB
                      have HO_13 := n0_
                      have HO257 := n1_
                      have HB := n2_
                      clear n0_ n1_ n2_
                      have p261 : 0 ≤ (t251 : Int) := of_decide_eq_true (by first | (with_reducible assumption) | assumption)
                      have q261 : t251 < (y260.length : Int) := (by have h_ : (t251 : Int) < ((y255.length : Int) : Int) := of_decide_eq_true (by first | (with_reducible assumption) | assumption); first | (have e_ := (Kd.R_reads' HO257.out).1; omega) | simpa only [Ny260.out, List.length_set] using h_)
                      have ql261 : ((t251 : Int) < ((y255.length : Int) : Int)) = True := eq_true (of_decide_eq_true (by first | (with_reducible assumption) | assumption))
                      obtain ⟨ad261, e261, hx261_0, hx261_1, hx261_2, hx261_3, hx261_4, hx261_5⟩ := at_T30 (Kd.R_reads' HO257.out).2.2 t251 p261 q261
                      obtain rfl : (⟨go27, 0, none⟩ : Addr) = ad261 := (by injection e261)
                      (first | simp only [add_plain] at hx261_0 | simp only [add_at] at hx261_0 | simp only [Addr.add, Nat.zero_add] at hx261_0 | skip)
                      (first | simp only [add_plain] at hx261_1 | simp only [add_at] at hx261_1 | simp only [Addr.add, Nat.zero_add] at hx261_1 | skip)
                      (first | simp only [add_plain] at hx261_2 | simp only [add_at] at hx261_2 | simp only [Addr.add, Nat.zero_add] at hx261_2 | skip)
                      (first | simp only [add_plain] at hx261_3 | simp only [add_at] at hx261_3 | simp only [Addr.add, Nat.zero_add] at hx261_3 | skip)
                      (first | simp only [add_plain] at hx261_4 | simp only [add_at] at hx261_4 | simp only [Addr.add, Nat.zero_add] at hx261_4 | skip)
                      (first | simp only [add_plain] at hx261_5 | simp only [add_at] at hx261_5 | simp only [Addr.add, Nat.zero_add] at hx261_5 | skip)
                      replace p261 := eq_true p261
                      replace q261 := eq_true q261
                      refine start_ (n := 13) (S := fun w' => w'.cell? ⟨go27, (t251).toNat * 6, none⟩ = some (.int .i64 ((rd_T30 y260 t251).f0)) ∧ w'.cell? ⟨go27, (t251).toNat * 6 + 1, none⟩ = some (.bool ((rd_T30 y260 t251).f1)) ∧ w'.cell? ⟨go27, (t251).toNat * 6 + 2, none⟩ = some (.int .u64 ((rd_T30 y260 t251).f2)) ∧ w'.cell? ⟨go27, (t251).toNat * 6 + 3, none⟩ = some (.int .i64 ((rd_T30 y260 t251).f3)) ∧ w'.cell? ⟨go27, (t251).toNat * 6 + 4, none⟩ = some (.int .i64 ((rd_T30 y260 t251).f4)) ∧ w'.cell? ⟨go27, (t251).toNat * 6 + 5, none⟩ = some (.int .i64 ((rd_T30 y260 t251).f5))) (ds := [12]) #[false, false, false, false, false, false, false, false, false, false, false, false, false] (by kernel_rfl) rfl rfl ⟨hx261_0, hx261_1, hx261_2, hx261_3, hx261_4, hx261_5⟩ (fun hHeld => ?_); refine with_tabW hatstandlaw15_LinearLonger.tab11 hatstandlaw15_LinearLonger.bits11 (fun HT_ HW_ => ?_)
                      generalize w42.drew = w43 at HO_13 HO257 HB HQ41 hx261_0 hx261_1 hx261_2 hx261_3 hx261_4 hx261_5 hHeld ⊢
                      refine pure_ (i := 0) (N := some 66) (v := ?_) (a' := ?_) #[true, false, false, false, false, false, false, false, false, false, false, false, false] rfl rfl (any_of HT_.out (by kernel_rfl)) (fun _ _ _ h => h) (Or.inl ⟨by rfl, ?_⟩) ?_ ?_
                      rotate_left
                      · intro w'
                        go_simp
                        with_reducible rfl
                      rotate_left
                      · simp only [Act.put, List.setIfInBounds_toArray, List.set_cons_zero, List.set_cons_succ, i64_w, i32_w, Go.IntKind.wrap_u32]
                        rfl
                      refine pure_ (i := 1) (N := some 67) (v := ?_) (a' := ?_) #[true, true, false, false, false, false, false, false, false, false, false, false, false] rfl rfl (any_of HT_.out (by kernel_rfl)) (fun _ _ _ h => h) (Or.inl ⟨by rfl, ?_⟩) ?_ ?_
                      rotate_left
                      · intro w'
                        go_simp
                        with_reducible rfl
                      rotate_left
                      · simp only [Act.put, List.setIfInBounds_toArray, List.set_cons_zero, List.set_cons_succ, i64_w, i32_w, Go.IntKind.wrap_u32]
                        rfl
                      refine pure_ (i := 2) (N := some 68) (v := ?_) (a' := ?_) #[true, true, true, false, false, false, false, false, false, false, false, false, false] rfl rfl (any_of HT_.out (by kernel_rfl)) (fun _ _ _ h => h) (Or.inl ⟨by rfl, ?_⟩) ?_ ?_
                      rotate_left
                      · intro w'
                        go_simp
                        with_reducible rfl
                      rotate_left
                      · simp only [Act.put, List.setIfInBounds_toArray, List.set_cons_zero, List.set_cons_succ, i64_w, i32_w, Go.IntKind.wrap_u32]
                        rfl
                      refine pure_ (i := 3) (N := some 69) (v := ?_) (a' := ?_) #[true, true, true, true, false, false, false, false, false, false, false, false, false] rfl rfl (any_of HT_.out (by kernel_rfl)) (fun _ _ _ h => h) (Or.inl ⟨by rfl, ?_⟩) ?_ ?_
                      rotate_left
                      · intro w'
                        go_simp
                        with_reducible rfl
                      rotate_left
                      · simp only [Act.put, List.setIfInBounds_toArray, List.set_cons_zero, List.set_cons_succ, i64_w, i32_w, Go.IntKind.wrap_u32]
                        rfl
                      refine pure_ (i := 4) (N := some 70) (v := ?_) (a' := ?_) #[true, true, true, true, true, false, false, false, false, false, false, false, false] rfl rfl (any_of HT_.out (by kernel_rfl)) (fun _ _ _ h => h) (Or.inl ⟨by rfl, ?_⟩) ?_ ?_
                      rotate_left
                      · intro w'
                        go_simp
                        with_reducible rfl
                      rotate_left
                      · simp only [Act.put, List.setIfInBounds_toArray, List.set_cons_zero, List.set_cons_succ, i64_w, i32_w, Go.IntKind.wrap_u32]
                        rfl
                      refine pure_ (i := 5) (N := some 71) (v := ?_) (a' := ?_) #[true, true, true, true, true, true, false, false, false, false, false, false, false] rfl rfl (any_of HT_.out (by kernel_rfl)) (fun _ _ _ h => h) (Or.inl ⟨by rfl, ?_⟩) ?_ ?_
                      rotate_left
                      · intro w'
                        go_simp
                        with_reducible rfl
                      rotate_left
                      · simp only [Act.put, List.setIfInBounds_toArray, List.set_cons_zero, List.set_cons_succ, i64_w, i32_w, Go.IntKind.wrap_u32]
                        rfl
                      refine pure_ (i := 7) (N := some 73) (v := ?_) (a' := ?_) #[true, true, true, true, true, true, false, true, false, false, false, false, false] rfl rfl (any_of HT_.out (by kernel_rfl)) (fun _ _ _ h => h) (Or.inl ⟨by rfl, ?_⟩) ?_ ?_
                      rotate_left
                      · intro w'
                        go_simp
                        with_reducible rfl
                      rotate_left
                      · simp only [Act.put, List.setIfInBounds_toArray, List.set_cons_zero, List.set_cons_succ, i64_w, i32_w, Go.IntKind.wrap_u32]
                        rfl
                      refine take_ (i := 6) (N := some 72) (v := ?_) (a' := ?_) #[true, true, true, true, true, true, true, true, false, false, false, false, false] rfl rfl (take_ofW HT_.out HW_.out (by kernel_rfl)) (fun _ _ _ h => h) (Or.inl ⟨by rfl, ?_⟩) hHeld ?_ ?_
                      rotate_left
                      · rintro w' ⟨s0, s1, s2, s3, s4, s5⟩
                        go_simp
                        with_reducible rfl
                      rotate_left
                      · simp only [Act.put, List.setIfInBounds_toArray, List.set_cons_zero, List.set_cons_succ, i64_w, i32_w, Go.IntKind.wrap_u32]
                        rfl
                      refine one_ (i := 8) (N := some 74) #[true, true, true, true, true, true, true, true, true, false, false, false, false] rfl rfl (one_of HT_.out (by kernel_rfl)) (by decide) (fun K hK => ?_)
                      refine goes_ Try.func10 (by kernel_rfl) rfl #[.int .i64 a3, .int .i64 700] (by rfl) rfl rfl (by (try simp only [List.map_toArray, List.map_cons, List.map_nil]); first | done | rfl | (simp only [List.length_drop, List.length_take]; rfl)) ?_
                      with_reducible refine (hatstandlaw15_pick.calls a3 700 t262 _ A28.out).mono ?_
                      rintro e w' ⟨rfl, ⟨nd, rfl⟩⟩
                      refine ⟨_, rfl, ?_⟩
                      have p29 : 0 ≤ (t251 : Int) := of_decide_eq_true (by first | (with_reducible assumption) | assumption)
                      have q29 : (t251 : Int) < ((y255.length : Int) : Int) := of_decide_eq_true (by first | (with_reducible assumption) | assumption)
                      obtain ⟨ce29, hcl29, hM29, hcc29, hfr29⟩ := Kd.R_elem HO257.out z30 (t251 : Int) p29 q29
                      obtain rfl := k30_openM hM29
                      have hx29_0 : World.cell? _ ⟨go27, (t251 : Int).toNat * 6, none⟩ = some (.int .i64 ((rd_T30 y260 t251).f0)) := hcc29 0 _ rfl
                      have hx29_1 : World.cell? _ ⟨go27, (t251 : Int).toNat * 6 + 1, none⟩ = some (.bool ((rd_T30 y260 t251).f1)) := hcc29 1 _ rfl
                      have hx29_2 : World.cell? _ ⟨go27, (t251 : Int).toNat * 6 + 2, none⟩ = some (.int .u64 ((rd_T30 y260 t251).f2)) := hcc29 2 _ rfl
                      have hx29_3 : World.cell? _ ⟨go27, (t251 : Int).toNat * 6 + 3, none⟩ = some (.int .i64 ((rd_T30 y260 t251).f3)) := hcc29 3 _ rfl
                      have hx29_4 : World.cell? _ ⟨go27, (t251 : Int).toNat * 6 + 4, none⟩ = some (.int .i64 ((rd_T30 y260 t251).f4)) := hcc29 4 _ rfl
                      have hx29_5 : World.cell? _ ⟨go27, (t251 : Int).toNat * 6 + 5, none⟩ = some (.int .i64 ((rd_T30 y260 t251).f5)) := hcc29 5 _ rfl
                      have hf29_0 : World.frozen? _ ⟨go27, (t251 : Int).toNat * 6, none⟩ = false := hfr29 0
                      have hf29_1 : World.frozen? _ ⟨go27, (t251 : Int).toNat * 6 + 1, none⟩ = false := hfr29 1
                      have hf29_2 : World.frozen? _ ⟨go27, (t251 : Int).toNat * 6 + 2, none⟩ = false := hfr29 2
                      have hf29_3 : World.frozen? _ ⟨go27, (t251 : Int).toNat * 6 + 3, none⟩ = false := hfr29 3
                      have hf29_4 : World.frozen? _ ⟨go27, (t251 : Int).toNat * 6 + 4, none⟩ = false := hfr29 4
                      have hf29_5 : World.frozen? _ ⟨go27, (t251 : Int).toNat * 6 + 5, none⟩ = false := hfr29 5
                      clear hcl29 hcc29 hfr29 hM29
                      replace p29 := eq_true p29
                      replace q29 := eq_true q29
                      obtain ⟨ce44, hcl44, hM44, hcc44, hfr44⟩ := Kd.R_elem HO257.out z30 (t251 : Int) (of_decide_eq_true (by first | (with_reducible assumption) | assumption)) (by have h_ : (t251 : Int) < ((y255.length : Int) : Int) := of_decide_eq_true (by first | (with_reducible assumption) | assumption); first | exact h_ | (have e_ := (Kd.R_reads' HO257.out).1; omega) | simpa using h_)
                      obtain rfl := k30_openM hM44
                      have HP44 := (Kd.R_seg HO257.out (t251 : Int) (of_decide_eq_true (by first | (with_reducible assumption) | assumption)) (by have h_ : (t251 : Int) < ((y255.length : Int) : Int) := of_decide_eq_true (by first | (with_reducible assumption) | assumption); first | exact h_ | (have e_ := (Kd.R_reads' HO257.out).1; omega) | simpa using h_) (seg := [.int .i64 (wrap64 (((rd_T30 y260 t251).f5) + t262))]) (j := 5) hcl44 hcc44 (show 6 ≤ 6 from by decide) (x' := (⟨(rd_T30 y260 t251).f0, (rd_T30 y260 t251).f1, (rd_T30 y260 t251).f2, (rd_T30 y260 t251).f3, (rd_T30 y260 t251).f4, wrap64 (((rd_T30 y260 t251).f5) + t262)⟩ : S30)) (k30_mkM _ _ _ (⟨(rd_T30 y260 t251).f0, (rd_T30 y260 t251).f1, (rd_T30 y260 t251).f2, (rd_T30 y260 t251).f3, (rd_T30 y260 t251).f4, wrap64 (((rd_T30 y260 t251).f5) + t262)⟩ : S30) ) (fun _ hk => hk)).1
                      rw [← Ny263.out] at HP44
                      have HQ44 := Aside0.mk HP44
                      clear hcl44 hcc44 hfr44 hM44 HP44
                      refine hK.out _ _ ⟨hHeld.1, hHeld.2.1, hHeld.2.2.1, hHeld.2.2.2.1, hHeld.2.2.2.2.1, hHeld.2.2.2.2.2⟩ (fun hHeld => ?_)
                      clear hK K
                      refine norm_ (a' := ?_) ?_ ?_
                      rotate_left
                      · show Act.put _ (some 74) _ = _
                        simp only [Act.put, List.setIfInBounds_toArray, List.set_cons_zero, List.set_cons_succ, i64_w, i32_w, Go.IntKind.wrap_u32]
                        rfl
                      refine pure_ (i := 9) (N := some 75) (v := ?_) (a' := ?_) #[true, true, true, true, true, true, true, true, true, true, false, false, false] rfl rfl (any_of HT_.out (by kernel_rfl)) (fun _ _ _ h => h) (Or.inl ⟨by rfl, ?_⟩) ?_ ?_
                      rotate_left
                      · intro w'
                        go_simp
                        with_reducible rfl
                      rotate_left
                      · simp only [Act.put, List.setIfInBounds_toArray, List.set_cons_zero, List.set_cons_succ, i64_w, i32_w, Go.IntKind.wrap_u32]
                        rfl
                      refine pure_ (i := 10) (N := some 76) (v := ?_) (a' := ?_) #[true, true, true, true, true, true, true, true, true, true, true, false, false] rfl rfl (any_of HT_.out (by kernel_rfl)) (fun _ _ _ h => h) (Or.inl ⟨by rfl, ?_⟩) ?_ ?_
                      rotate_left
                      · intro w'
                        go_simp
                        with_reducible rfl
                      rotate_left
                      · simp only [Act.put, List.setIfInBounds_toArray, List.set_cons_zero, List.set_cons_succ, i64_w, i32_w, Go.IntKind.wrap_u32]
                        rfl
                      refine pure_ (i := 11) (N := some 77) (v := ?_) (a' := ?_) #[true, true, true, true, true, true, true, true, true, true, true, true, false] rfl rfl (any_of HT_.out (by kernel_rfl)) (fun _ _ _ h => h) (Or.inl ⟨by rfl, ?_⟩) ?_ ?_
                      rotate_left
                      · intro w'
                        go_simp
                        with_reducible rfl
                      rotate_left
                      · simp only [Act.put, List.setIfInBounds_toArray, List.set_cons_zero, List.set_cons_succ, i64_w, i32_w, Go.IntKind.wrap_u32]
                        rfl
                      refine last_ (i := 12) (N := none) #[true, true, true, true, true, true, true, true, true, true, true, true, true] rfl rfl (one_of HT_.out (by kernel_rfl)) (by decide) (fun K hK => ?_)
                      refine skip_ (w1 := ?_) (by rfl) rfl ?_ ?_
                      rotate_left
                      · go_simp
                        rfl
                      refine hK.out _ _ ?_
                      clear hK K
                      refine done_ (done_of HT_.out (by kernel_rfl)) ?_
                      try go_wp2_with (first | ((with_reducible refine gate_callee (f := 12) rfl ?_); refine goesL_ (some 81) rfl rfl Try.func12 (by kernel_rfl) rfl #[.slice Ao35 x13_13.length co35, .int .i64 t245] rfl (by (try simp only [List.map_toArray, List.map_cons, List.map_nil]); first | done | rfl | (simp only [List.length_drop, List.length_take]; rfl)) ?_; (with_reducible refine (linear_Find.calls _ _ x13_13 t245 t264 true _ ?side1 ?side2 A30.out).mono ?_); (case side1 => refine (Kd.R_reads' (e := 30) (base := w.heap.size) (ok := fun k_ => some k_ ≠ (.slice (some ⟨go27, 0, none⟩) y255.length co40 : Value).ownBlock) (n := x13_13.length) (c := co35) ?_).2.2; exact (by (with_reducible repeat (first | apply Kd.R_alloc | apply Kd.R_drewN | apply Kd.R_drew)); exact (Kd.R_mono (Kd.R_far (p := ⟨go27, (t251 : Int).toNat * 6 + 5, none⟩) (Kd.R_mono HO_13.out (fun k_ hk => (⟨hk, fun e_ => hk (by rw [e_]; rfl)⟩ : _ ∧ k_ ≠ go27))) (fun _ hk => hk.2) (.int .i64 (wrap64 (((rd_T30 y260 t251).f5) + t262)))) (fun _ h_ => h_.1)))); (case side2 => exact (Kd.R_reads' HO_13.out).2.1); rintro e w45 ⟨v266, rfl, ho0, hb⟩; refine ⟨_, rfl, ?_⟩; have n0_ := Aside0.mk (Kd.R_below (by (with_reducible repeat (first | apply Kd.R_alloc | apply Kd.R_drewN | apply Kd.R_drew)); exact (Kd.R_mono (Kd.R_far (p := ⟨go27, (t251 : Int).toNat * 6 + 5, none⟩) (Kd.R_mono HO_13.out (fun k_ hk => (⟨hk, fun e_ => hk (by rw [e_]; rfl)⟩ : _ ∧ k_ ≠ go27))) (fun _ hk => hk.2) (.int .i64 (wrap64 (((rd_T30 y260 t251).f5) + t262)))) (fun _ h_ => h_.1))) hb); have n1_ := Aside0.mk (Kd.R_below (by (with_reducible repeat (first | apply Kd.R_alloc | apply Kd.R_drewN | apply Kd.R_drew)); exact HQ44.out) hb); have n2_ := Aside0.mk (Kd.R_lower ho0 (below_size (by repeat (first | (with_reducible first | exact HB.out | apply below_alloc | apply pw_below_drewN | apply below_drew1 | refine below_set ?_ GB27.out) | exact HB.out)))); have n3_ := Aside0.mk (below_step (by repeat (first | (with_reducible first | exact HB.out | apply below_alloc | apply pw_below_drewN | apply below_drew1 | refine below_set ?_ GB27.out) | exact HB.out)) hb); clear HO_13; clear HO257; clear HB; have HO_13 := n0_; have HO257 := n1_; have HO267 := n2_; have HB := n3_; clear n0_ n1_ n2_ n3_; (try clear hb); (try clear hb2); (try clear hk); (try clear hi); (try clear ho0)) | ((with_reducible refine gate_callee (f := 12) rfl ?_); refine goesL_ (some 87) rfl rfl Try.func12 (by kernel_rfl) rfl #[.slice (some ⟨go27, 0, none⟩) y263.length co40, .int .i64 t245] rfl (by (try simp only [List.map_toArray, List.map_cons, List.map_nil]); first | done | (rw [show y263.length = y255.length from (Kd.R_reads' HO257.out).1.symm] <;> rfl) | rfl | (simp only [List.length_drop, List.length_take]; rfl)) ?_; (with_reducible refine (linear_Find.calls _ _ y263 t245 t268 true _ ?side1 ?side2 A31.out).mono ?_); (case side1 => repeat (first | exact (Kd.R_reads' HO257.out).2.2 | (with_reducible refine Kd.C_alloc ?_ _) | (with_reducible refine Kd.C_drewN ?_ _) | (with_reducible refine Kd.C_drew ?_))); (case side2 => rw [show y263.length = y255.length from (Kd.R_reads' HO257.out).1.symm]; exact (Kd.R_reads' HO257.out).2.1); rintro e w46 ⟨v270, rfl, ho0, hb⟩; refine ⟨_, rfl, ?_⟩; have n0_ := Aside0.mk (Kd.R_below (by (with_reducible repeat (first | apply Kd.R_alloc | apply Kd.R_drewN | apply Kd.R_drew)); exact HO_13.out) hb); have n1_ := Aside0.mk (Kd.R_below (by (with_reducible repeat (first | apply Kd.R_alloc | apply Kd.R_drewN | apply Kd.R_drew)); exact HO257.out) hb); have n2_ := Aside0.mk (Kd.R_elder' (by (with_reducible repeat (first | apply Kd.R_alloc | apply Kd.R_drewN | apply Kd.R_drew)); exact HO267.out) (Kd.R_base ho0) hb); have n3_ := Aside0.mk (Kd.R_lower (Kd.R_new' ho0 (Kd.R_lt (by (with_reducible repeat (first | apply Kd.R_alloc | apply Kd.R_drewN | apply Kd.R_drew)); exact HO267.out))) (below_size (by repeat (first | (with_reducible first | exact HB.out | apply below_alloc | apply pw_below_drewN | apply below_drew1) | exact HB.out)))); have n4_ := Aside0.mk (below_step (by repeat (first | (with_reducible first | exact HB.out | apply below_alloc | apply pw_below_drewN | apply below_drew1) | exact HB.out)) hb); clear HO_13; clear HO257; clear HO267; clear HB; have HO_13 := n0_; have HO257 := n1_; have HO267 := n2_; have HO271 := n3_; have HB := n4_; clear n0_ n1_ n2_ n3_ n4_; (try clear hb); (try clear hb2); (try clear hk); (try clear hi); (try clear ho0); obtain ⟨Ao47, co47, eo47⟩ := Kd.R_slice HO267.out; subst eo47) | (go_at_call 13; refine calls_of_args (args' := #[.slice (some ⟨go27, 0, none⟩) y263.length co40, .int .i64 t245, .slice Ao47 t264.length co47]) (by first | (rw [show y263.length = y255.length from (Kd.R_reads' HO257.out).1.symm] <;> rfl) | rfl) ?_; (with_reducible refine (linear_Fits.calls kj13 _ _ y263 t245 _ _ t264 t272 _ ?side1 ?side2 ?side3 ?side4 A34.out).mono ?_); (case side1 => repeat (first | exact (Kd.R_reads' HO257.out).2.2 | (with_reducible refine Kd.C_alloc ?_ _) | (with_reducible refine Kd.C_drewN ?_ _) | (with_reducible refine Kd.C_drew ?_))); (case side2 => rw [show y263.length = y255.length from (Kd.R_reads' HO257.out).1.symm]; exact (Kd.R_reads' HO257.out).2.1); (case side3 => repeat (first | exact (Kd.R_reads' HO267.out).2.2 | (with_reducible refine Kd.C_alloc ?_ _) | (with_reducible refine Kd.C_drewN ?_ _) | (with_reducible refine Kd.C_drew ?_))); (case side4 => exact (Kd.R_reads' HO267.out).2.1); rintro e w48 ⟨rfl, hb⟩; have n0_ := Aside0.mk (Kd.R_below (by (with_reducible repeat (first | apply Kd.R_alloc | apply Kd.R_drewN | apply Kd.R_drew)); exact HO_13.out) hb); have n1_ := Aside0.mk (Kd.R_below (by (with_reducible repeat (first | apply Kd.R_alloc | apply Kd.R_drewN | apply Kd.R_drew)); exact HO257.out) hb); have n2_ := Aside0.mk (Kd.R_below (by (with_reducible repeat (first | apply Kd.R_alloc | apply Kd.R_drewN | apply Kd.R_drew)); exact HO267.out) hb); have n3_ := Aside0.mk (Kd.R_below (by (with_reducible repeat (first | apply Kd.R_alloc | apply Kd.R_drewN | apply Kd.R_drew)); exact HO271.out) hb); have n4_ := Aside0.mk (below_step (by repeat (first | (with_reducible first | exact HB.out | apply below_alloc | apply pw_below_drewN | apply below_drew1) | exact HB.out)) hb); clear HO_13; clear HO257; clear HO267; clear HO271; clear HB; have HO_13 := n0_; have HO257 := n1_; have HO267 := n2_; have HO271 := n3_; have HB := n4_; clear n0_ n1_ n2_ n3_ n4_; (try clear hb); (try clear hb2); (try clear hk); (try clear hi)))
                      go_ret
                      exact ⟨by first | rfl | (simp [errW_none, errW_some] <;> rfl) | (simp [*, errW_none, errW_some] <;> rfl), by repeat (first | (with_reducible first | exact HB.out | apply below_alloc | apply pw_below_drewN | apply below_drew1) | exact HB.out)⟩
                    · replace c33 := Bool.eq_false_iff.mpr c33
                      subst c33
                      have H1 : (some false) = some r := by rw [if_neg (show ¬ (false = true) by decide)] at H; exact H
                      clear H
                      have H := H1
                      clear H1
                      exact absurd ((Option.some.inj H).trans HT0.out) (by decide)
                  · replace c32 := Bool.eq_false_iff.mpr c32
                    subst c32
                    have H1 : (some true) = some r := by rw [if_neg (show ¬ (false = true) by decide)] at H; exact H
                    clear H
                    have H := H1
                    clear H1
                    obtain rfl := Option.some.inj H
                    obtain ⟨Ao49, co49, eo49⟩ := Kd.R_slice HO_13.out
                    subst eo49
                    try go_wp2_with (first | ((with_reducible refine gate_callee (f := 10) rfl ?_); refine goesL_ (some 50) rfl rfl Try.func10 (by kernel_rfl) rfl #[.int .i64 a2, .int .i64 (x13_13.length : Int)] rfl (by (try simp only [List.map_toArray, List.map_cons, List.map_nil]); first | done | rfl | (simp only [List.length_drop, List.length_take]; rfl)) ?_; (with_reducible refine (hatstandlaw15_pick.calls a2 (x13_13.length : Int) t251 _ A22.out).mono ?_); rintro e w' ⟨rfl, ⟨nd, rfl⟩⟩; refine ⟨_, rfl, ?_⟩; (try (rw [drewN_self wc]; generalize hq_ : World.drewN wc _ = wc; have n0_ : Aside0 (Kd.R k30 30 wc w.heap.size (fun _ => True) (.slice Ao49 x13_13.length co49) x13_13) := ⟨by rw [← hq_]; exact (by (with_reducible repeat (first | apply Kd.R_alloc | apply Kd.R_drewN | apply Kd.R_drew)); exact HO_13.out)⟩; have n1_ : Aside0 (Below w.heap.size w wc) := ⟨by rw [← hq_]; exact (by repeat (first | (with_reducible first | exact HB.out | apply below_alloc | apply pw_below_drewN | apply below_drew1) | exact HB.out))⟩; clear HO_13 HB hq_; have HO_13 := n0_; have HB := n1_; clear n0_ n1_))) | ((with_reducible refine gate_dst (N := 51) rfl ?_); (try (refine gate_guard (by rfl) ?_; dsimp only)); refine Kd.R_lit k30 _ 30 ?hg (N := 51) ?hd (xs := ([] : List (S30))) (inner := []) (ok := fun _ => True) (okp := fun _ => True) ?hr ?hp (fun _ hk => hk) trivial (Below.refl _ _) (Nat.le_refl _) (by simp) ?_; (case hd => rfl); (case hg => rfl); (case hr => first | (go_simp; done) | (go_simp; rfl)); (case hp => exact (Reps.none _ _)); intro v253 w50 ho51 hb hg_ hnew_; clear hg_ hnew_; (first | rw [← Ny252.out] at ho51 | (simp only [Int.reduceToNat] at ho51; rw [← Ny252.out] at ho51)); have n0_ := Aside0.mk (Kd.R_elder' (by (with_reducible repeat (first | apply Kd.R_alloc | apply Kd.R_drewN | apply Kd.R_drew)); exact HO_13.out) (Kd.R_base ho51) hb); have n1_ := Aside0.mk (Kd.R_lower (Kd.R_new' ho51 (Kd.R_lt (by (with_reducible repeat (first | apply Kd.R_alloc | apply Kd.R_drewN | apply Kd.R_drew)); exact HO_13.out))) (below_size (by repeat (first | (with_reducible first | exact HB.out | apply below_alloc | apply pw_below_drewN | apply below_drew1) | exact HB.out)))); have n2_ := Aside0.mk (below_step (by repeat (first | (with_reducible first | exact HB.out | apply below_alloc | apply pw_below_drewN | apply below_drew1) | exact HB.out)) hb); clear HO_13; clear HB; have HO_13 := n0_; have HO254 := n1_; have HB := n2_; clear n0_ n1_ n2_; clear hb ho51) | ((with_reducible refine gate_builtin (b := .append) (xs := #[.tmp 51, .tmp 52]) rfl ?_); (try (refine gate_guard (by rfl) ?_; dsimp only)); at_builtin; refine Kd.R_append_rows k30 (w0 := w) w.heap.size rfl (.tmp 51) (.tmp 52) 25 30 (.agg #[(.int .i64 0), (.bool false), (.int .u64 0), (.int .i64 0), (.int .i64 0), (.int .i64 0)]) 48 rfl Try.underlying25 info30 rfl (by decide) (by omega) v253 y252 x13_13 _ _ _ (fun k_ => some k_ ≠ (.slice Ao49 x13_13.length co49 : Value).ownBlock) (fun _ => False) rfl rfl ?aO ?aR (fun _ _ h => h) (fun _ h => h.elim) ?aF ?aB ?aS ?aL ?_; (case aR => repeat (first | exact (Kd.R_reads' HO_13.out).2.2 | (with_reducible refine Kd.C_alloc ?_ _) | (with_reducible refine Kd.C_drewN ?_ _) | (with_reducible refine Kd.C_drew ?_))); (case aB => exact (by repeat (first | (with_reducible first | exact HB.out | apply below_alloc | apply pw_below_drewN | apply below_drew1) | exact HB.out))); (case aF => exact (fun k_ hk => Kd.fresh' (Kd.R_lt (by (with_reducible repeat (first | apply Kd.R_alloc | apply Kd.R_drewN | apply Kd.R_drew)); exact HO_13.out)) k_ hk)); (case aO => exact (by (with_reducible repeat (first | apply Kd.R_alloc | apply Kd.R_drewN | apply Kd.R_drew)); exact Kd.R_mono HO254.out (fun _ hk => hk.2))); (case aS => exact (below_size (by repeat (first | (with_reducible first | exact HB.out | apply below_alloc | apply pw_below_drewN | apply below_drew1) | exact HB.out)))); (case aL => have := LMc23.out; omega); intro v256 w52 ho hb hg hat; rw [← Ny255.out] at ho; have n0_ := Aside0.mk (Kd.R_after (ok := (fun _ => True)) (by (with_reducible repeat (first | apply Kd.R_alloc | apply Kd.R_drewN | apply Kd.R_drew)); exact HO_13.out) hg hat); have n1_ := Aside0.mk (hb); have n2_ := Aside0.mk (ho); clear HO_13; clear HB; clear HO254; have HO_13 := n0_; have HB := n1_; have HO257 := n2_; clear n0_ n1_ n2_; clear ho hb hg hat))
                    have n0_ := Aside0.mk (Kd.R_drew HO_13.out)
                    have n1_ := Aside0.mk (Kd.R_drew HO257.out)
                    have n2_ := Aside0.mk (below_drew1 HB.out)
                    clear HO_13
                    clear HO257
                    clear HB
                    have HO_13 := n0_
                    have HO257 := n1_
                    have HB := n2_
                    clear n0_ n1_ n2_
                    obtain ⟨Ao54, co54, eo54⟩ := Kd.R_slice HO257.out
                    (first | subst eo54 | (injection eo54 with f1_ f2_ f3_; have f4_ := f1_.symm; have f5_ := f3_.symm; clear f1_ f2_ f3_; subst f4_; subst f5_))
                    have p258 : 0 ≤ (t251 : Int) := of_decide_eq_true (by first | (with_reducible assumption) | assumption)
                    have q258 : t251 < (y255.length : Int) := of_decide_eq_true (by first | (with_reducible assumption) | assumption)
                    obtain ⟨ad258, e258, hx258_0, hx258_1, hx258_2, hx258_3, hx258_4, hx258_5⟩ := at_T30 (Kd.R_reads' HO257.out).2.2 t251 p258 q258
                    cases e258
                    replace p258 := eq_true p258
                    replace q258 := eq_true q258
                    refine start_ (n := 13) (S := fun w' => w'.cell? (ad258.add ((t251).toNat * 6)) = some (.int .i64 ((rd_T30 y255 t251).f0)) ∧ w'.cell? ⟨(ad258.add ((t251).toNat * 6)).block, (ad258.add ((t251).toNat * 6)).off + 1, none⟩ = some (.bool ((rd_T30 y255 t251).f1)) ∧ w'.cell? ⟨(ad258.add ((t251).toNat * 6)).block, (ad258.add ((t251).toNat * 6)).off + 2, none⟩ = some (.int .u64 ((rd_T30 y255 t251).f2)) ∧ w'.cell? ⟨(ad258.add ((t251).toNat * 6)).block, (ad258.add ((t251).toNat * 6)).off + 3, none⟩ = some (.int .i64 ((rd_T30 y255 t251).f3)) ∧ w'.cell? ⟨(ad258.add ((t251).toNat * 6)).block, (ad258.add ((t251).toNat * 6)).off + 4, none⟩ = some (.int .i64 ((rd_T30 y255 t251).f4)) ∧ w'.cell? ⟨(ad258.add ((t251).toNat * 6)).block, (ad258.add ((t251).toNat * 6)).off + 5, none⟩ = some (.int .i64 ((rd_T30 y255 t251).f5))) (ds := [12]) #[false, false, false, false, false, false, false, false, false, false, false, false, false] (by kernel_rfl) rfl rfl ⟨hx258_0, hx258_1, hx258_2, hx258_3, hx258_4, hx258_5⟩ (fun hHeld => ?_); refine with_tabW hatstandlaw15_LinearLonger.tab10 hatstandlaw15_LinearLonger.bits10 (fun HT_ HW_ => ?_)
                    generalize w52.drew = w53 at HO_13 HO257 HB hx258_0 hx258_1 hx258_2 hx258_3 hx258_4 hx258_5 hHeld ⊢
                    refine pure_ (i := 0) (N := some 54) (v := ?_) (a' := ?_) #[true, false, false, false, false, false, false, false, false, false, false, false, false] rfl rfl (any_of HT_.out (by kernel_rfl)) (fun _ _ _ h => h) (Or.inl ⟨by rfl, ?_⟩) ?_ ?_
                    rotate_left
                    · intro w'
                      go_simp
                      with_reducible rfl
                    rotate_left
                    · simp only [Act.put, List.setIfInBounds_toArray, List.set_cons_zero, List.set_cons_succ, i64_w, i32_w, Go.IntKind.wrap_u32]
                      rfl
                    refine pure_ (i := 1) (N := some 55) (v := ?_) (a' := ?_) #[true, true, false, false, false, false, false, false, false, false, false, false, false] rfl rfl (any_of HT_.out (by kernel_rfl)) (fun _ _ _ h => h) (Or.inl ⟨by rfl, ?_⟩) ?_ ?_
                    rotate_left
                    · intro w'
                      go_simp
                      with_reducible rfl
                    rotate_left
                    · simp only [Act.put, List.setIfInBounds_toArray, List.set_cons_zero, List.set_cons_succ, i64_w, i32_w, Go.IntKind.wrap_u32]
                      rfl
                    refine pure_ (i := 2) (N := some 56) (v := ?_) (a' := ?_) #[true, true, true, false, false, false, false, false, false, false, false, false, false] rfl rfl (any_of HT_.out (by kernel_rfl)) (fun _ _ _ h => h) (Or.inl ⟨by rfl, ?_⟩) ?_ ?_
                    rotate_left
                    · intro w'
                      go_simp
                      with_reducible rfl
                    rotate_left
                    · simp only [Act.put, List.setIfInBounds_toArray, List.set_cons_zero, List.set_cons_succ, i64_w, i32_w, Go.IntKind.wrap_u32]
                      rfl
                    refine pure_ (i := 3) (N := some 57) (v := ?_) (a' := ?_) #[true, true, true, true, false, false, false, false, false, false, false, false, false] rfl rfl (any_of HT_.out (by kernel_rfl)) (fun _ _ _ h => h) (Or.inl ⟨by rfl, ?_⟩) ?_ ?_
                    rotate_left
                    · intro w'
                      go_simp
                      with_reducible rfl
                    rotate_left
                    · simp only [Act.put, List.setIfInBounds_toArray, List.set_cons_zero, List.set_cons_succ, i64_w, i32_w, Go.IntKind.wrap_u32]
                      rfl
                    refine pure_ (i := 4) (N := some 58) (v := ?_) (a' := ?_) #[true, true, true, true, true, false, false, false, false, false, false, false, false] rfl rfl (any_of HT_.out (by kernel_rfl)) (fun _ _ _ h => h) (Or.inl ⟨by rfl, ?_⟩) ?_ ?_
                    rotate_left
                    · intro w'
                      go_simp
                      with_reducible rfl
                    rotate_left
                    · simp only [Act.put, List.setIfInBounds_toArray, List.set_cons_zero, List.set_cons_succ, i64_w, i32_w, Go.IntKind.wrap_u32]
                      rfl
                    refine pure_ (i := 5) (N := some 59) (v := ?_) (a' := ?_) #[true, true, true, true, true, true, false, false, false, false, false, false, false] rfl rfl (any_of HT_.out (by kernel_rfl)) (fun _ _ _ h => h) (Or.inl ⟨by rfl, ?_⟩) ?_ ?_
                    rotate_left
                    · intro w'
                      go_simp
                      with_reducible rfl
                    rotate_left
                    · simp only [Act.put, List.setIfInBounds_toArray, List.set_cons_zero, List.set_cons_succ, i64_w, i32_w, Go.IntKind.wrap_u32]
                      rfl
                    refine pure_ (i := 7) (N := some 61) (v := ?_) (a' := ?_) #[true, true, true, true, true, true, false, true, false, false, false, false, false] rfl rfl (any_of HT_.out (by kernel_rfl)) (fun _ _ _ h => h) (Or.inl ⟨by rfl, ?_⟩) ?_ ?_
                    rotate_left
                    · intro w'
                      go_simp
                      with_reducible rfl
                    rotate_left
                    · simp only [Act.put, List.setIfInBounds_toArray, List.set_cons_zero, List.set_cons_succ, i64_w, i32_w, Go.IntKind.wrap_u32]
                      rfl
                    refine take_ (i := 6) (N := some 60) (v := ?_) (a' := ?_) #[true, true, true, true, true, true, true, true, false, false, false, false, false] rfl rfl (take_ofW HT_.out HW_.out (by kernel_rfl)) (fun _ _ _ h => h) (Or.inl ⟨by rfl, ?_⟩) hHeld ?_ ?_
                    rotate_left
                    · rintro w' ⟨s0, s1, s2, s3, s4, s5⟩
                      go_simp
                      with_reducible rfl
                    rotate_left
                    · simp only [Act.put, List.setIfInBounds_toArray, List.set_cons_zero, List.set_cons_succ, i64_w, i32_w, Go.IntKind.wrap_u32]
                      rfl
                    refine one_ (i := 8) (N := some 62) #[true, true, true, true, true, true, true, true, true, false, false, false, false] rfl rfl (one_of HT_.out (by kernel_rfl)) (by decide) (fun K hK => ?_)
                    refine goes_ Try.func10 (by kernel_rfl) rfl #[.int .i64 a3, .int .i64 300] (by rfl) rfl rfl (by (try simp only [List.map_toArray, List.map_cons, List.map_nil]); first | done | rfl | (simp only [List.length_drop, List.length_take]; rfl)) ?_
                    with_reducible refine (hatstandlaw15_pick.calls a3 300 t259 _ A26.out).mono ?_
                    rintro e w' ⟨rfl, ⟨nd, rfl⟩⟩
                    refine ⟨_, rfl, ?_⟩
                    have p27 : 0 ≤ (t251 : Int) := of_decide_eq_true (by first | (with_reducible assumption) | assumption)
                    have q27 : (t251 : Int) < ((y255.length : Int) : Int) := of_decide_eq_true (by first | (with_reducible assumption) | assumption)
                    obtain ⟨go27, co27, eo27, gb27, gl27, cl27, HG27⟩ := Kd.R_form HO257.out (by omega)
                    (first | cases eo27 | (injection eo27 with ea_ en_ ec_; (first | subst ea_ | (injection ea_ with ea_; subst ea_)); subst ec_; clear en_))
                    have GB27 := Aside0.mk gb27
                    have GG27 := Aside0.mk HG27
                    clear gb27 gl27 HG27
                    (first | simp only [add_plain] at hx258_0 | skip)
                    (first | simp only [add_plain] at hx258_1 | skip)
                    (first | simp only [add_plain] at hx258_2 | skip)
                    (first | simp only [add_plain] at hx258_3 | skip)
                    (first | simp only [add_plain] at hx258_4 | skip)
                    (first | simp only [add_plain] at hx258_5 | skip)
                    obtain ⟨ce27, hcl27, hM27, hcc27, hfr27⟩ := Kd.R_elem HO257.out z30 (t251 : Int) p27 q27
                    obtain rfl := k30_openM hM27
                    have hx27_0 : World.cell? _ ⟨go27, (t251 : Int).toNat * 6, none⟩ = some (.int .i64 ((rd_T30 y255 t251).f0)) := hcc27 0 _ rfl
                    have hx27_1 : World.cell? _ ⟨go27, (t251 : Int).toNat * 6 + 1, none⟩ = some (.bool ((rd_T30 y255 t251).f1)) := hcc27 1 _ rfl
                    have hx27_2 : World.cell? _ ⟨go27, (t251 : Int).toNat * 6 + 2, none⟩ = some (.int .u64 ((rd_T30 y255 t251).f2)) := hcc27 2 _ rfl
                    have hx27_3 : World.cell? _ ⟨go27, (t251 : Int).toNat * 6 + 3, none⟩ = some (.int .i64 ((rd_T30 y255 t251).f3)) := hcc27 3 _ rfl
                    have hx27_4 : World.cell? _ ⟨go27, (t251 : Int).toNat * 6 + 4, none⟩ = some (.int .i64 ((rd_T30 y255 t251).f4)) := hcc27 4 _ rfl
                    have hx27_5 : World.cell? _ ⟨go27, (t251 : Int).toNat * 6 + 5, none⟩ = some (.int .i64 ((rd_T30 y255 t251).f5)) := hcc27 5 _ rfl
                    have hf27_0 : World.frozen? _ ⟨go27, (t251 : Int).toNat * 6, none⟩ = false := hfr27 0
                    have hf27_1 : World.frozen? _ ⟨go27, (t251 : Int).toNat * 6 + 1, none⟩ = false := hfr27 1
                    have hf27_2 : World.frozen? _ ⟨go27, (t251 : Int).toNat * 6 + 2, none⟩ = false := hfr27 2
                    have hf27_3 : World.frozen? _ ⟨go27, (t251 : Int).toNat * 6 + 3, none⟩ = false := hfr27 3
                    have hf27_4 : World.frozen? _ ⟨go27, (t251 : Int).toNat * 6 + 4, none⟩ = false := hfr27 4
                    have hf27_5 : World.frozen? _ ⟨go27, (t251 : Int).toNat * 6 + 5, none⟩ = false := hfr27 5
                    clear hcl27 hcc27 hfr27 hM27
                    replace p27 := eq_true p27
                    replace q27 := eq_true q27
                    obtain ⟨ce55, hcl55, hM55, hcc55, hfr55⟩ := Kd.R_elem HO257.out z30 (t251 : Int) (of_decide_eq_true (by first | (with_reducible assumption) | assumption)) (by have h_ : (t251 : Int) < ((y255.length : Int) : Int) := of_decide_eq_true (by first | (with_reducible assumption) | assumption); first | exact h_ | (have e_ := (Kd.R_reads' HO257.out).1; omega) | simpa using h_)
                    obtain rfl := k30_openM hM55
                    have HP55 := (Kd.R_seg HO257.out (t251 : Int) (of_decide_eq_true (by first | (with_reducible assumption) | assumption)) (by have h_ : (t251 : Int) < ((y255.length : Int) : Int) := of_decide_eq_true (by first | (with_reducible assumption) | assumption); first | exact h_ | (have e_ := (Kd.R_reads' HO257.out).1; omega) | simpa using h_) (seg := [.int .i64 (wrap64 (((rd_T30 y255 t251).f4) - t259))]) (j := 4) hcl55 hcc55 (show 5 ≤ 6 from by decide) (x' := (⟨(rd_T30 y255 t251).f0, (rd_T30 y255 t251).f1, (rd_T30 y255 t251).f2, (rd_T30 y255 t251).f3, wrap64 (((rd_T30 y255 t251).f4) - t259), (rd_T30 y255 t251).f5⟩ : S30)) (k30_mkM _ _ _ (⟨(rd_T30 y255 t251).f0, (rd_T30 y255 t251).f1, (rd_T30 y255 t251).f2, (rd_T30 y255 t251).f3, wrap64 (((rd_T30 y255 t251).f4) - t259), (rd_T30 y255 t251).f5⟩ : S30) ) (fun _ hk => hk)).1
                    rw [← Ny260.out] at HP55
                    have HQ55 := Aside0.mk HP55
                    clear hcl55 hcc55 hfr55 hM55 HP55
                    refine hK.out _ _ ⟨hHeld.1, hHeld.2.1, hHeld.2.2.1, hHeld.2.2.2.1, hHeld.2.2.2.2.1, hHeld.2.2.2.2.2⟩ (fun hHeld => ?_)
                    clear hK K
                    refine norm_ (a' := ?_) ?_ ?_
                    rotate_left
                    · show Act.put _ (some 62) _ = _
                      simp only [Act.put, List.setIfInBounds_toArray, List.set_cons_zero, List.set_cons_succ, i64_w, i32_w, Go.IntKind.wrap_u32]
                      rfl
                    refine pure_ (i := 9) (N := some 63) (v := ?_) (a' := ?_) #[true, true, true, true, true, true, true, true, true, true, false, false, false] rfl rfl (any_of HT_.out (by kernel_rfl)) (fun _ _ _ h => h) (Or.inl ⟨by rfl, ?_⟩) ?_ ?_
                    rotate_left
                    · intro w'
                      go_simp
                      with_reducible rfl
                    rotate_left
                    · simp only [Act.put, List.setIfInBounds_toArray, List.set_cons_zero, List.set_cons_succ, i64_w, i32_w, Go.IntKind.wrap_u32]
                      rfl
                    refine pure_ (i := 10) (N := some 64) (v := ?_) (a' := ?_) #[true, true, true, true, true, true, true, true, true, true, true, false, false] rfl rfl (any_of HT_.out (by kernel_rfl)) (fun _ _ _ h => h) (Or.inl ⟨by rfl, ?_⟩) ?_ ?_
                    rotate_left
                    · intro w'
                      go_simp
                      with_reducible rfl
                    rotate_left
                    · simp only [Act.put, List.setIfInBounds_toArray, List.set_cons_zero, List.set_cons_succ, i64_w, i32_w, Go.IntKind.wrap_u32]
                      rfl
                    refine pure_ (i := 11) (N := some 65) (v := ?_) (a' := ?_) #[true, true, true, true, true, true, true, true, true, true, true, true, false] rfl rfl (any_of HT_.out (by kernel_rfl)) (fun _ _ _ h => h) (Or.inl ⟨by rfl, ?_⟩) ?_ ?_
                    rotate_left
                    · intro w'
                      go_simp
                      with_reducible rfl
                    rotate_left
                    · simp only [Act.put, List.setIfInBounds_toArray, List.set_cons_zero, List.set_cons_succ, i64_w, i32_w, Go.IntKind.wrap_u32]
                      rfl
                    refine last_ (i := 12) (N := none) #[true, true, true, true, true, true, true, true, true, true, true, true, true] rfl rfl (one_of HT_.out (by kernel_rfl)) (by decide) (fun K hK => ?_)
                    refine skip_ (w1 := ?_) (by rfl) rfl ?_ ?_
                    rotate_left
                    · go_simp
                      rfl
                    refine hK.out _ _ ?_
                    clear hK K
                    refine done_ (done_of HT_.out (by kernel_rfl)) ?_
                    try go_wp2
                    (try rw [show ∀ (p_ : Addr) (u_ : Value) (n_ : Nat), (w53.drewN n_).setCell p_ u_ = (w53.setCell p_ u_).drewN n_ from fun _ _ _ => rfl])
                    have n0_ : Aside0 (Kd.R k30 30 (w53.setCell ⟨go27, (t251 : Int).toNat * 6 + 4, none⟩ (.int .i64 (wrap64 (((rd_T30 y255 t251).f4) - t259)))) w.heap.size (fun k_ => some k_ ≠ (.slice (some ⟨go27, 0, none⟩) y255.length co54 : Value).ownBlock) (.slice Ao49 x13_13.length co49) x13_13) := ⟨by (with_reducible repeat (first | apply Kd.R_alloc | apply Kd.R_drewN | apply Kd.R_drew)); exact Kd.R_mono (Kd.R_far (p := ⟨go27, (t251 : Int).toNat * 6 + 4, none⟩) (Kd.R_mono HO_13.out (fun k_ hk => (⟨hk, fun e_ => hk.2 (by rw [e_]; rfl)⟩ : _ ∧ k_ ≠ go27))) (fun _ hk => hk.2) (.int .i64 (wrap64 (((rd_T30 y255 t251).f4) - t259)))) (fun _ hk => hk.1.2)⟩
                    have n1_ : Aside0 (Kd.R k30 30 (w53.setCell ⟨go27, (t251 : Int).toNat * 6 + 4, none⟩ (.int .i64 (wrap64 (((rd_T30 y255 t251).f4) - t259)))) w.heap.size (fun k_ => some k_ ≠ (.slice Ao49 x13_13.length co49 : Value).ownBlock) (.slice (some ⟨go27, 0, none⟩) y255.length co54) y260) := ⟨by (with_reducible repeat (first | apply Kd.R_alloc | apply Kd.R_drewN | apply Kd.R_drew)); exact HQ55.out⟩
                    have n2_ : Aside0 (Below w.heap.size w (w53.setCell ⟨go27, (t251 : Int).toNat * 6 + 4, none⟩ (.int .i64 (wrap64 (((rd_T30 y255 t251).f4) - t259))))) := ⟨by repeat (first | (with_reducible first | exact HB.out | apply below_alloc | apply pw_below_drewN | apply below_drew1 | refine below_set ?_ GB27.out) | exact HB.out)⟩
                    (try clear HO_13)
                    (try clear HO257)
                    (try clear HB)
                    generalize (w53.setCell ⟨go27, (t251 : Int).toNat * 6 + 4, none⟩ (.int .i64 (wrap64 (((rd_T30 y255 t251).f4) - t259)))) = w56 at n0_ n1_ n2_ ⊢
                    have HO_13 := n0_
                    have HO257 := n1_
                    have HB := n2_
                    clear n0_ n1_ n2_
                    (try (rw [drewN_self w56]; generalize hq_ : World.drewN w56 _ = w56; have n0_ : Aside0 (Kd.R k30 30 w56 w.heap.size (fun k_ => some k_ ≠ (.slice Ao49 x13_13.length co49 : Value).ownBlock) (.slice (some ⟨go27, 0, none⟩) y255.length co54) y260) := ⟨by rw [← hq_]; exact (by (with_reducible repeat (first | apply Kd.R_alloc | apply Kd.R_drewN | apply Kd.R_drew)); exact HO257.out)⟩; have n1_ : Aside0 (Kd.R k30 30 w56 w.heap.size (fun k_ => some k_ ≠ (.slice (some ⟨go27, 0, none⟩) y255.length co54 : Value).ownBlock) (.slice Ao49 x13_13.length co49) x13_13) := ⟨by rw [← hq_]; exact (by (with_reducible repeat (first | apply Kd.R_alloc | apply Kd.R_drewN | apply Kd.R_drew)); exact HO_13.out)⟩; have n2_ : Aside0 (Below w.heap.size w w56) := ⟨by rw [← hq_]; exact (by repeat (first | (with_reducible first | exact HB.out | apply below_alloc | apply pw_below_drewN | apply below_drew1) | exact HB.out))⟩; clear HO257 HO_13 HB hq_; have HO257 := n0_; have HO_13 := n1_; have HB := n2_; clear n0_ n1_ n2_))
                    have n0_ := Aside0.mk (Kd.R_drew HO_13.out)
                    have n1_ := Aside0.mk (Kd.R_drew HO257.out)
                    have n2_ := Aside0.mk (below_drew1 HB.out)
                    clear HO_13
                    clear HO257
                    clear HB
                    have HO_13 := n0_
                    have HO257 := n1_
                    have HB := n2_
                    clear n0_ n1_ n2_
                    have p261 : 0 ≤ (t251 : Int) := of_decide_eq_true (by first | (with_reducible assumption) | assumption)
                    have q261 : t251 < (y260.length : Int) := (by have h_ : (t251 : Int) < ((y255.length : Int) : Int) := of_decide_eq_true (by first | (with_reducible assumption) | assumption); first | (have e_ := (Kd.R_reads' HO257.out).1; omega) | simpa only [Ny260.out, List.length_set] using h_)
                    have ql261 : ((t251 : Int) < ((y255.length : Int) : Int)) = True := eq_true (of_decide_eq_true (by first | (with_reducible assumption) | assumption))
                    obtain ⟨ad261, e261, hx261_0, hx261_1, hx261_2, hx261_3, hx261_4, hx261_5⟩ := at_T30 (Kd.R_reads' HO257.out).2.2 t251 p261 q261
                    obtain rfl : (⟨go27, 0, none⟩ : Addr) = ad261 := (by injection e261)
                    (first | simp only [add_plain] at hx261_0 | simp only [add_at] at hx261_0 | simp only [Addr.add, Nat.zero_add] at hx261_0 | skip)
                    (first | simp only [add_plain] at hx261_1 | simp only [add_at] at hx261_1 | simp only [Addr.add, Nat.zero_add] at hx261_1 | skip)
                    (first | simp only [add_plain] at hx261_2 | simp only [add_at] at hx261_2 | simp only [Addr.add, Nat.zero_add] at hx261_2 | skip)
                    (first | simp only [add_plain] at hx261_3 | simp only [add_at] at hx261_3 | simp only [Addr.add, Nat.zero_add] at hx261_3 | skip)
                    (first | simp only [add_plain] at hx261_4 | simp only [add_at] at hx261_4 | simp only [Addr.add, Nat.zero_add] at hx261_4 | skip)
                    (first | simp only [add_plain] at hx261_5 | simp only [add_at] at hx261_5 | simp only [Addr.add, Nat.zero_add] at hx261_5 | skip)
                    replace p261 := eq_true p261
                    replace q261 := eq_true q261
                    refine start_ (n := 13) (S := fun w' => w'.cell? ⟨go27, (t251).toNat * 6, none⟩ = some (.int .i64 ((rd_T30 y260 t251).f0)) ∧ w'.cell? ⟨go27, (t251).toNat * 6 + 1, none⟩ = some (.bool ((rd_T30 y260 t251).f1)) ∧ w'.cell? ⟨go27, (t251).toNat * 6 + 2, none⟩ = some (.int .u64 ((rd_T30 y260 t251).f2)) ∧ w'.cell? ⟨go27, (t251).toNat * 6 + 3, none⟩ = some (.int .i64 ((rd_T30 y260 t251).f3)) ∧ w'.cell? ⟨go27, (t251).toNat * 6 + 4, none⟩ = some (.int .i64 ((rd_T30 y260 t251).f4)) ∧ w'.cell? ⟨go27, (t251).toNat * 6 + 5, none⟩ = some (.int .i64 ((rd_T30 y260 t251).f5))) (ds := [12]) #[false, false, false, false, false, false, false, false, false, false, false, false, false] (by kernel_rfl) rfl rfl ⟨hx261_0, hx261_1, hx261_2, hx261_3, hx261_4, hx261_5⟩ (fun hHeld => ?_); refine with_tabW hatstandlaw15_LinearLonger.tab11 hatstandlaw15_LinearLonger.bits11 (fun HT_ HW_ => ?_)
                    generalize w56.drew = w57 at HO_13 HO257 HB HQ55 hx261_0 hx261_1 hx261_2 hx261_3 hx261_4 hx261_5 hHeld ⊢
                    refine pure_ (i := 0) (N := some 66) (v := ?_) (a' := ?_) #[true, false, false, false, false, false, false, false, false, false, false, false, false] rfl rfl (any_of HT_.out (by kernel_rfl)) (fun _ _ _ h => h) (Or.inl ⟨by rfl, ?_⟩) ?_ ?_
                    rotate_left
                    · intro w'
                      go_simp
                      with_reducible rfl
                    rotate_left
                    · simp only [Act.put, List.setIfInBounds_toArray, List.set_cons_zero, List.set_cons_succ, i64_w, i32_w, Go.IntKind.wrap_u32]
                      rfl
                    refine pure_ (i := 1) (N := some 67) (v := ?_) (a' := ?_) #[true, true, false, false, false, false, false, false, false, false, false, false, false] rfl rfl (any_of HT_.out (by kernel_rfl)) (fun _ _ _ h => h) (Or.inl ⟨by rfl, ?_⟩) ?_ ?_
                    rotate_left
                    · intro w'
                      go_simp
                      with_reducible rfl
                    rotate_left
                    · simp only [Act.put, List.setIfInBounds_toArray, List.set_cons_zero, List.set_cons_succ, i64_w, i32_w, Go.IntKind.wrap_u32]
                      rfl
                    refine pure_ (i := 2) (N := some 68) (v := ?_) (a' := ?_) #[true, true, true, false, false, false, false, false, false, false, false, false, false] rfl rfl (any_of HT_.out (by kernel_rfl)) (fun _ _ _ h => h) (Or.inl ⟨by rfl, ?_⟩) ?_ ?_
                    rotate_left
                    · intro w'
                      go_simp
                      with_reducible rfl
                    rotate_left
                    · simp only [Act.put, List.setIfInBounds_toArray, List.set_cons_zero, List.set_cons_succ, i64_w, i32_w, Go.IntKind.wrap_u32]
                      rfl
                    refine pure_ (i := 3) (N := some 69) (v := ?_) (a' := ?_) #[true, true, true, true, false, false, false, false, false, false, false, false, false] rfl rfl (any_of HT_.out (by kernel_rfl)) (fun _ _ _ h => h) (Or.inl ⟨by rfl, ?_⟩) ?_ ?_
                    rotate_left
                    · intro w'
                      go_simp
                      with_reducible rfl
                    rotate_left
                    · simp only [Act.put, List.setIfInBounds_toArray, List.set_cons_zero, List.set_cons_succ, i64_w, i32_w, Go.IntKind.wrap_u32]
                      rfl
                    refine pure_ (i := 4) (N := some 70) (v := ?_) (a' := ?_) #[true, true, true, true, true, false, false, false, false, false, false, false, false] rfl rfl (any_of HT_.out (by kernel_rfl)) (fun _ _ _ h => h) (Or.inl ⟨by rfl, ?_⟩) ?_ ?_
                    rotate_left
                    · intro w'
                      go_simp
                      with_reducible rfl
                    rotate_left
                    · simp only [Act.put, List.setIfInBounds_toArray, List.set_cons_zero, List.set_cons_succ, i64_w, i32_w, Go.IntKind.wrap_u32]
                      rfl
                    refine pure_ (i := 5) (N := some 71) (v := ?_) (a' := ?_) #[true, true, true, true, true, true, false, false, false, false, false, false, false] rfl rfl (any_of HT_.out (by kernel_rfl)) (fun _ _ _ h => h) (Or.inl ⟨by rfl, ?_⟩) ?_ ?_
                    rotate_left
                    · intro w'
                      go_simp
                      with_reducible rfl
                    rotate_left
                    · simp only [Act.put, List.setIfInBounds_toArray, List.set_cons_zero, List.set_cons_succ, i64_w, i32_w, Go.IntKind.wrap_u32]
                      rfl
                    refine pure_ (i := 7) (N := some 73) (v := ?_) (a' := ?_) #[true, true, true, true, true, true, false, true, false, false, false, false, false] rfl rfl (any_of HT_.out (by kernel_rfl)) (fun _ _ _ h => h) (Or.inl ⟨by rfl, ?_⟩) ?_ ?_
                    rotate_left
                    · intro w'
                      go_simp
                      with_reducible rfl
                    rotate_left
                    · simp only [Act.put, List.setIfInBounds_toArray, List.set_cons_zero, List.set_cons_succ, i64_w, i32_w, Go.IntKind.wrap_u32]
                      rfl
                    refine take_ (i := 6) (N := some 72) (v := ?_) (a' := ?_) #[true, true, true, true, true, true, true, true, false, false, false, false, false] rfl rfl (take_ofW HT_.out HW_.out (by kernel_rfl)) (fun _ _ _ h => h) (Or.inl ⟨by rfl, ?_⟩) hHeld ?_ ?_
                    rotate_left
                    · rintro w' ⟨s0, s1, s2, s3, s4, s5⟩
                      go_simp
                      with_reducible rfl
                    rotate_left
                    · simp only [Act.put, List.setIfInBounds_toArray, List.set_cons_zero, List.set_cons_succ, i64_w, i32_w, Go.IntKind.wrap_u32]
                      rfl
                    refine one_ (i := 8) (N := some 74) #[true, true, true, true, true, true, true, true, true, false, false, false, false] rfl rfl (one_of HT_.out (by kernel_rfl)) (by decide) (fun K hK => ?_)
                    refine goes_ Try.func10 (by kernel_rfl) rfl #[.int .i64 a3, .int .i64 700] (by rfl) rfl rfl (by (try simp only [List.map_toArray, List.map_cons, List.map_nil]); first | done | rfl | (simp only [List.length_drop, List.length_take]; rfl)) ?_
                    with_reducible refine (hatstandlaw15_pick.calls a3 700 t262 _ A28.out).mono ?_
                    rintro e w' ⟨rfl, ⟨nd, rfl⟩⟩
                    refine ⟨_, rfl, ?_⟩
                    have p29 : 0 ≤ (t251 : Int) := of_decide_eq_true (by first | (with_reducible assumption) | assumption)
                    have q29 : (t251 : Int) < ((y255.length : Int) : Int) := of_decide_eq_true (by first | (with_reducible assumption) | assumption)
                    obtain ⟨ce29, hcl29, hM29, hcc29, hfr29⟩ := Kd.R_elem HO257.out z30 (t251 : Int) p29 q29
                    obtain rfl := k30_openM hM29
                    have hx29_0 : World.cell? _ ⟨go27, (t251 : Int).toNat * 6, none⟩ = some (.int .i64 ((rd_T30 y260 t251).f0)) := hcc29 0 _ rfl
                    have hx29_1 : World.cell? _ ⟨go27, (t251 : Int).toNat * 6 + 1, none⟩ = some (.bool ((rd_T30 y260 t251).f1)) := hcc29 1 _ rfl
                    have hx29_2 : World.cell? _ ⟨go27, (t251 : Int).toNat * 6 + 2, none⟩ = some (.int .u64 ((rd_T30 y260 t251).f2)) := hcc29 2 _ rfl
                    have hx29_3 : World.cell? _ ⟨go27, (t251 : Int).toNat * 6 + 3, none⟩ = some (.int .i64 ((rd_T30 y260 t251).f3)) := hcc29 3 _ rfl
                    have hx29_4 : World.cell? _ ⟨go27, (t251 : Int).toNat * 6 + 4, none⟩ = some (.int .i64 ((rd_T30 y260 t251).f4)) := hcc29 4 _ rfl
                    have hx29_5 : World.cell? _ ⟨go27, (t251 : Int).toNat * 6 + 5, none⟩ = some (.int .i64 ((rd_T30 y260 t251).f5)) := hcc29 5 _ rfl
                    have hf29_0 : World.frozen? _ ⟨go27, (t251 : Int).toNat * 6, none⟩ = false := hfr29 0
                    have hf29_1 : World.frozen? _ ⟨go27, (t251 : Int).toNat * 6 + 1, none⟩ = false := hfr29 1
                    have hf29_2 : World.frozen? _ ⟨go27, (t251 : Int).toNat * 6 + 2, none⟩ = false := hfr29 2
                    have hf29_3 : World.frozen? _ ⟨go27, (t251 : Int).toNat * 6 + 3, none⟩ = false := hfr29 3
                    have hf29_4 : World.frozen? _ ⟨go27, (t251 : Int).toNat * 6 + 4, none⟩ = false := hfr29 4
                    have hf29_5 : World.frozen? _ ⟨go27, (t251 : Int).toNat * 6 + 5, none⟩ = false := hfr29 5
                    clear hcl29 hcc29 hfr29 hM29
                    replace p29 := eq_true p29
                    replace q29 := eq_true q29
                    obtain ⟨ce58, hcl58, hM58, hcc58, hfr58⟩ := Kd.R_elem HO257.out z30 (t251 : Int) (of_decide_eq_true (by first | (with_reducible assumption) | assumption)) (by have h_ : (t251 : Int) < ((y255.length : Int) : Int) := of_decide_eq_true (by first | (with_reducible assumption) | assumption); first | exact h_ | (have e_ := (Kd.R_reads' HO257.out).1; omega) | simpa using h_)
                    obtain rfl := k30_openM hM58
                    have HP58 := (Kd.R_seg HO257.out (t251 : Int) (of_decide_eq_true (by first | (with_reducible assumption) | assumption)) (by have h_ : (t251 : Int) < ((y255.length : Int) : Int) := of_decide_eq_true (by first | (with_reducible assumption) | assumption); first | exact h_ | (have e_ := (Kd.R_reads' HO257.out).1; omega) | simpa using h_) (seg := [.int .i64 (wrap64 (((rd_T30 y260 t251).f5) + t262))]) (j := 5) hcl58 hcc58 (show 6 ≤ 6 from by decide) (x' := (⟨(rd_T30 y260 t251).f0, (rd_T30 y260 t251).f1, (rd_T30 y260 t251).f2, (rd_T30 y260 t251).f3, (rd_T30 y260 t251).f4, wrap64 (((rd_T30 y260 t251).f5) + t262)⟩ : S30)) (k30_mkM _ _ _ (⟨(rd_T30 y260 t251).f0, (rd_T30 y260 t251).f1, (rd_T30 y260 t251).f2, (rd_T30 y260 t251).f3, (rd_T30 y260 t251).f4, wrap64 (((rd_T30 y260 t251).f5) + t262)⟩ : S30) ) (fun _ hk => hk)).1
                    rw [← Ny263.out] at HP58
                    have HQ58 := Aside0.mk HP58
                    clear hcl58 hcc58 hfr58 hM58 HP58
                    refine hK.out _ _ ⟨hHeld.1, hHeld.2.1, hHeld.2.2.1, hHeld.2.2.2.1, hHeld.2.2.2.2.1, hHeld.2.2.2.2.2⟩ (fun hHeld => ?_)
                    clear hK K
                    refine norm_ (a' := ?_) ?_ ?_
                    rotate_left
                    · show Act.put _ (some 74) _ = _
                      simp only [Act.put, List.setIfInBounds_toArray, List.set_cons_zero, List.set_cons_succ, i64_w, i32_w, Go.IntKind.wrap_u32]
                      rfl
                    refine pure_ (i := 9) (N := some 75) (v := ?_) (a' := ?_) #[true, true, true, true, true, true, true, true, true, true, false, false, false] rfl rfl (any_of HT_.out (by kernel_rfl)) (fun _ _ _ h => h) (Or.inl ⟨by rfl, ?_⟩) ?_ ?_
                    rotate_left
                    · intro w'
                      go_simp
                      with_reducible rfl
                    rotate_left
                    · simp only [Act.put, List.setIfInBounds_toArray, List.set_cons_zero, List.set_cons_succ, i64_w, i32_w, Go.IntKind.wrap_u32]
                      rfl
                    refine pure_ (i := 10) (N := some 76) (v := ?_) (a' := ?_) #[true, true, true, true, true, true, true, true, true, true, true, false, false] rfl rfl (any_of HT_.out (by kernel_rfl)) (fun _ _ _ h => h) (Or.inl ⟨by rfl, ?_⟩) ?_ ?_
                    rotate_left
                    · intro w'
                      go_simp
                      with_reducible rfl
                    rotate_left
                    · simp only [Act.put, List.setIfInBounds_toArray, List.set_cons_zero, List.set_cons_succ, i64_w, i32_w, Go.IntKind.wrap_u32]
                      rfl
                    refine pure_ (i := 11) (N := some 77) (v := ?_) (a' := ?_) #[true, true, true, true, true, true, true, true, true, true, true, true, false] rfl rfl (any_of HT_.out (by kernel_rfl)) (fun _ _ _ h => h) (Or.inl ⟨by rfl, ?_⟩) ?_ ?_
                    rotate_left
                    · intro w'
                      go_simp
                      with_reducible rfl
                    rotate_left
                    · simp only [Act.put, List.setIfInBounds_toArray, List.set_cons_zero, List.set_cons_succ, i64_w, i32_w, Go.IntKind.wrap_u32]
                      rfl
                    refine last_ (i := 12) (N := none) #[true, true, true, true, true, true, true, true, true, true, true, true, true] rfl rfl (one_of HT_.out (by kernel_rfl)) (by decide) (fun K hK => ?_)
                    refine skip_ (w1 := ?_) (by rfl) rfl ?_ ?_
                    rotate_left
                    · go_simp
                      rfl
                    refine hK.out _ _ ?_
                    clear hK K
                    refine done_ (done_of HT_.out (by kernel_rfl)) ?_
                    try go_wp2_with (first | ((with_reducible refine gate_callee (f := 12) rfl ?_); refine goesL_ (some 81) rfl rfl Try.func12 (by kernel_rfl) rfl #[.slice Ao49 x13_13.length co49, .int .i64 t245] rfl (by (try simp only [List.map_toArray, List.map_cons, List.map_nil]); first | done | rfl | (simp only [List.length_drop, List.length_take]; rfl)) ?_; (with_reducible refine (linear_Find.calls _ _ x13_13 t245 t264 false _ ?side1 ?side2 A30.out).mono ?_); (case side1 => refine (Kd.R_reads' (e := 30) (base := w.heap.size) (ok := fun k_ => some k_ ≠ (.slice (some ⟨go27, 0, none⟩) y255.length co54 : Value).ownBlock) (n := x13_13.length) (c := co49) ?_).2.2; exact (by (with_reducible repeat (first | apply Kd.R_alloc | apply Kd.R_drewN | apply Kd.R_drew)); exact (Kd.R_mono (Kd.R_far (p := ⟨go27, (t251 : Int).toNat * 6 + 5, none⟩) (Kd.R_mono HO_13.out (fun k_ hk => (⟨hk, fun e_ => hk (by rw [e_]; rfl)⟩ : _ ∧ k_ ≠ go27))) (fun _ hk => hk.2) (.int .i64 (wrap64 (((rd_T30 y260 t251).f5) + t262)))) (fun _ h_ => h_.1)))); (case side2 => exact (Kd.R_reads' HO_13.out).2.1); rintro e w59 ⟨v266, rfl, ho0, hb⟩; refine ⟨_, rfl, ?_⟩; have n0_ := Aside0.mk (Kd.R_below (by (with_reducible repeat (first | apply Kd.R_alloc | apply Kd.R_drewN | apply Kd.R_drew)); exact (Kd.R_mono (Kd.R_far (p := ⟨go27, (t251 : Int).toNat * 6 + 5, none⟩) (Kd.R_mono HO_13.out (fun k_ hk => (⟨hk, fun e_ => hk (by rw [e_]; rfl)⟩ : _ ∧ k_ ≠ go27))) (fun _ hk => hk.2) (.int .i64 (wrap64 (((rd_T30 y260 t251).f5) + t262)))) (fun _ h_ => h_.1))) hb); have n1_ := Aside0.mk (Kd.R_below (by (with_reducible repeat (first | apply Kd.R_alloc | apply Kd.R_drewN | apply Kd.R_drew)); exact HQ58.out) hb); have n2_ := Aside0.mk (Kd.R_lower ho0 (below_size (by repeat (first | (with_reducible first | exact HB.out | apply below_alloc | apply pw_below_drewN | apply below_drew1 | refine below_set ?_ GB27.out) | exact HB.out)))); have n3_ := Aside0.mk (below_step (by repeat (first | (with_reducible first | exact HB.out | apply below_alloc | apply pw_below_drewN | apply below_drew1 | refine below_set ?_ GB27.out) | exact HB.out)) hb); clear HO_13; clear HO257; clear HB; have HO_13 := n0_; have HO257 := n1_; have HO267 := n2_; have HB := n3_; clear n0_ n1_ n2_ n3_; (try clear hb); (try clear hb2); (try clear hk); (try clear hi); (try clear ho0)) | ((with_reducible refine gate_callee (f := 12) rfl ?_); refine goesL_ (some 87) rfl rfl Try.func12 (by kernel_rfl) rfl #[.slice (some ⟨go27, 0, none⟩) y263.length co54, .int .i64 t245] rfl (by (try simp only [List.map_toArray, List.map_cons, List.map_nil]); first | done | (rw [show y263.length = y255.length from (Kd.R_reads' HO257.out).1.symm] <;> rfl) | rfl | (simp only [List.length_drop, List.length_take]; rfl)) ?_; (with_reducible refine (linear_Find.calls _ _ y263 t245 t268 t269 _ ?side1 ?side2 A31.out).mono ?_); (case side1 => repeat (first | exact (Kd.R_reads' HO257.out).2.2 | (with_reducible refine Kd.C_alloc ?_ _) | (with_reducible refine Kd.C_drewN ?_ _) | (with_reducible refine Kd.C_drew ?_))); (case side2 => rw [show y263.length = y255.length from (Kd.R_reads' HO257.out).1.symm]; exact (Kd.R_reads' HO257.out).2.1); rintro e w60 ⟨v270, rfl, ho0, hb⟩; refine ⟨_, rfl, ?_⟩; have n0_ := Aside0.mk (Kd.R_below (by (with_reducible repeat (first | apply Kd.R_alloc | apply Kd.R_drewN | apply Kd.R_drew)); exact HO_13.out) hb); have n1_ := Aside0.mk (Kd.R_below (by (with_reducible repeat (first | apply Kd.R_alloc | apply Kd.R_drewN | apply Kd.R_drew)); exact HO257.out) hb); have n2_ := Aside0.mk (Kd.R_elder' (by (with_reducible repeat (first | apply Kd.R_alloc | apply Kd.R_drewN | apply Kd.R_drew)); exact HO267.out) (Kd.R_base ho0) hb); have n3_ := Aside0.mk (Kd.R_lower (Kd.R_new' ho0 (Kd.R_lt (by (with_reducible repeat (first | apply Kd.R_alloc | apply Kd.R_drewN | apply Kd.R_drew)); exact HO267.out))) (below_size (by repeat (first | (with_reducible first | exact HB.out | apply below_alloc | apply pw_below_drewN | apply below_drew1) | exact HB.out)))); have n4_ := Aside0.mk (below_step (by repeat (first | (with_reducible first | exact HB.out | apply below_alloc | apply pw_below_drewN | apply below_drew1) | exact HB.out)) hb); clear HO_13; clear HO257; clear HO267; clear HB; have HO_13 := n0_; have HO257 := n1_; have HO267 := n2_; have HO271 := n3_; have HB := n4_; clear n0_ n1_ n2_ n3_ n4_; (try clear hb); (try clear hb2); (try clear hk); (try clear hi); (try clear ho0)))
                    go_ret
                    exact ⟨by first | rfl | (simp [errW_none, errW_some] <;> rfl) | (simp [*, errW_none, errW_some] <;> rfl), by repeat (first | (with_reducible first | exact HB.out | apply below_alloc | apply pw_below_drewN | apply below_drew1) | exact HB.out)⟩
                · rw [if_neg c25] at H
                  exact absurd H (by simp)
              · rw [if_neg c24] at H
                exact absurd H (by simp)
            · rw [if_neg c23] at H
              exact absurd H (by simp)

/-- THE ONE PURE STATEMENT of hatstandlaw15_LinearLonger. -/
def hatstandlaw15_LinearLonger.Pure : Prop := ∀ (l0 : List (S51)) (a1 : Int) (a2 : Int) (a3 : Int) (a4 : Bool), l0.length ≤ maxLen → l0.length * 24 ≤ 140737488351232 → (∀ x ∈ l0, (Lit.int .u64 x.f2).wf = true ∧ (Lit.int .i64 x.f3).wf = true) → (Lit.int .i64 a1).wf = true → (Lit.int .i64 a2).wf = true → (Lit.int .i64 a3).wf = true → ∃ k, hatstandlaw15_LinearLonger.f k l0 a1 a2 a3 a4 = some true
theorem hatstandlaw15_LinearLonger.walk (P : hatstandlaw15_LinearLonger.Pure) (A0 : Option Addr) (c0 : Nat) (l0 : List (S51)) (a1 : Int) (a2 : Int) (a3 : Int) (a4 : Bool) (w : World) (hr0 : Kd.C k51 w A0 l0.length l0) (hc0 : l0.length ≤ c0) (hm0 : l0.length ≤ maxLen) (y0 : l0.length * 24 ≤ 140737488351232) (hw0 : (∀ x ∈ l0, (Lit.int .u64 x.f2).wf = true ∧ (Lit.int .i64 x.f3).wf = true)) (hw1 : (Lit.int .i64 a1).wf = true) (hw2 : (Lit.int .i64 a2).wf = true) (hw3 : (Lit.int .i64 a3).wf = true) :
    Calls Try.prog 3 #[.slice A0 l0.length c0, .int .i64 a1, .int .i64 a2, .int .i64 a3, .bool a4] w fun e w' => e = .returned (.bool true) ∧ Below w.heap.size w w' := by
  obtain ⟨k, h⟩ := P l0 a1 a2 a3 a4 hm0 y0 hw0 hw1 hw2 hw3
  refine (hatstandlaw15_LinearLonger.calls k A0 c0 l0 a1 a2 a3 a4 true w hr0 hc0 h rfl).mono ?_
  rintro e w' ⟨rfl, hd⟩
  exact ⟨rfl, hd⟩

end Go.Proofs.Ytdcnnphgcapiaaa.P
