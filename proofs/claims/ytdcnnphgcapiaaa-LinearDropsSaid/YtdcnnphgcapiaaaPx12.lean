/- Walks, written by a program for this claim: each Go function that the laws reach comes to what its Lean function says. -/
import Derived.Test.YtdcnnphgcapiaaaPx0
import Derived.Test.YtdcnnphgcapiaaaPx2
import Derived.Test.YtdcnnphgcapiaaaPx7
import Derived.Test.YtdcnnphgcapiaaaPx8
import Derived.Test.YtdcnnphgcapiaaaPx9
namespace Go.Proofs.Ytdcnnphgcapiaaa.P
open Go.RowKit Go.Proofs.YtdcnnphgcapiaaaW.PrintWords Go.Proofs.YtdcnnphgcapiaaaW.PrintLast Go.Proofs.YtdcnnphgcapiaaaW.PrintMore
attribute [local go_sem] max2_int min2_int max_two min_two max_three min_three max_four min_four   -- for this text's walks alone
set_option linter.unusedVariables false
set_option linter.unusedSimpArgs false

/-! ### hatstandlaw15_LinearDrops: function 7 -/
mutual
def hatstandlaw15_LinearDrops.j0 : Nat → List (S51) → Int → Bool → Int → Bool → Bool → Option (Bool)
  | 0, _, _, _, _, _, _ => none
  | k + 1, x0, x1, x2, x3, x9, x28 => if x28 = true then (some x9) else ((hatstandlaw15_pick.f x1 4).bind fun t274 => ((hatstandlaw15_made.f k x0 t274).bind fun t275 => ((some (([] : List (S30)) : List (S30))).bind fun y278 => (if y278.length + t275.length < 2932031007402 then ((some (y278 ++ t275 : List (S30))).bind fun y281 => (if y281.length < 2932031007402 then ((some (y281 ++ [(⟨7, x2, x3, 0, 0, (-1)⟩ : S30)] : List (S30))).bind fun y284 => ((linear_Find.f t275 t274).bind fun bt287 => ((linear_Find.f y284 t274).bind fun bt291 => ((some (([] : List (S30)) : List (S30))).bind fun y295 => (if y295.length + t275.length < 2932031007402 then ((some (y295 ++ t275 : List (S30))).bind fun y298 => (if y298.length < 2932031007402 then (hatstandlaw15_LinearDrops.l0 k t274 t275 y284 bt287.1 bt287.2 bt291.1 bt291.2 (y298 ++ [(⟨7, false, 1125899906842624, 1, 0, 9000⟩ : S30)]) 0) else (none))) else (none)))))) else (none))) else (none)))))
def hatstandlaw15_LinearDrops.l0 : Nat → Int → List (S30) → List (S30) → List Int → Bool → List Int → Bool → List (S30) → Int → Option (Bool)
  | 0, _, _, _, _, _, _, _, _, _ => none
  | k + 1, x10, x11, x12, x13, x14, x15, x16, x17, x18 => if x18 < (x11.length : Int) then (if 0 ≤ x18 then (if ((rd_T30 x11 x18).f2) = 1125899906842624 then (if x14 = true then (some x16) else (some false)) else (hatstandlaw15_LinearDrops.l0 k x10 x11 x12 x13 x14 x15 x16 x17 (wrap64 (x18 + 1)))) else (none)) else ((linear_Find.f x17 x10).bind fun bt305 => (if x14 = true then (if x16 = true then ((linear_Fits.f k x12 x10 x13).bind fun t309 => (if t309 = true then (if (x15.length : Int) ≤ (x12.length : Int) then (some (!bt305.2)) else (some false)) else (some false))) else (some false)) else (some false)))
end
def hatstandlaw15_LinearDrops.f (k : Nat) (l0 : List (S51)) (a1 : Int) (a2 : Bool) (a3 : Int) : Option (Bool) := (hatstandlaw15_shown.f k).bind fun t273 => (if t273 = true then (hatstandlaw15_LinearDrops.j0 k l0 a1 a2 a3 t273 (decide ((l0.length : Int) > 5))) else (hatstandlaw15_LinearDrops.j0 k l0 a1 a2 a3 t273 true))
theorem hatstandlaw15_LinearDrops.mono_l : ∀ k, (∀ y0 y1 y2 y3 y4 y5, LeO (hatstandlaw15_LinearDrops.j0 k y0 y1 y2 y3 y4 y5) (hatstandlaw15_LinearDrops.j0 (k + 1) y0 y1 y2 y3 y4 y5)) ∧ (∀ y0 y1 y2 y3 y4 y5 y6 y7 y8, LeO (hatstandlaw15_LinearDrops.l0 k y0 y1 y2 y3 y4 y5 y6 y7 y8) (hatstandlaw15_LinearDrops.l0 (k + 1) y0 y1 y2 y3 y4 y5 y6 y7 y8))
  | 0 => ⟨fun _ _ _ _ _ _ r h => by simp [hatstandlaw15_LinearDrops.j0] at h, fun _ _ _ _ _ _ _ _ _ r h => by simp [hatstandlaw15_LinearDrops.l0] at h⟩
  | k + 1 => by
    obtain ⟨ih0, ih1⟩ := hatstandlaw15_LinearDrops.mono_l k
    refine ⟨?_, ?_⟩
    · intro y0 y1 y2 y3 y4 y5
      unfold hatstandlaw15_LinearDrops.j0
      repeat' first
      | (with_reducible exact ih0 _ _ _ _ _ _)
      | (with_reducible exact ih1 _ _ _ _ _ _ _ _ _)
      | (with_reducible exact hatstandlaw15_made.mono _ _ _)
      | (with_reducible exact hatstandlaw15_shown.mono _)
      | (with_reducible exact linear_Fits.mono _ _ _ _)
      | (with_reducible exact LeO.refl _)
      | (with_reducible exact LeO.none _)
      | (with_reducible refine LeO.ite ?_ ?_)
      | (with_reducible refine LeO.bind ?_ (fun _ => ?_))
      | exact ih0 _ _ _ _ _ _
      | exact ih1 _ _ _ _ _ _ _ _ _
      | exact hatstandlaw15_made.mono _ _ _
      | exact hatstandlaw15_shown.mono _
      | exact linear_Fits.mono _ _ _ _
      | exact LeO.none _
      | refine LeO.ite ?_ ?_
      | refine LeO.bind ?_ (fun _ => ?_)
    · intro y0 y1 y2 y3 y4 y5 y6 y7 y8
      unfold hatstandlaw15_LinearDrops.l0
      repeat' first
      | (with_reducible exact ih0 _ _ _ _ _ _)
      | (with_reducible exact ih1 _ _ _ _ _ _ _ _ _)
      | (with_reducible exact hatstandlaw15_made.mono _ _ _)
      | (with_reducible exact hatstandlaw15_shown.mono _)
      | (with_reducible exact linear_Fits.mono _ _ _ _)
      | (with_reducible exact LeO.refl _)
      | (with_reducible exact LeO.none _)
      | (with_reducible refine LeO.ite ?_ ?_)
      | (with_reducible refine LeO.bind ?_ (fun _ => ?_))
      | exact ih0 _ _ _ _ _ _
      | exact ih1 _ _ _ _ _ _ _ _ _
      | exact hatstandlaw15_made.mono _ _ _
      | exact hatstandlaw15_shown.mono _
      | exact linear_Fits.mono _ _ _ _
      | exact LeO.none _
      | refine LeO.ite ?_ ?_
      | refine LeO.bind ?_ (fun _ => ?_)
theorem hatstandlaw15_LinearDrops.mono : ∀ a0 a1 a2 a3 k, LeO (hatstandlaw15_LinearDrops.f k a0 a1 a2 a3) (hatstandlaw15_LinearDrops.f (k + 1) a0 a1 a2 a3) := by
  intro a0 a1 a2 a3 k
  obtain ⟨ih0, ih1⟩ := hatstandlaw15_LinearDrops.mono_l k
  unfold hatstandlaw15_LinearDrops.f
  repeat' first
      | (with_reducible exact ih0 _ _ _ _ _ _)
      | (with_reducible exact ih1 _ _ _ _ _ _ _ _ _)
      | (with_reducible exact hatstandlaw15_made.mono _ _ _)
      | (with_reducible exact hatstandlaw15_shown.mono _)
      | (with_reducible exact linear_Fits.mono _ _ _ _)
      | (with_reducible exact LeO.refl _)
      | (with_reducible exact LeO.none _)
      | (with_reducible refine LeO.ite ?_ ?_)
      | (with_reducible refine LeO.bind ?_ (fun _ => ?_))
      | exact ih0 _ _ _ _ _ _
      | exact ih1 _ _ _ _ _ _ _ _ _
      | exact hatstandlaw15_made.mono _ _ _
      | exact hatstandlaw15_shown.mono _
      | exact linear_Fits.mono _ _ _ _
      | exact LeO.none _
      | refine LeO.ite ?_ ?_
      | refine LeO.bind ?_ (fun _ => ?_)
set_option maxHeartbeats 8000000 in
set_option maxRecDepth 100000 in
theorem hatstandlaw15_LinearDrops.calls (k : Nat) (A0 : Option Addr) (c0 : Nat) (l0 : List (S51)) (a1 : Int) (a2 : Bool) (a3 : Int) (r : Bool) (w : World) (hr0 : Kd.C k51 w A0 l0.length l0) (hc0 : l0.length ≤ c0) (h : hatstandlaw15_LinearDrops.f k l0 a1 a2 a3 = some r) (ht_ : r = true) :
    Calls Try.prog 7 #[.slice A0 l0.length c0, .int .i64 a1, .bool a2, .int .u64 a3] w fun e w' => e = .returned (.bool r) ∧ Below w.heap.size w w' := by
  have hu30 := Try.underlying30
  have HR0 := Aside0.mk hr0
  have HC0 := Aside0.mk hc0
  clear hr0 hc0
  have HB := Aside0.mk (Below.refl w.heap.size w)
  have HT0 := Aside0.mk ht_
  clear ht_
  have H : ((hatstandlaw15_shown.f k).bind fun t273 => (if t273 = true then (hatstandlaw15_LinearDrops.j0 k l0 a1 a2 a3 t273 (decide ((l0.length : Int) > 5))) else (hatstandlaw15_LinearDrops.j0 k l0 a1 a2 a3 t273 true))) = some r := h
  clear h
  replace H := Option.bind_eq_some_iff.mp H
  obtain ⟨t273, A50, H⟩ := H
  replace H : (if t273 = true then (hatstandlaw15_LinearDrops.j0 k l0 a1 a2 a3 t273 (decide ((l0.length : Int) > 5))) else (hatstandlaw15_LinearDrops.j0 k l0 a1 a2 a3 t273 true)) = some r := H
  have A5 := Aside0.mk A50
  clear A50
  have HC6 := Aside0.mk H
  clear H
  go_enter Try.func7, Try.ntmps7
  go_upto_region 2 with (first | ((with_reducible refine gate_callee (f := 9) rfl ?_); refine goesL_ (some 21) rfl rfl Try.func9 (by kernel_rfl) rfl #[] rfl (by (try simp only [List.map_toArray, List.map_cons, List.map_nil]); first | done | rfl | (simp only [List.length_drop, List.length_take]; rfl)) ?_; (with_reducible refine (hatstandlaw15_shown.calls k  t273 _ A5.out).mono ?_); rintro e w7 ⟨rfl, hb⟩; refine ⟨_, rfl, ?_⟩; have n0_ := Aside0.mk (below_step (by repeat (first | (with_reducible first | exact HB.out | apply below_alloc | apply pw_below_drewN | apply below_drew1) | exact HB.out)) hb); clear HB; have HB := n0_; clear n0_; (try clear hb); (try clear hb2); (try clear hk); (try clear hi)))
  (try simp only [Act.put, List.setIfInBounds_toArray, List.set_cons_zero, List.set_cons_succ])
  go_cut [28] (fun v28 wc => ∃ (kq : Nat) (x28_5 : Bool), v28 = .bool x28_5 ∧ Aside0 (hatstandlaw15_LinearDrops.j0 kq l0 a1 a2 a3 t273 x28_5 = some r) ∧ Aside0 (kq ≤ k) ∧ Aside0 (Below w.heap.size w wc))
  case first =>
    have H := HC6.out
    clear HC6
    by_cases c8 : t273 = true
    · subst c8
      have H1 : (hatstandlaw15_LinearDrops.j0 k l0 a1 a2 a3 true (decide ((l0.length : Int) > 5))) = some r := by rw [if_pos rfl] at H; exact H
      clear H
      have H := H1
      clear H1
      have H' := Aside0.mk H
      clear H
      go_wp2
      go_meet
      case rel => exact ⟨_, (decide ((l0.length : Int) > 5)), (by first | rfl | (simp; done) | (simp [*]; done)), H', ⟨by first | omega | exact Nat.le_refl _⟩, ⟨by repeat (first | (with_reducible first | exact HB.out | apply below_alloc | apply pw_below_drewN | apply below_drew1) | exact HB.out)⟩⟩
    · replace c8 := Bool.eq_false_iff.mpr c8
      subst c8
      have H1 : (hatstandlaw15_LinearDrops.j0 k l0 a1 a2 a3 false true) = some r := by rw [if_neg (show ¬ (false = true) by decide)] at H; exact H
      clear H
      have H := H1
      clear H1
      have H' := Aside0.mk H
      clear H
      go_wp2
      go_meet
      case rel => exact ⟨_, (true), (by first | rfl | (simp; done) | (simp [*]; done)), H', ⟨by first | omega | exact Nat.le_refl _⟩, ⟨by repeat (first | (with_reducible first | exact HB.out | apply below_alloc | apply pw_below_drewN | apply below_drew1) | exact HB.out)⟩⟩
  case rest =>
    clear HC6
    try clear p2
    try clear c7
    try clear c8
    obtain ⟨kq, x28_5, rfl, HA, HJ5, HB⟩ := hcut
    cases kq with
    | zero => exact absurd HA.out (by simp [hatstandlaw15_LinearDrops.j0])
    | succ kj5 =>
      have H := HA.out
      clear HA
      simp only [hatstandlaw15_LinearDrops.j0] at H
      by_cases c9 : x28_5 = true
      · subst c9
        have H1 : (some t273) = some r := by rw [if_pos rfl] at H; exact H
        clear H
        have H := H1
        clear H1
        obtain rfl := Option.some.inj H
        go_wp2
        go_ret
        exact ⟨by first | rfl | (simp [errW_none, errW_some] <;> rfl) | (simp [*, errW_none, errW_some] <;> rfl), by repeat (first | (with_reducible first | exact HB.out | apply below_alloc | apply pw_below_drewN | apply below_drew1) | exact HB.out)⟩
      · replace c9 := Bool.eq_false_iff.mpr c9
        subst c9
        have H1 : ((hatstandlaw15_pick.f a1 4).bind fun t274 => ((hatstandlaw15_made.f kj5 l0 t274).bind fun t275 => ((some (([] : List (S30)) : List (S30))).bind fun y278 => (if y278.length + t275.length < 2932031007402 then ((some (y278 ++ t275 : List (S30))).bind fun y281 => (if y281.length < 2932031007402 then ((some (y281 ++ [(⟨7, a2, a3, 0, 0, (-1)⟩ : S30)] : List (S30))).bind fun y284 => ((linear_Find.f t275 t274).bind fun bt287 => ((linear_Find.f y284 t274).bind fun bt291 => ((some (([] : List (S30)) : List (S30))).bind fun y295 => (if y295.length + t275.length < 2932031007402 then ((some (y295 ++ t275 : List (S30))).bind fun y298 => (if y298.length < 2932031007402 then (hatstandlaw15_LinearDrops.l0 kj5 t274 t275 y284 bt287.1 bt287.2 bt291.1 bt291.2 (y298 ++ [(⟨7, false, 1125899906842624, 1, 0, 9000⟩ : S30)]) 0) else (none))) else (none)))))) else (none))) else (none))))) = some r := by rw [if_neg (show ¬ (false = true) by decide)] at H; exact H
        clear H
        have H := H1
        clear H1
        replace H := Option.bind_eq_some_iff.mp H
        obtain ⟨t274, A100, H⟩ := H
        replace H : ((hatstandlaw15_made.f kj5 l0 t274).bind fun t275 => ((some (([] : List (S30)) : List (S30))).bind fun y278 => (if y278.length + t275.length < 2932031007402 then ((some (y278 ++ t275 : List (S30))).bind fun y281 => (if y281.length < 2932031007402 then ((some (y281 ++ [(⟨7, a2, a3, 0, 0, (-1)⟩ : S30)] : List (S30))).bind fun y284 => ((linear_Find.f t275 t274).bind fun bt287 => ((linear_Find.f y284 t274).bind fun bt291 => ((some (([] : List (S30)) : List (S30))).bind fun y295 => (if y295.length + t275.length < 2932031007402 then ((some (y295 ++ t275 : List (S30))).bind fun y298 => (if y298.length < 2932031007402 then (hatstandlaw15_LinearDrops.l0 kj5 t274 t275 y284 bt287.1 bt287.2 bt291.1 bt291.2 (y298 ++ [(⟨7, false, 1125899906842624, 1, 0, 9000⟩ : S30)]) 0) else (none))) else (none)))))) else (none))) else (none)))) = some r := H
        have A10 := Aside0.mk A100
        clear A100
        replace H := Option.bind_eq_some_iff.mp H
        obtain ⟨t275, A110, H⟩ := H
        replace H : ((some (([] : List (S30)) : List (S30))).bind fun y278 => (if y278.length + t275.length < 2932031007402 then ((some (y278 ++ t275 : List (S30))).bind fun y281 => (if y281.length < 2932031007402 then ((some (y281 ++ [(⟨7, a2, a3, 0, 0, (-1)⟩ : S30)] : List (S30))).bind fun y284 => ((linear_Find.f t275 t274).bind fun bt287 => ((linear_Find.f y284 t274).bind fun bt291 => ((some (([] : List (S30)) : List (S30))).bind fun y295 => (if y295.length + t275.length < 2932031007402 then ((some (y295 ++ t275 : List (S30))).bind fun y298 => (if y298.length < 2932031007402 then (hatstandlaw15_LinearDrops.l0 kj5 t274 t275 y284 bt287.1 bt287.2 bt291.1 bt291.2 (y298 ++ [(⟨7, false, 1125899906842624, 1, 0, 9000⟩ : S30)]) 0) else (none))) else (none)))))) else (none))) else (none))) = some r := H
        have A11 := Aside0.mk A110
        clear A110
        obtain ⟨y278, hy278⟩ : ∃ y_ : List (S30), y_ = (([] : List (S30))) := ⟨_, rfl⟩
        replace H : (if y278.length + t275.length < 2932031007402 then ((some (y278 ++ t275 : List (S30))).bind fun y281 => (if y281.length < 2932031007402 then ((some (y281 ++ [(⟨7, a2, a3, 0, 0, (-1)⟩ : S30)] : List (S30))).bind fun y284 => ((linear_Find.f t275 t274).bind fun bt287 => ((linear_Find.f y284 t274).bind fun bt291 => ((some (([] : List (S30)) : List (S30))).bind fun y295 => (if y295.length + t275.length < 2932031007402 then ((some (y295 ++ t275 : List (S30))).bind fun y298 => (if y298.length < 2932031007402 then (hatstandlaw15_LinearDrops.l0 kj5 t274 t275 y284 bt287.1 bt287.2 bt291.1 bt291.2 (y298 ++ [(⟨7, false, 1125899906842624, 1, 0, 9000⟩ : S30)]) 0) else (none))) else (none)))))) else (none))) else (none)) = some r := by first | (rw [hy278]; with_reducible exact H) | (have H2_ := (Option.bind_some _ _).symm.trans H; rw [hy278]; with_reducible exact H2_) | (have H2_ := (Option.bind_some _ _).symm.trans H; with_reducible exact H2_) | with_reducible exact H | (rw [hy278]; exact H) | exact H
        have Ny278 := Aside0.mk hy278
        clear hy278
        by_cases c12 : y278.length + t275.length < 2932031007402
        · rw [if_pos c12] at H
          have LMc12 := Aside0.mk c12
          clear c12
          obtain ⟨y281, hy281⟩ : ∃ y_ : List (S30), y_ = (y278 ++ t275) := ⟨_, rfl⟩
          replace H : (if y281.length < 2932031007402 then ((some (y281 ++ [(⟨7, a2, a3, 0, 0, (-1)⟩ : S30)] : List (S30))).bind fun y284 => ((linear_Find.f t275 t274).bind fun bt287 => ((linear_Find.f y284 t274).bind fun bt291 => ((some (([] : List (S30)) : List (S30))).bind fun y295 => (if y295.length + t275.length < 2932031007402 then ((some (y295 ++ t275 : List (S30))).bind fun y298 => (if y298.length < 2932031007402 then (hatstandlaw15_LinearDrops.l0 kj5 t274 t275 y284 bt287.1 bt287.2 bt291.1 bt291.2 (y298 ++ [(⟨7, false, 1125899906842624, 1, 0, 9000⟩ : S30)]) 0) else (none))) else (none)))))) else (none)) = some r := by first | (rw [hy281]; with_reducible exact H) | (have H2_ := (Option.bind_some _ _).symm.trans H; rw [hy281]; with_reducible exact H2_) | (have H2_ := (Option.bind_some _ _).symm.trans H; with_reducible exact H2_) | with_reducible exact H | (rw [hy281]; exact H) | exact H
          have Ny281 := Aside0.mk hy281
          clear hy281
          by_cases c13 : y281.length < 2932031007402
          · rw [if_pos c13] at H
            have LMc13 := Aside0.mk c13
            clear c13
            obtain ⟨y284, hy284⟩ : ∃ y_ : List (S30), y_ = (y281 ++ [(⟨7, a2, a3, 0, 0, (-1)⟩ : S30)]) := ⟨_, rfl⟩
            replace H : ((linear_Find.f t275 t274).bind fun bt287 => ((linear_Find.f y284 t274).bind fun bt291 => ((some (([] : List (S30)) : List (S30))).bind fun y295 => (if y295.length + t275.length < 2932031007402 then ((some (y295 ++ t275 : List (S30))).bind fun y298 => (if y298.length < 2932031007402 then (hatstandlaw15_LinearDrops.l0 kj5 t274 t275 y284 bt287.1 bt287.2 bt291.1 bt291.2 (y298 ++ [(⟨7, false, 1125899906842624, 1, 0, 9000⟩ : S30)]) 0) else (none))) else (none))))) = some r := by first | (rw [hy284]; with_reducible exact H) | (have H2_ := (Option.bind_some _ _).symm.trans H; rw [hy284]; with_reducible exact H2_) | (have H2_ := (Option.bind_some _ _).symm.trans H; with_reducible exact H2_) | with_reducible exact H | (rw [hy284]; exact H) | exact H
            have Ny284 := Aside0.mk hy284
            clear hy284
            replace H := Option.bind_eq_some_iff.mp H
            obtain ⟨⟨t287, t288⟩, A140, H⟩ := H
            replace H : ((linear_Find.f y284 t274).bind fun bt291 => ((some (([] : List (S30)) : List (S30))).bind fun y295 => (if y295.length + t275.length < 2932031007402 then ((some (y295 ++ t275 : List (S30))).bind fun y298 => (if y298.length < 2932031007402 then (hatstandlaw15_LinearDrops.l0 kj5 t274 t275 y284 t287 t288 bt291.1 bt291.2 (y298 ++ [(⟨7, false, 1125899906842624, 1, 0, 9000⟩ : S30)]) 0) else (none))) else (none)))) = some r := H
            have A14 := Aside0.mk A140
            clear A140
            replace H := Option.bind_eq_some_iff.mp H
            obtain ⟨⟨t291, t292⟩, A150, H⟩ := H
            replace H : ((some (([] : List (S30)) : List (S30))).bind fun y295 => (if y295.length + t275.length < 2932031007402 then ((some (y295 ++ t275 : List (S30))).bind fun y298 => (if y298.length < 2932031007402 then (hatstandlaw15_LinearDrops.l0 kj5 t274 t275 y284 t287 t288 t291 t292 (y298 ++ [(⟨7, false, 1125899906842624, 1, 0, 9000⟩ : S30)]) 0) else (none))) else (none))) = some r := H
            have A15 := Aside0.mk A150
            clear A150
            obtain ⟨y295, hy295⟩ : ∃ y_ : List (S30), y_ = (([] : List (S30))) := ⟨_, rfl⟩
            replace H : (if y295.length + t275.length < 2932031007402 then ((some (y295 ++ t275 : List (S30))).bind fun y298 => (if y298.length < 2932031007402 then (hatstandlaw15_LinearDrops.l0 kj5 t274 t275 y284 t287 t288 t291 t292 (y298 ++ [(⟨7, false, 1125899906842624, 1, 0, 9000⟩ : S30)]) 0) else (none))) else (none)) = some r := by first | (rw [hy295]; with_reducible exact H) | (have H2_ := (Option.bind_some _ _).symm.trans H; rw [hy295]; with_reducible exact H2_) | (have H2_ := (Option.bind_some _ _).symm.trans H; with_reducible exact H2_) | with_reducible exact H | (rw [hy295]; exact H) | exact H
            have Ny295 := Aside0.mk hy295
            clear hy295
            by_cases c16 : y295.length + t275.length < 2932031007402
            · rw [if_pos c16] at H
              have LMc16 := Aside0.mk c16
              clear c16
              obtain ⟨y298, hy298⟩ : ∃ y_ : List (S30), y_ = (y295 ++ t275) := ⟨_, rfl⟩
              replace H : (if y298.length < 2932031007402 then (hatstandlaw15_LinearDrops.l0 kj5 t274 t275 y284 t287 t288 t291 t292 (y298 ++ [(⟨7, false, 1125899906842624, 1, 0, 9000⟩ : S30)]) 0) else (none)) = some r := by first | (rw [hy298]; with_reducible exact H) | (have H2_ := (Option.bind_some _ _).symm.trans H; rw [hy298]; with_reducible exact H2_) | (have H2_ := (Option.bind_some _ _).symm.trans H; with_reducible exact H2_) | with_reducible exact H | (rw [hy298]; exact H) | exact H
              have Ny298 := Aside0.mk hy298
              clear hy298
              by_cases c17 : y298.length < 2932031007402
              · rw [if_pos c17] at H
                have LMc17 := Aside0.mk c17
                clear c17
                obtain ⟨y301, hy301⟩ : ∃ y_ : List (S30), y_ = (y298 ++ [(⟨7, false, 1125899906842624, 1, 0, 9000⟩ : S30)]) := ⟨_, rfl⟩
                replace H : (hatstandlaw15_LinearDrops.l0 kj5 t274 t275 y284 t287 t288 t291 t292 y301 0) = some r := by first | (rw [hy301]; with_reducible exact H) | (have H2_ := (Option.bind_some _ _).symm.trans H; rw [hy301]; with_reducible exact H2_) | (have H2_ := (Option.bind_some _ _).symm.trans H; with_reducible exact H2_) | with_reducible exact H | (rw [hy301]; exact H) | exact H
                have Ny301 := Aside0.mk hy301
                clear hy301
                have H' := Aside0.mk H
                clear H
                go_wp2_with (first | ((with_reducible refine gate_callee (f := 10) rfl ?_); refine goesL_ (some 31) rfl rfl Try.func10 (by kernel_rfl) rfl #[.int .i64 a1, .int .i64 4] rfl (by (try simp only [List.map_toArray, List.map_cons, List.map_nil]); first | done | rfl | (simp only [List.length_drop, List.length_take]; rfl)) ?_; (with_reducible refine (hatstandlaw15_pick.calls a1 4 t274 _ A10.out).mono ?_); rintro e w' ⟨rfl, ⟨nd, rfl⟩⟩; refine ⟨_, rfl, ?_⟩) | ((with_reducible refine gate_callee (f := 11) rfl ?_); refine goesL_ (some 34) rfl rfl Try.func11 (by kernel_rfl) rfl #[.slice A0 l0.length c0, .int .i64 t274] rfl (by (try simp only [List.map_toArray, List.map_cons, List.map_nil]); first | done | rfl | (simp only [List.length_drop, List.length_take]; rfl)) ?_; (with_reducible refine (hatstandlaw15_made.calls kj5 _ _ l0 t274 t275 _ ?side1 ?side2 A11.out).mono ?_); (case side1 => repeat (first | exact (Kd.C_below HR0.out (by repeat (first | (with_reducible first | exact HB.out | apply below_alloc | apply pw_below_drewN | apply below_drew1) | exact HB.out))) | (with_reducible refine Kd.C_alloc ?_ _) | (with_reducible refine Kd.C_drewN ?_ _) | (with_reducible refine Kd.C_drew ?_))); (case side2 => exact HC0.out); rintro e w18 ⟨v276, rfl, ho0, hb⟩; refine ⟨_, rfl, ?_⟩; have n0_ := Aside0.mk (Kd.R_lower ho0 (below_size (by repeat (first | (with_reducible first | exact HB.out | apply below_alloc | apply pw_below_drewN | apply below_drew1) | exact HB.out)))); have n1_ := Aside0.mk (below_step (by repeat (first | (with_reducible first | exact HB.out | apply below_alloc | apply pw_below_drewN | apply below_drew1) | exact HB.out)) hb); clear HB; have HO277 := n0_; have HB := n1_; clear n0_ n1_; (try clear hb); (try clear hb2); (try clear hk); (try clear hi); (try clear ho0)) | ((with_reducible refine gate_dst (N := 35) rfl ?_); (try (refine gate_guard (by rfl) ?_; dsimp only)); refine Kd.R_lit k30 _ 30 ?hg (N := 35) ?hd (xs := ([] : List (S30))) (inner := []) (ok := fun _ => True) (okp := fun _ => True) ?hr ?hp (fun _ hk => hk) trivial (Below.refl _ _) (Nat.le_refl _) (by simp) ?_; (case hd => rfl); (case hg => rfl); (case hr => first | (go_simp; done) | (go_simp; rfl)); (case hp => exact (Reps.none _ _)); intro v279 w19 ho20 hb hg_ hnew_; clear hg_ hnew_; (first | rw [← Ny278.out] at ho20 | (simp only [Int.reduceToNat] at ho20; rw [← Ny278.out] at ho20)); have n0_ := Aside0.mk (Kd.R_elder' (by (with_reducible repeat (first | apply Kd.R_alloc | apply Kd.R_drewN | apply Kd.R_drew)); exact HO277.out) (Kd.R_base ho20) hb); have n1_ := Aside0.mk (Kd.R_lower (Kd.R_new' ho20 (Kd.R_lt (by (with_reducible repeat (first | apply Kd.R_alloc | apply Kd.R_drewN | apply Kd.R_drew)); exact HO277.out))) (below_size (by repeat (first | (with_reducible first | exact HB.out | apply below_alloc | apply pw_below_drewN | apply below_drew1) | exact HB.out)))); have n2_ := Aside0.mk (below_step (by repeat (first | (with_reducible first | exact HB.out | apply below_alloc | apply pw_below_drewN | apply below_drew1) | exact HB.out)) hb); clear HO277; clear HB; have HO277 := n0_; have HO280 := n1_; have HB := n2_; clear n0_ n1_ n2_; clear hb ho20; obtain ⟨Ao22, co22, eo22⟩ := Kd.R_slice HO277.out; subst eo22) | ((with_reducible refine gate_builtin (b := .append) (xs := #[.tmp 35, .tmp 36]) rfl ?_); (try (refine gate_guard (by rfl) ?_; dsimp only)); at_builtin; refine Kd.R_append_rows k30 (w0 := w) w.heap.size rfl (.tmp 35) (.tmp 36) 25 30 (.agg #[(.int .i64 0), (.bool false), (.int .u64 0), (.int .i64 0), (.int .i64 0), (.int .i64 0)]) 48 rfl Try.underlying25 info30 rfl (by decide) (by omega) v279 y278 t275 _ _ _ (fun k_ => some k_ ≠ (.slice Ao22 t275.length co22 : Value).ownBlock) (fun _ => False) rfl rfl ?aO ?aR (fun _ _ h => h) (fun _ h => h.elim) ?aF ?aB ?aS ?aL ?_; (case aR => repeat (first | exact (Kd.R_reads' HO277.out).2.2 | (with_reducible refine Kd.C_alloc ?_ _) | (with_reducible refine Kd.C_drewN ?_ _) | (with_reducible refine Kd.C_drew ?_))); (case aB => exact (by repeat (first | (with_reducible first | exact HB.out | apply below_alloc | apply pw_below_drewN | apply below_drew1) | exact HB.out))); (case aF => exact (fun k_ hk => Kd.fresh' (Kd.R_lt (by (with_reducible repeat (first | apply Kd.R_alloc | apply Kd.R_drewN | apply Kd.R_drew)); exact HO277.out)) k_ hk)); (case aO => exact (by (with_reducible repeat (first | apply Kd.R_alloc | apply Kd.R_drewN | apply Kd.R_drew)); exact Kd.R_mono HO280.out (fun _ hk => hk.2))); (case aS => exact (below_size (by repeat (first | (with_reducible first | exact HB.out | apply below_alloc | apply pw_below_drewN | apply below_drew1) | exact HB.out)))); (case aL => have := LMc12.out; omega); intro v282 w21 ho hb hg hat; rw [← Ny281.out] at ho; have n0_ := Aside0.mk (Kd.R_after (ok := (fun _ => True)) (by (with_reducible repeat (first | apply Kd.R_alloc | apply Kd.R_drewN | apply Kd.R_drew)); exact HO277.out) hg hat); have n1_ := Aside0.mk (hb); have n2_ := Aside0.mk (ho); clear HO277; clear HB; clear HO280; have HO277 := n0_; have HB := n1_; have HO283 := n2_; clear n0_ n1_ n2_; clear ho hb hg hat) | ((with_reducible refine gate_builtin (b := .append) (xs := #[.tmp 37, .tmp 41]) rfl ?_); (try (refine gate_guard (by rfl) ?_; dsimp only)); at_builtin; refine Kd.R_append k30 (w0 := w) w.heap.size rfl (.tmp 37) (.tmp 41) 25 30 (.agg #[(.int .i64 0), (.bool false), (.int .u64 0), (.int .i64 0), (.int .i64 0), (.int .i64 0)]) 48 rfl Try.underlying25 info30 rfl (by decide) (by omega) v282 y281 (⟨7, a2, a3, 0, 0, (-1)⟩ : S30) [.int .i64 7, .bool a2, .int .u64 a3, .int .i64 0, .int .i64 0, .int .i64 (-1)] (fun k_ => some k_ ≠ (.slice Ao22 t275.length co22 : Value).ownBlock) (fun _ => False) rfl rfl ?aP (fun _ hk => hk.elim) ?aF ?aO ?aB ?aS ?aL ?_; (case aP => exact k30_mkM _ _ _ (⟨7, a2, a3, 0, 0, (-1)⟩ : S30)); (case aB => exact (by repeat (first | (with_reducible first | exact HB.out | apply below_alloc | apply pw_below_drewN | apply below_drew1) | exact HB.out))); (case aF => exact (fun k_ hk => Kd.fresh' (Kd.R_lt (by (with_reducible repeat (first | apply Kd.R_alloc | apply Kd.R_drewN | apply Kd.R_drew)); exact HO277.out)) k_ hk)); (case aO => exact (by (with_reducible repeat (first | apply Kd.R_alloc | apply Kd.R_drewN | apply Kd.R_drew)); exact HO283.out)); (case aS => exact (below_size (by repeat (first | (with_reducible first | exact HB.out | apply below_alloc | apply pw_below_drewN | apply below_drew1) | exact HB.out)))); (case aL => have := LMc13.out; omega); intro v285 w23 ho hb hg hat; rw [← Ny284.out] at ho; have n0_ := Aside0.mk (Kd.R_after (ok := (fun _ => True)) (by (with_reducible repeat (first | apply Kd.R_alloc | apply Kd.R_drewN | apply Kd.R_drew)); exact HO277.out) hg hat); have n1_ := Aside0.mk (hb); have n2_ := Aside0.mk (ho); clear HO277; clear HB; clear HO283; have HO277 := n0_; have HB := n1_; have HO286 := n2_; clear n0_ n1_ n2_; clear ho hb hg hat) | ((with_reducible refine gate_callee (f := 12) rfl ?_); refine goesL_ (some 46) rfl rfl Try.func12 (by kernel_rfl) rfl #[.slice Ao22 t275.length co22, .int .i64 t274] rfl (by (try simp only [List.map_toArray, List.map_cons, List.map_nil]); first | done | rfl | (simp only [List.length_drop, List.length_take]; rfl)) ?_; (with_reducible refine (linear_Find.calls _ _ t275 t274 t287 t288 _ ?side1 ?side2 A14.out).mono ?_); (case side1 => repeat (first | exact (Kd.R_reads' HO277.out).2.2 | (with_reducible refine Kd.C_alloc ?_ _) | (with_reducible refine Kd.C_drewN ?_ _) | (with_reducible refine Kd.C_drew ?_))); (case side2 => exact (Kd.R_reads' HO277.out).2.1); rintro e w24 ⟨v289, rfl, ho0, hb⟩; refine ⟨_, rfl, ?_⟩; have n0_ := Aside0.mk (Kd.R_below (by (with_reducible repeat (first | apply Kd.R_alloc | apply Kd.R_drewN | apply Kd.R_drew)); exact HO277.out) hb); have n1_ := Aside0.mk (Kd.R_below (by (with_reducible repeat (first | apply Kd.R_alloc | apply Kd.R_drewN | apply Kd.R_drew)); exact HO286.out) hb); have n2_ := Aside0.mk (Kd.R_lower ho0 (below_size (by repeat (first | (with_reducible first | exact HB.out | apply below_alloc | apply pw_below_drewN | apply below_drew1) | exact HB.out)))); have n3_ := Aside0.mk (below_step (by repeat (first | (with_reducible first | exact HB.out | apply below_alloc | apply pw_below_drewN | apply below_drew1) | exact HB.out)) hb); clear HO277; clear HO286; clear HB; have HO277 := n0_; have HO286 := n1_; have HO290 := n2_; have HB := n3_; clear n0_ n1_ n2_ n3_; (try clear hb); (try clear hb2); (try clear hk); (try clear hi); (try clear ho0); obtain ⟨Ao25, co25, eo25⟩ := Kd.R_slice HO286.out; subst eo25) | ((with_reducible refine gate_callee (f := 12) rfl ?_); refine goesL_ (some 52) rfl rfl Try.func12 (by kernel_rfl) rfl #[.slice Ao25 y284.length co25, .int .i64 t274] rfl (by (try simp only [List.map_toArray, List.map_cons, List.map_nil]); first | done | rfl | (simp only [List.length_drop, List.length_take]; rfl)) ?_; (with_reducible refine (linear_Find.calls _ _ y284 t274 t291 t292 _ ?side1 ?side2 A15.out).mono ?_); (case side1 => repeat (first | exact (Kd.R_reads' HO286.out).2.2 | (with_reducible refine Kd.C_alloc ?_ _) | (with_reducible refine Kd.C_drewN ?_ _) | (with_reducible refine Kd.C_drew ?_))); (case side2 => exact (Kd.R_reads' HO286.out).2.1); rintro e w26 ⟨v293, rfl, ho0, hb⟩; refine ⟨_, rfl, ?_⟩; have n0_ := Aside0.mk (Kd.R_below (by (with_reducible repeat (first | apply Kd.R_alloc | apply Kd.R_drewN | apply Kd.R_drew)); exact HO277.out) hb); have n1_ := Aside0.mk (Kd.R_below (by (with_reducible repeat (first | apply Kd.R_alloc | apply Kd.R_drewN | apply Kd.R_drew)); exact HO286.out) hb); have n2_ := Aside0.mk (Kd.R_elder' (by (with_reducible repeat (first | apply Kd.R_alloc | apply Kd.R_drewN | apply Kd.R_drew)); exact HO290.out) (Kd.R_base ho0) hb); have n3_ := Aside0.mk (Kd.R_lower (Kd.R_new' ho0 (Kd.R_lt (by (with_reducible repeat (first | apply Kd.R_alloc | apply Kd.R_drewN | apply Kd.R_drew)); exact HO290.out))) (below_size (by repeat (first | (with_reducible first | exact HB.out | apply below_alloc | apply pw_below_drewN | apply below_drew1) | exact HB.out)))); have n4_ := Aside0.mk (below_step (by repeat (first | (with_reducible first | exact HB.out | apply below_alloc | apply pw_below_drewN | apply below_drew1) | exact HB.out)) hb); clear HO277; clear HO286; clear HO290; clear HB; have HO277 := n0_; have HO286 := n1_; have HO290 := n2_; have HO294 := n3_; have HB := n4_; clear n0_ n1_ n2_ n3_ n4_; (try clear hb); (try clear hb2); (try clear hk); (try clear hi); (try clear ho0)) | ((with_reducible refine gate_dst (N := 55) rfl ?_); (try (refine gate_guard (by rfl) ?_; dsimp only)); refine Kd.R_lit k30 _ 30 ?hg (N := 55) ?hd (xs := ([] : List (S30))) (inner := []) (ok := fun _ => True) (okp := fun _ => True) ?hr ?hp (fun _ hk => hk) trivial (Below.refl _ _) (Nat.le_refl _) (by simp) ?_; (case hd => rfl); (case hg => rfl); (case hr => first | (go_simp; done) | (go_simp; rfl)); (case hp => exact (Reps.none _ _)); intro v296 w27 ho28 hb hg_ hnew_; clear hg_ hnew_; (first | rw [← Ny295.out] at ho28 | (simp only [Int.reduceToNat] at ho28; rw [← Ny295.out] at ho28)); have n0_ := Aside0.mk (Kd.R_elder' (by (with_reducible repeat (first | apply Kd.R_alloc | apply Kd.R_drewN | apply Kd.R_drew)); exact HO277.out) (Kd.R_base ho28) hb); have n1_ := Aside0.mk (Kd.R_elder' (by (with_reducible repeat (first | apply Kd.R_alloc | apply Kd.R_drewN | apply Kd.R_drew)); exact HO286.out) (Kd.R_base ho28) hb); have n2_ := Aside0.mk (Kd.R_below (by (with_reducible repeat (first | apply Kd.R_alloc | apply Kd.R_drewN | apply Kd.R_drew)); exact HO290.out) hb); have n3_ := Aside0.mk (Kd.R_below (by (with_reducible repeat (first | apply Kd.R_alloc | apply Kd.R_drewN | apply Kd.R_drew)); exact HO294.out) hb); have n4_ := Aside0.mk (Kd.R_lower (Kd.R_new' (Kd.R_new' ho28 (Kd.R_lt (by (with_reducible repeat (first | apply Kd.R_alloc | apply Kd.R_drewN | apply Kd.R_drew)); exact HO277.out))) (Kd.R_lt (by (with_reducible repeat (first | apply Kd.R_alloc | apply Kd.R_drewN | apply Kd.R_drew)); exact HO286.out))) (below_size (by repeat (first | (with_reducible first | exact HB.out | apply below_alloc | apply pw_below_drewN | apply below_drew1) | exact HB.out)))); have n5_ := Aside0.mk (below_step (by repeat (first | (with_reducible first | exact HB.out | apply below_alloc | apply pw_below_drewN | apply below_drew1) | exact HB.out)) hb); clear HO277; clear HO286; clear HO290; clear HO294; clear HB; have HO277 := n0_; have HO286 := n1_; have HO290 := n2_; have HO294 := n3_; have HO297 := n4_; have HB := n5_; clear n0_ n1_ n2_ n3_ n4_ n5_; clear hb ho28) | ((with_reducible refine gate_builtin (b := .append) (xs := #[.tmp 55, .tmp 56]) rfl ?_); (try (refine gate_guard (by rfl) ?_; dsimp only)); at_builtin; refine Kd.R_append_rows k30 (w0 := w) w.heap.size rfl (.tmp 55) (.tmp 56) 25 30 (.agg #[(.int .i64 0), (.bool false), (.int .u64 0), (.int .i64 0), (.int .i64 0), (.int .i64 0)]) 48 rfl Try.underlying25 info30 rfl (by decide) (by omega) v296 y295 t275 _ _ _ (fun k_ => some k_ ≠ (.slice Ao22 t275.length co22 : Value).ownBlock ∧ some k_ ≠ (.slice Ao25 y284.length co25 : Value).ownBlock) (fun _ => False) rfl rfl ?aO ?aR (fun _ _ h => h) (fun _ h => h.elim) ?aF ?aB ?aS ?aL ?_; (case aR => repeat (first | exact (Kd.R_reads' HO277.out).2.2 | (with_reducible refine Kd.C_alloc ?_ _) | (with_reducible refine Kd.C_drewN ?_ _) | (with_reducible refine Kd.C_drew ?_))); (case aB => exact (by repeat (first | (with_reducible first | exact HB.out | apply below_alloc | apply pw_below_drewN | apply below_drew1) | exact HB.out))); (case aF => exact (fun k_ hk => ⟨Kd.fresh' (Kd.R_lt (by (with_reducible repeat (first | apply Kd.R_alloc | apply Kd.R_drewN | apply Kd.R_drew)); exact HO277.out)) k_ hk, Kd.fresh' (Kd.R_lt (by (with_reducible repeat (first | apply Kd.R_alloc | apply Kd.R_drewN | apply Kd.R_drew)); exact HO286.out)) k_ hk⟩)); (case aO => exact (by (with_reducible repeat (first | apply Kd.R_alloc | apply Kd.R_drewN | apply Kd.R_drew)); exact Kd.R_mono HO297.out (fun _ hk => ⟨hk.1.2, hk.2⟩))); (case aS => exact (below_size (by repeat (first | (with_reducible first | exact HB.out | apply below_alloc | apply pw_below_drewN | apply below_drew1) | exact HB.out)))); (case aL => have := LMc16.out; omega); intro v299 w29 ho hb hg hat; rw [← Ny298.out] at ho; have n0_ := Aside0.mk (Kd.R_after (ok := (fun k_ => some k_ ≠ (.slice Ao25 y284.length co25 : Value).ownBlock)) (by (with_reducible repeat (first | apply Kd.R_alloc | apply Kd.R_drewN | apply Kd.R_drew)); exact Kd.R_mono HO277.out (fun _ hk => ⟨hk.1.2, hk.2⟩)) hg hat); have n1_ := Aside0.mk (Kd.R_after (ok := (fun k_ => some k_ ≠ (.slice Ao22 t275.length co22 : Value).ownBlock)) (by (with_reducible repeat (first | apply Kd.R_alloc | apply Kd.R_drewN | apply Kd.R_drew)); exact HO286.out) hg hat); have n2_ := Aside0.mk (Kd.R_over' (by (with_reducible repeat (first | apply Kd.R_alloc | apply Kd.R_drewN | apply Kd.R_drew)); exact HO290.out) (Kd.R_typed (by (with_reducible repeat (first | apply Kd.R_alloc | apply Kd.R_drewN | apply Kd.R_drew)); exact HO297.out)) (by decide) hg); have n3_ := Aside0.mk (Kd.R_over' (by (with_reducible repeat (first | apply Kd.R_alloc | apply Kd.R_drewN | apply Kd.R_drew)); exact HO294.out) (Kd.R_typed (by (with_reducible repeat (first | apply Kd.R_alloc | apply Kd.R_drewN | apply Kd.R_drew)); exact HO297.out)) (by decide) hg); have n4_ := Aside0.mk (hb); have n5_ := Aside0.mk (ho); clear HO277; clear HO286; clear HO290; clear HO294; clear HB; clear HO297; have HO277 := n0_; have HO286 := n1_; have HO290 := n2_; have HO294 := n3_; have HB := n4_; have HO300 := n5_; clear n0_ n1_ n2_ n3_ n4_ n5_; clear ho hb hg hat) | ((with_reducible refine gate_builtin (b := .append) (xs := #[.tmp 57, .tmp 59]) rfl ?_); (try (refine gate_guard (by rfl) ?_; dsimp only)); at_builtin; refine Kd.R_append k30 (w0 := w) w.heap.size rfl (.tmp 57) (.tmp 59) 25 30 (.agg #[(.int .i64 0), (.bool false), (.int .u64 0), (.int .i64 0), (.int .i64 0), (.int .i64 0)]) 48 rfl Try.underlying25 info30 rfl (by decide) (by omega) v299 y298 (⟨7, false, 1125899906842624, 1, 0, 9000⟩ : S30) [.int .i64 7, .bool false, .int .u64 1125899906842624, .int .i64 1, .int .i64 0, .int .i64 9000] (fun k_ => some k_ ≠ (.slice Ao22 t275.length co22 : Value).ownBlock ∧ some k_ ≠ (.slice Ao25 y284.length co25 : Value).ownBlock) (fun _ => False) rfl rfl ?aP (fun _ hk => hk.elim) ?aF ?aO ?aB ?aS ?aL ?_; (case aP => exact k30_mkM _ _ _ (⟨7, false, 1125899906842624, 1, 0, 9000⟩ : S30)); (case aB => exact (by repeat (first | (with_reducible first | exact HB.out | apply below_alloc | apply pw_below_drewN | apply below_drew1) | exact HB.out))); (case aF => exact (fun k_ hk => ⟨Kd.fresh' (Kd.R_lt (by (with_reducible repeat (first | apply Kd.R_alloc | apply Kd.R_drewN | apply Kd.R_drew)); exact HO277.out)) k_ hk, Kd.fresh' (Kd.R_lt (by (with_reducible repeat (first | apply Kd.R_alloc | apply Kd.R_drewN | apply Kd.R_drew)); exact HO286.out)) k_ hk⟩)); (case aO => exact (by (with_reducible repeat (first | apply Kd.R_alloc | apply Kd.R_drewN | apply Kd.R_drew)); exact HO300.out)); (case aS => exact (below_size (by repeat (first | (with_reducible first | exact HB.out | apply below_alloc | apply pw_below_drewN | apply below_drew1) | exact HB.out)))); (case aL => have := LMc17.out; omega); intro v302 w30 ho hb hg hat; rw [← Ny301.out] at ho; have n0_ := Aside0.mk (Kd.R_after (ok := (fun k_ => some k_ ≠ (.slice Ao25 y284.length co25 : Value).ownBlock)) (by (with_reducible repeat (first | apply Kd.R_alloc | apply Kd.R_drewN | apply Kd.R_drew)); exact HO277.out) hg hat); have n1_ := Aside0.mk (Kd.R_after (ok := (fun k_ => some k_ ≠ (.slice Ao22 t275.length co22 : Value).ownBlock)) (by (with_reducible repeat (first | apply Kd.R_alloc | apply Kd.R_drewN | apply Kd.R_drew)); exact HO286.out) hg hat); have n2_ := Aside0.mk (Kd.R_over' (by (with_reducible repeat (first | apply Kd.R_alloc | apply Kd.R_drewN | apply Kd.R_drew)); exact HO290.out) (Kd.R_typed (by (with_reducible repeat (first | apply Kd.R_alloc | apply Kd.R_drewN | apply Kd.R_drew)); exact HO300.out)) (by decide) hg); have n3_ := Aside0.mk (Kd.R_over' (by (with_reducible repeat (first | apply Kd.R_alloc | apply Kd.R_drewN | apply Kd.R_drew)); exact HO294.out) (Kd.R_typed (by (with_reducible repeat (first | apply Kd.R_alloc | apply Kd.R_drewN | apply Kd.R_drew)); exact HO300.out)) (by decide) hg); have n4_ := Aside0.mk (hb); have n5_ := Aside0.mk (ho); clear HO277; clear HO286; clear HO290; clear HO294; clear HB; clear HO300; have HO277 := n0_; have HO286 := n1_; have HO290 := n2_; have HO294 := n3_; have HB := n4_; have HO303 := n5_; clear n0_ n1_ n2_ n3_ n4_ n5_; clear ho hb hg hat))
                go_loopg [18] kj5 (fun kq v18 w' => ∃ (x18_2 : Int), v18 = .int .i64 x18_2 ∧ Aside0 (hatstandlaw15_LinearDrops.l0 kq t274 t275 y284 t287 t288 t291 t292 y301 x18_2 = some r) ∧ Aside0 (kq ≤ kj5) ∧ Aside0 (Kd.R k30 30 w' w.heap.size (fun k_ => some k_ ≠ ((.slice Ao25 y284.length co25) : Value).ownBlock ∧ some k_ ≠ (v302 : Value).ownBlock) (.slice Ao22 t275.length co22) t275) ∧ Aside0 (Kd.R k30 30 w' w.heap.size (fun k_ => some k_ ≠ ((.slice Ao22 t275.length co22) : Value).ownBlock ∧ some k_ ≠ (v302 : Value).ownBlock) (.slice Ao25 y284.length co25) y284) ∧ Aside0 (Kd.R (Kd.int .i64) 3 w' w.heap.size (fun k_ => some k_ ≠ (v293 : Value).ownBlock) v289 t287) ∧ Aside0 (Kd.R (Kd.int .i64) 3 w' w.heap.size (fun k_ => some k_ ≠ (v289 : Value).ownBlock) v293 t291) ∧ Aside0 (Kd.R k30 30 w' w.heap.size (fun k_ => some k_ ≠ ((.slice Ao22 t275.length co22) : Value).ownBlock ∧ some k_ ≠ ((.slice Ao25 y284.length co25) : Value).ownBlock) v302 y301) ∧ Aside0 (Below w.heap.size w w'))
                case atStart => exact ⟨(0), (by first | rfl | (simp; done) | (simp [*]; done)), H', ⟨Nat.le_refl _⟩, ⟨by (with_reducible repeat (first | apply Kd.R_alloc | apply Kd.R_drewN | apply Kd.R_drew)); exact HO277.out⟩, ⟨by (with_reducible repeat (first | apply Kd.R_alloc | apply Kd.R_drewN | apply Kd.R_drew)); exact HO286.out⟩, ⟨by (with_reducible repeat (first | apply Kd.R_alloc | apply Kd.R_drewN | apply Kd.R_drew)); exact Kd.R_mono HO290.out (fun _ hk => hk.2)⟩, ⟨by (with_reducible repeat (first | apply Kd.R_alloc | apply Kd.R_drewN | apply Kd.R_drew)); exact Kd.R_mono HO294.out (fun _ hk => hk.2)⟩, ⟨by (with_reducible repeat (first | apply Kd.R_alloc | apply Kd.R_drewN | apply Kd.R_drew)); exact HO303.out⟩, ⟨by repeat (first | (with_reducible first | exact HB.out | apply below_alloc | apply pw_below_drewN | apply below_drew1) | exact HB.out)⟩⟩
                case round =>
                  clear H'
                  try clear c1
                  try clear p2
                  try clear c7
                  try clear c8
                  try clear c9
                  try clear c10
                  try clear c11
                  try clear c12
                  try clear c13
                  try clear c16
                  try clear c17
                  try clear p2
                  obtain ⟨x18_2, rfl, HA, HK2, HO_11, HO_12, HO_13, HO_15, HO_17, HB⟩ := hrel
                  cases gk with
                  | zero => exact absurd HA.out (by simp [hatstandlaw15_LinearDrops.l0])
                  | succ k2 =>
                    have H := HA.out
                    clear HA
                    simp only [hatstandlaw15_LinearDrops.l0] at H
                    by_cases c31 : x18_2 < (t275.length : Int)
                    · rw [if_pos c31] at H
                      have c31b0 : decide (x18_2 < (t275.length : Int)) = true := decide_eq_true c31
                      clear c31
                      by_cases c32 : 0 ≤ x18_2
                      · rw [if_pos c32] at H
                        have c32b0 : decide (0 ≤ x18_2) = true := decide_eq_true c32
                        clear c32
                        by_cases c33 : ((rd_T30 t275 x18_2).f2) = 1125899906842624
                        · rw [if_pos c33] at H
                          have c33b0 : (((rd_T30 t275 x18_2).f2) == 1125899906842624) = true := beq_iff_eq.mpr c33
                          have c33b1 : (((rd_T30 t275 x18_2).f2) != 1125899906842624) = false := bne_eq_false_iff_eq.mpr c33
                          clear c33
                          by_cases c34 : t288 = true
                          · subst c34
                            have H1 : (some t292) = some r := by rw [if_pos rfl] at H; exact H
                            clear H
                            have H := H1
                            clear H1
                            obtain rfl := Option.some.inj H
                            have p304 : 0 ≤ (x18_2 : Int) := of_decide_eq_true (by first | (with_reducible assumption) | assumption)
                            have q304 : x18_2 < (t275.length : Int) := of_decide_eq_true (by first | (with_reducible assumption) | assumption)
                            obtain ⟨ad304, e304, hx304_0, hx304_1, hx304_2, hx304_3, hx304_4, hx304_5⟩ := at_T30 (Kd.R_reads' HO_11.out).2.2 x18_2 p304 q304
                            cases e304
                            replace p304 := eq_true p304
                            replace q304 := eq_true q304
                            go_wp2
                            go_ret
                            exact ⟨by first | rfl | (simp [errW_none, errW_some] <;> rfl) | (simp [*, errW_none, errW_some] <;> rfl), by repeat (first | (with_reducible first | exact HB.out | apply below_alloc | apply pw_below_drewN | apply below_drew1) | exact HB.out)⟩
                          · replace c34 := Bool.eq_false_iff.mpr c34
                            subst c34
                            have H1 : (some false) = some r := by rw [if_neg (show ¬ (false = true) by decide)] at H; exact H
                            clear H
                            have H := H1
                            clear H1
                            exact absurd ((Option.some.inj H).trans HT0.out) (by decide)
                        · rw [if_neg c33] at H
                          have c33b0 : (((rd_T30 t275 x18_2).f2) == 1125899906842624) = false := beq_eq_false_iff_ne.mpr c33
                          have c33b1 : (((rd_T30 t275 x18_2).f2) != 1125899906842624) = true := bne_iff_ne.mpr c33
                          have H' := Aside0.mk H
                          clear H
                          have p304 : 0 ≤ (x18_2 : Int) := of_decide_eq_true (by first | (with_reducible assumption) | assumption)
                          have q304 : x18_2 < (t275.length : Int) := of_decide_eq_true (by first | (with_reducible assumption) | assumption)
                          obtain ⟨ad304, e304, hx304_0, hx304_1, hx304_2, hx304_3, hx304_4, hx304_5⟩ := at_T30 (Kd.R_reads' HO_11.out).2.2 x18_2 p304 q304
                          cases e304
                          replace p304 := eq_true p304
                          replace q304 := eq_true q304
                          go_wp2
                          go_roundg k2
                          case measure => have := HJ5.out; have := HK2.out; omega
                          case rel => exact ⟨(wrap64 (x18_2 + 1)), (by first | rfl | (simp; done) | (simp [*]; done)), H', ⟨by have := HJ5.out; have := HK2.out; omega⟩, ⟨by (with_reducible repeat (first | apply Kd.R_alloc | apply Kd.R_drewN | apply Kd.R_drew)); exact HO_11.out⟩, ⟨by (with_reducible repeat (first | apply Kd.R_alloc | apply Kd.R_drewN | apply Kd.R_drew)); exact HO_12.out⟩, ⟨by (with_reducible repeat (first | apply Kd.R_alloc | apply Kd.R_drewN | apply Kd.R_drew)); exact HO_13.out⟩, ⟨by (with_reducible repeat (first | apply Kd.R_alloc | apply Kd.R_drewN | apply Kd.R_drew)); exact HO_15.out⟩, ⟨by (with_reducible repeat (first | apply Kd.R_alloc | apply Kd.R_drewN | apply Kd.R_drew)); exact HO_17.out⟩, ⟨by repeat (first | (with_reducible first | exact HB.out | apply below_alloc | apply pw_below_drewN | apply below_drew1) | exact HB.out)⟩⟩
                      · rw [if_neg c32] at H
                        exact absurd H (by simp)
                    · rw [if_neg c31] at H
                      have c31b0 : decide (x18_2 < (t275.length : Int)) = false := decide_eq_false c31
                      clear c31
                      replace H := Option.bind_eq_some_iff.mp H
                      obtain ⟨⟨t305, t306⟩, A350, H⟩ := H
                      replace H : (if t288 = true then (if t292 = true then ((linear_Fits.f k2 y284 t274 t287).bind fun t309 => (if t309 = true then (if (t291.length : Int) ≤ (y284.length : Int) then (some (!t306)) else (some false)) else (some false))) else (some false)) else (some false)) = some r := H
                      have A35 := Aside0.mk A350
                      clear A350
                      by_cases c36 : t288 = true
                      · subst c36
                        have H1 : (if t292 = true then ((linear_Fits.f k2 y284 t274 t287).bind fun t309 => (if t309 = true then (if (t291.length : Int) ≤ (y284.length : Int) then (some (!t306)) else (some false)) else (some false))) else (some false)) = some r := by rw [if_pos rfl] at H; exact H
                        clear H
                        have H := H1
                        clear H1
                        by_cases c37 : t292 = true
                        · subst c37
                          have H1 : ((linear_Fits.f k2 y284 t274 t287).bind fun t309 => (if t309 = true then (if (t291.length : Int) ≤ (y284.length : Int) then (some (!t306)) else (some false)) else (some false))) = some r := by rw [if_pos rfl] at H; exact H
                          clear H
                          have H := H1
                          clear H1
                          replace H := Option.bind_eq_some_iff.mp H
                          obtain ⟨t309, A380, H⟩ := H
                          replace H : (if t309 = true then (if (t291.length : Int) ≤ (y284.length : Int) then (some (!t306)) else (some false)) else (some false)) = some r := H
                          have A38 := Aside0.mk A380
                          clear A380
                          by_cases c39 : t309 = true
                          · subst c39
                            have H1 : (if (t291.length : Int) ≤ (y284.length : Int) then (some (!t306)) else (some false)) = some r := by rw [if_pos rfl] at H; exact H
                            clear H
                            have H := H1
                            clear H1
                            by_cases c40 : (t291.length : Int) ≤ (y284.length : Int)
                            · rw [if_pos c40] at H
                              have c40b0 : decide ((t291.length : Int) ≤ (y284.length : Int)) = true := decide_eq_true c40
                              have c40b1 : decide (t291.length ≤ y284.length) = true := decide_eq_true (Int.ofNat_le.mp c40)
                              clear c40
                              obtain rfl := Option.some.inj H
                              obtain ⟨Ao41, co41, eo41⟩ := Kd.R_slice HO_17.out
                              subst eo41
                              go_wp2_with (first | ((with_reducible refine gate_callee (f := 12) rfl ?_); refine goesL_ (some 80) rfl rfl Try.func12 (by kernel_rfl) rfl #[.slice Ao41 y301.length co41, .int .i64 t274] rfl (by (try simp only [List.map_toArray, List.map_cons, List.map_nil]); first | done | rfl | (simp only [List.length_drop, List.length_take]; rfl)) ?_; (with_reducible refine (linear_Find.calls _ _ y301 t274 t305 t306 _ ?side1 ?side2 A35.out).mono ?_); (case side1 => repeat (first | exact (Kd.R_reads' HO_17.out).2.2 | (with_reducible refine Kd.C_alloc ?_ _) | (with_reducible refine Kd.C_drewN ?_ _) | (with_reducible refine Kd.C_drew ?_))); (case side2 => exact (Kd.R_reads' HO_17.out).2.1); rintro e w42 ⟨v307, rfl, ho0, hb⟩; refine ⟨_, rfl, ?_⟩; have n0_ := Aside0.mk (Kd.R_below (by (with_reducible repeat (first | apply Kd.R_alloc | apply Kd.R_drewN | apply Kd.R_drew)); exact HO_11.out) hb); have n1_ := Aside0.mk (Kd.R_below (by (with_reducible repeat (first | apply Kd.R_alloc | apply Kd.R_drewN | apply Kd.R_drew)); exact HO_12.out) hb); have n2_ := Aside0.mk (Kd.R_elder' (by (with_reducible repeat (first | apply Kd.R_alloc | apply Kd.R_drewN | apply Kd.R_drew)); exact HO_13.out) (Kd.R_base ho0) hb); have n3_ := Aside0.mk (Kd.R_elder' (by (with_reducible repeat (first | apply Kd.R_alloc | apply Kd.R_drewN | apply Kd.R_drew)); exact HO_15.out) (Kd.R_base ho0) hb); have n4_ := Aside0.mk (Kd.R_below (by (with_reducible repeat (first | apply Kd.R_alloc | apply Kd.R_drewN | apply Kd.R_drew)); exact HO_17.out) hb); have n5_ := Aside0.mk (Kd.R_lower (Kd.R_new' (Kd.R_new' ho0 (Kd.R_lt (by (with_reducible repeat (first | apply Kd.R_alloc | apply Kd.R_drewN | apply Kd.R_drew)); exact HO_13.out))) (Kd.R_lt (by (with_reducible repeat (first | apply Kd.R_alloc | apply Kd.R_drewN | apply Kd.R_drew)); exact HO_15.out))) (below_size (by repeat (first | (with_reducible first | exact HB.out | apply below_alloc | apply pw_below_drewN | apply below_drew1) | exact HB.out)))); have n6_ := Aside0.mk (below_step (by repeat (first | (with_reducible first | exact HB.out | apply below_alloc | apply pw_below_drewN | apply below_drew1) | exact HB.out)) hb); clear HO_11; clear HO_12; clear HO_13; clear HO_15; clear HO_17; clear HB; have HO_11 := n0_; have HO_12 := n1_; have HO_13 := n2_; have HO_15 := n3_; have HO_17 := n4_; have HO308 := n5_; have HB := n6_; clear n0_ n1_ n2_ n3_ n4_ n5_ n6_; (try clear hb); (try clear hb2); (try clear hk); (try clear hi); (try clear ho0); obtain ⟨Ao43, co43, eo43⟩ := Kd.R_slice HO_13.out; subst eo43) | (go_at_call 13; (with_reducible refine (linear_Fits.calls k2 _ _ y284 t274 _ _ t287 true _ ?side1 ?side2 ?side3 ?side4 A38.out).mono ?_); (case side1 => repeat (first | exact (Kd.R_reads' HO_12.out).2.2 | (with_reducible refine Kd.C_alloc ?_ _) | (with_reducible refine Kd.C_drewN ?_ _) | (with_reducible refine Kd.C_drew ?_))); (case side2 => exact (Kd.R_reads' HO_12.out).2.1); (case side3 => repeat (first | exact (Kd.R_reads' HO_13.out).2.2 | (with_reducible refine Kd.C_alloc ?_ _) | (with_reducible refine Kd.C_drewN ?_ _) | (with_reducible refine Kd.C_drew ?_))); (case side4 => exact (Kd.R_reads' HO_13.out).2.1); rintro e w44 ⟨rfl, hb⟩; have n0_ := Aside0.mk (Kd.R_below (by (with_reducible repeat (first | apply Kd.R_alloc | apply Kd.R_drewN | apply Kd.R_drew)); exact HO_11.out) hb); have n1_ := Aside0.mk (Kd.R_below (by (with_reducible repeat (first | apply Kd.R_alloc | apply Kd.R_drewN | apply Kd.R_drew)); exact HO_12.out) hb); have n2_ := Aside0.mk (Kd.R_below (by (with_reducible repeat (first | apply Kd.R_alloc | apply Kd.R_drewN | apply Kd.R_drew)); exact HO_13.out) hb); have n3_ := Aside0.mk (Kd.R_below (by (with_reducible repeat (first | apply Kd.R_alloc | apply Kd.R_drewN | apply Kd.R_drew)); exact HO_15.out) hb); have n4_ := Aside0.mk (Kd.R_below (by (with_reducible repeat (first | apply Kd.R_alloc | apply Kd.R_drewN | apply Kd.R_drew)); exact HO_17.out) hb); have n5_ := Aside0.mk (Kd.R_below (by (with_reducible repeat (first | apply Kd.R_alloc | apply Kd.R_drewN | apply Kd.R_drew)); exact HO308.out) hb); have n6_ := Aside0.mk (below_step (by repeat (first | (with_reducible first | exact HB.out | apply below_alloc | apply pw_below_drewN | apply below_drew1) | exact HB.out)) hb); clear HO_11; clear HO_12; clear HO_13; clear HO_15; clear HO_17; clear HO308; clear HB; have HO_11 := n0_; have HO_12 := n1_; have HO_13 := n2_; have HO_15 := n3_; have HO_17 := n4_; have HO308 := n5_; have HB := n6_; clear n0_ n1_ n2_ n3_ n4_ n5_ n6_; (try clear hb); (try clear hb2); (try clear hk); (try clear hi); obtain ⟨Ao45, co45, eo45⟩ := Kd.R_slice HO_15.out; subst eo45))
                              go_ret
                              exact ⟨by first | rfl | (simp [errW_none, errW_some] <;> rfl) | (simp [*, errW_none, errW_some] <;> rfl), by repeat (first | (with_reducible first | exact HB.out | apply below_alloc | apply pw_below_drewN | apply below_drew1) | exact HB.out)⟩
                            · rw [if_neg c40] at H
                              have c40b0 : decide ((t291.length : Int) ≤ (y284.length : Int)) = false := decide_eq_false c40
                              have c40b1 : decide (t291.length ≤ y284.length) = false := decide_eq_false (fun h => c40 (Int.ofNat_le.mpr h))
                              clear c40
                              exact absurd ((Option.some.inj H).trans HT0.out) (by decide)
                          · replace c39 := Bool.eq_false_iff.mpr c39
                            subst c39
                            have H1 : (some false) = some r := by rw [if_neg (show ¬ (false = true) by decide)] at H; exact H
                            clear H
                            have H := H1
                            clear H1
                            exact absurd ((Option.some.inj H).trans HT0.out) (by decide)
                        · replace c37 := Bool.eq_false_iff.mpr c37
                          subst c37
                          have H1 : (some false) = some r := by rw [if_neg (show ¬ (false = true) by decide)] at H; exact H
                          clear H
                          have H := H1
                          clear H1
                          exact absurd ((Option.some.inj H).trans HT0.out) (by decide)
                      · replace c36 := Bool.eq_false_iff.mpr c36
                        subst c36
                        have H1 : (some false) = some r := by rw [if_neg (show ¬ (false = true) by decide)] at H; exact H
                        clear H
                        have H := H1
                        clear H1
                        exact absurd ((Option.some.inj H).trans HT0.out) (by decide)
              · rw [if_neg c17] at H
                exact absurd H (by simp)
            · rw [if_neg c16] at H
              exact absurd H (by simp)
          · rw [if_neg c13] at H
            exact absurd H (by simp)
        · rw [if_neg c12] at H
          exact absurd H (by simp)

/-- THE ONE PURE STATEMENT of hatstandlaw15_LinearDrops. -/
def hatstandlaw15_LinearDrops.Pure : Prop := ∀ (l0 : List (S51)) (a1 : Int) (a2 : Bool) (a3 : Int), l0.length ≤ maxLen → l0.length * 24 ≤ 140737488351232 → (∀ x ∈ l0, (Lit.int .u64 x.f2).wf = true ∧ (Lit.int .i64 x.f3).wf = true) → (Lit.int .i64 a1).wf = true → (Lit.int .u64 a3).wf = true → ∃ k, hatstandlaw15_LinearDrops.f k l0 a1 a2 a3 = some true
theorem hatstandlaw15_LinearDrops.walk (P : hatstandlaw15_LinearDrops.Pure) (A0 : Option Addr) (c0 : Nat) (l0 : List (S51)) (a1 : Int) (a2 : Bool) (a3 : Int) (w : World) (hr0 : Kd.C k51 w A0 l0.length l0) (hc0 : l0.length ≤ c0) (hm0 : l0.length ≤ maxLen) (y0 : l0.length * 24 ≤ 140737488351232) (hw0 : (∀ x ∈ l0, (Lit.int .u64 x.f2).wf = true ∧ (Lit.int .i64 x.f3).wf = true)) (hw1 : (Lit.int .i64 a1).wf = true) (hw3 : (Lit.int .u64 a3).wf = true) :
    Calls Try.prog 7 #[.slice A0 l0.length c0, .int .i64 a1, .bool a2, .int .u64 a3] w fun e w' => e = .returned (.bool true) ∧ Below w.heap.size w w' := by
  obtain ⟨k, h⟩ := P l0 a1 a2 a3 hm0 y0 hw0 hw1 hw3
  refine (hatstandlaw15_LinearDrops.calls k A0 c0 l0 a1 a2 a3 true w hr0 hc0 h rfl).mono ?_
  rintro e w' ⟨rfl, hd⟩
  exact ⟨rfl, hd⟩

end Go.Proofs.Ytdcnnphgcapiaaa.P
