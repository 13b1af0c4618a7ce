/- Walks, written by a program for this claim: each Go function that the laws reach comes to what its Lean function says. -/
import Derived.Test.YtdcnnphgcapiaaaPx0
import Derived.Test.YtdcnnphgcapiaaaPx2
import Derived.Test.YtdcnnphgcapiaaaPx7
import Derived.Test.YtdcnnphgcapiaaaPx8
import Derived.Test.YtdcnnphgcapiaaaPx9
import Derived.Test.YtdcnnphgcapiaaaPx14
import Derived.Test.YtdcnnphgcapiaaaPx15
namespace Go.Proofs.Ytdcnnphgcapiaaa.P
open Go.RowKit Go.Proofs.YtdcnnphgcapiaaaW.PrintWords Go.Proofs.YtdcnnphgcapiaaaW.PrintLast Go.Proofs.YtdcnnphgcapiaaaW.PrintMore
attribute [local go_sem] max2_int min2_int max_two min_two max_three min_three max_four min_four   -- for this text's walks alone
set_option linter.unusedVariables false
set_option linter.unusedSimpArgs false

/-! ### hatstandlaw15_LinearAlone: function 4 -/
mutual
def hatstandlaw15_LinearAlone.j0 : Nat → List (S51) → Int → Int → Int → Bool → Bool → Option (Bool)
  | 0, _, _, _, _, _, _ => none
  | k + 1, x0, x1, x2, x3, x9, x29 => if x29 = true then (some x9) else ((hatstandlaw15_pick.f x1 4).bind fun t356 => ((hatstandlaw15_made.f k x0 t356).bind fun t357 => (hatstandlaw15_LinearAlone.l0 k x2 x3 t356 t357 ([] : List Int) 0)))
def hatstandlaw15_LinearAlone.l0 : Nat → Int → Int → Int → List (S30) → List Int → Int → Option (Bool)
  | 0, _, _, _, _, _, _ => none
  | k + 1, x2, x3, x10, x11, x12, x14 => if x14 < (x11.length : Int) then (if x12.length < 17592186044416 then (if 0 ≤ x14 then ((some (x11.set (x14 : Int).toNat (⟨(rd_T30 x11 x14).f0, (rd_T30 x11 x14).f1, (rd_T30 x11 x14).f2, (rd_T30 x11 x14).f3, wrap64 (10 * x14), (rd_T30 x11 x14).f5⟩ : S30) : List (S30))).bind fun y363 => (hatstandlaw15_LinearAlone.l0 k x2 x3 x10 (y363.set (x14 : Int).toNat (⟨(rd_T30 y363 x14).f0, (rd_T30 y363 x14).f1, (rd_T30 y363 x14).f2, (rd_T30 y363 x14).f3, (rd_T30 y363 x14).f4, wrap64 ((wrap64 (10 * x14)) + 5)⟩ : S30)) (x12 ++ [x14]) (wrap64 (x14 + 1)))) else (none)) else (none)) else (if (x11.length : Int) > 0 then (hatstandlaw15_LinearAlone.j2 k x2 x3 x10 x11 x12 ([] : List Int) ((Int.tmod x3 3) != 0)) else (hatstandlaw15_LinearAlone.j2 k x2 x3 x10 x11 x12 ([] : List Int) false))
def hatstandlaw15_LinearAlone.j2 : Nat → Int → Int → Int → List (S30) → List Int → List Int → Bool → Option (Bool)
  | 0, _, _, _, _, _, _, _ => none
  | k + 1, x2, x3, x10, x11, x12, x13, x66 => if x66 = true then ((hatstandlaw15_pick.f x2 (x11.length : Int)).bind fun t365 => (if (Int.tmod x3 3) = 1 then (if 0 ≤ t365 then (if t365 < (x11.length : Int) then (hatstandlaw15_LinearAlone.j3 k x10 (x11.set (t365 : Int).toNat (⟨(rd_T30 x11 t365).f0, (rd_T30 x11 t365).f1, IntKind.u64.wrap (((rd_T30 x11 t365).f2) + 1), (rd_T30 x11 t365).f3, (rd_T30 x11 t365).f4, (rd_T30 x11 t365).f5⟩ : S30)) x12 x13) else (none)) else (none)) else (if 0 ≤ t365 then (if t365 < (x11.length : Int) then (hatstandlaw15_LinearAlone.j3 k x10 (x11.set (t365 : Int).toNat (⟨(rd_T30 x11 t365).f0, (rd_T30 x11 t365).f1, (rd_T30 x11 t365).f2, 1, (rd_T30 x11 t365).f4, (rd_T30 x11 t365).f5⟩ : S30)) x12 x13) else (none)) else (none)))) else (hatstandlaw15_LinearAlone.j3 k x10 x11 x12 x13)
def hatstandlaw15_LinearAlone.j3 : Nat → Int → List (S30) → List Int → List Int → Option (Bool)
  | 0, _, _, _, _ => none
  | k + 1, x10, x11, x12, x13 => hatstandlaw15_LinearAlone.l1 k x10 x11 x12 x13 true 0
def hatstandlaw15_LinearAlone.l1 : Nat → Int → List (S30) → List Int → List Int → Bool → Int → Option (Bool)
  | 0, _, _, _, _, _, _ => none
  | k + 1, x10, x11, x12, x13, x16, x17 => if x17 < (x11.length : Int) then (hatstandlaw15_LinearAlone.j5 k x10 x11 x12 x13 x16 x17 x16) else (hatstandlaw15_LinearAlone.j5 k x10 x11 x12 x13 x16 x17 false)
def hatstandlaw15_LinearAlone.j5 : Nat → Int → List (S30) → List Int → List Int → Bool → Int → Bool → Option (Bool)
  | 0, _, _, _, _, _, _, _ => none
  | k + 1, x10, x11, x12, x13, x16, x17, x92 => if x92 = true then (if 0 ≤ x17 then (if x17 < (x11.length : Int) then ((hatstandref5_Do.f k x13 x10 ((rd_T30 x11 x17).f1) ((rd_T30 x11 x17).f2) ((rd_T30 x11 x17).f3)).bind fun bt372 => (hatstandlaw15_LinearAlone.l1 k x10 x11 x12 bt372.1 bt372.2 (wrap64 (x17 + 1)))) else (none)) else (none)) else ((linear_Find.f x11 x10).bind fun bt376 => ((linear_Fits.f k x11 x10 x12).bind fun t380 => (if (t380 == x16) = true then (if (bt376.2 == x16) = true then (if bt376.2 = true then ((hatstandref15_SameInts.f k bt376.1 x12).bind fun t381 => (if t381 = true then ((history_Alone.f k x11).bind fun t382 => (some t382)) else (some false))) else ((history_Alone.f k x11).bind fun t383 => (some t383))) else (some false)) else (some false))))
end
def hatstandlaw15_LinearAlone.f (k : Nat) (l0 : List (S51)) (a1 : Int) (a2 : Int) (a3 : Int) : Option (Bool) := (hatstandlaw15_shown.f k).bind fun t355 => (if t355 = true then (hatstandlaw15_LinearAlone.j0 k l0 a1 a2 a3 t355 (decide ((l0.length : Int) > 6))) else (hatstandlaw15_LinearAlone.j0 k l0 a1 a2 a3 t355 true))
theorem hatstandlaw15_LinearAlone.mono_l : ∀ k, (∀ y0 y1 y2 y3 y4 y5, LeO (hatstandlaw15_LinearAlone.j0 k y0 y1 y2 y3 y4 y5) (hatstandlaw15_LinearAlone.j0 (k + 1) y0 y1 y2 y3 y4 y5)) ∧ (∀ y0 y1 y2 y3 y4 y5, LeO (hatstandlaw15_LinearAlone.l0 k y0 y1 y2 y3 y4 y5) (hatstandlaw15_LinearAlone.l0 (k + 1) y0 y1 y2 y3 y4 y5)) ∧ (∀ y0 y1 y2 y3 y4 y5 y6, LeO (hatstandlaw15_LinearAlone.j2 k y0 y1 y2 y3 y4 y5 y6) (hatstandlaw15_LinearAlone.j2 (k + 1) y0 y1 y2 y3 y4 y5 y6)) ∧ (∀ y0 y1 y2 y3, LeO (hatstandlaw15_LinearAlone.j3 k y0 y1 y2 y3) (hatstandlaw15_LinearAlone.j3 (k + 1) y0 y1 y2 y3)) ∧ (∀ y0 y1 y2 y3 y4 y5, LeO (hatstandlaw15_LinearAlone.l1 k y0 y1 y2 y3 y4 y5) (hatstandlaw15_LinearAlone.l1 (k + 1) y0 y1 y2 y3 y4 y5)) ∧ (∀ y0 y1 y2 y3 y4 y5 y6, LeO (hatstandlaw15_LinearAlone.j5 k y0 y1 y2 y3 y4 y5 y6) (hatstandlaw15_LinearAlone.j5 (k + 1) y0 y1 y2 y3 y4 y5 y6))
  | 0 => ⟨fun _ _ _ _ _ _ r h => by simp [hatstandlaw15_LinearAlone.j0] at h, fun _ _ _ _ _ _ r h => by simp [hatstandlaw15_LinearAlone.l0] at h, fun _ _ _ _ _ _ _ r h => by simp [hatstandlaw15_LinearAlone.j2] at h, fun _ _ _ _ r h => by simp [hatstandlaw15_LinearAlone.j3] at h, fun _ _ _ _ _ _ r h => by simp [hatstandlaw15_LinearAlone.l1] at h, fun _ _ _ _ _ _ _ r h => by simp [hatstandlaw15_LinearAlone.j5] at h⟩
  | k + 1 => by
    obtain ⟨ih0, ih1, ih2, ih3, ih4, ih5⟩ := hatstandlaw15_LinearAlone.mono_l k
    refine ⟨?_, ?_, ?_, ?_, ?_, ?_⟩
    · intro y0 y1 y2 y3 y4 y5
      unfold hatstandlaw15_LinearAlone.j0
      repeat' first
      | (with_reducible exact ih0 _ _ _ _ _ _)
      | (with_reducible exact ih1 _ _ _ _ _ _)
      | (with_reducible exact ih2 _ _ _ _ _ _ _)
      | (with_reducible exact ih3 _ _ _ _)
      | (with_reducible exact ih4 _ _ _ _ _ _)
      | (with_reducible exact ih5 _ _ _ _ _ _ _)
      | (with_reducible exact hatstandlaw15_made.mono _ _ _)
      | (with_reducible exact hatstandlaw15_shown.mono _)
      | (with_reducible exact hatstandref15_SameInts.mono _ _ _)
      | (with_reducible exact hatstandref5_Do.mono _ _ _ _ _ _)
      | (with_reducible exact history_Alone.mono _ _)
      | (with_reducible exact linear_Fits.mono _ _ _ _)
      | (with_reducible exact LeO.refl _)
      | (with_reducible exact LeO.none _)
      | (with_reducible refine LeO.ite ?_ ?_)
      | (with_reducible refine LeO.bind ?_ (fun _ => ?_))
      | exact ih0 _ _ _ _ _ _
      | exact ih1 _ _ _ _ _ _
      | exact ih2 _ _ _ _ _ _ _
      | exact ih3 _ _ _ _
      | exact ih4 _ _ _ _ _ _
      | exact ih5 _ _ _ _ _ _ _
      | exact hatstandlaw15_made.mono _ _ _
      | exact hatstandlaw15_shown.mono _
      | exact hatstandref15_SameInts.mono _ _ _
      | exact hatstandref5_Do.mono _ _ _ _ _ _
      | exact history_Alone.mono _ _
      | exact linear_Fits.mono _ _ _ _
      | exact LeO.none _
      | refine LeO.ite ?_ ?_
      | refine LeO.bind ?_ (fun _ => ?_)
    · intro y0 y1 y2 y3 y4 y5
      unfold hatstandlaw15_LinearAlone.l0
      repeat' first
      | (with_reducible exact ih0 _ _ _ _ _ _)
      | (with_reducible exact ih1 _ _ _ _ _ _)
      | (with_reducible exact ih2 _ _ _ _ _ _ _)
      | (with_reducible exact ih3 _ _ _ _)
      | (with_reducible exact ih4 _ _ _ _ _ _)
      | (with_reducible exact ih5 _ _ _ _ _ _ _)
      | (with_reducible exact hatstandlaw15_made.mono _ _ _)
      | (with_reducible exact hatstandlaw15_shown.mono _)
      | (with_reducible exact hatstandref15_SameInts.mono _ _ _)
      | (with_reducible exact hatstandref5_Do.mono _ _ _ _ _ _)
      | (with_reducible exact history_Alone.mono _ _)
      | (with_reducible exact linear_Fits.mono _ _ _ _)
      | (with_reducible exact LeO.refl _)
      | (with_reducible exact LeO.none _)
      | (with_reducible refine LeO.ite ?_ ?_)
      | (with_reducible refine LeO.bind ?_ (fun _ => ?_))
      | exact ih0 _ _ _ _ _ _
      | exact ih1 _ _ _ _ _ _
      | exact ih2 _ _ _ _ _ _ _
      | exact ih3 _ _ _ _
      | exact ih4 _ _ _ _ _ _
      | exact ih5 _ _ _ _ _ _ _
      | exact hatstandlaw15_made.mono _ _ _
      | exact hatstandlaw15_shown.mono _
      | exact hatstandref15_SameInts.mono _ _ _
      | exact hatstandref5_Do.mono _ _ _ _ _ _
      | exact history_Alone.mono _ _
      | exact linear_Fits.mono _ _ _ _
      | exact LeO.none _
      | refine LeO.ite ?_ ?_
      | refine LeO.bind ?_ (fun _ => ?_)
    · intro y0 y1 y2 y3 y4 y5 y6
      unfold hatstandlaw15_LinearAlone.j2
      repeat' first
      | (with_reducible exact ih0 _ _ _ _ _ _)
      | (with_reducible exact ih1 _ _ _ _ _ _)
      | (with_reducible exact ih2 _ _ _ _ _ _ _)
      | (with_reducible exact ih3 _ _ _ _)
      | (with_reducible exact ih4 _ _ _ _ _ _)
      | (with_reducible exact ih5 _ _ _ _ _ _ _)
      | (with_reducible exact hatstandlaw15_made.mono _ _ _)
      | (with_reducible exact hatstandlaw15_shown.mono _)
      | (with_reducible exact hatstandref15_SameInts.mono _ _ _)
      | (with_reducible exact hatstandref5_Do.mono _ _ _ _ _ _)
      | (with_reducible exact history_Alone.mono _ _)
      | (with_reducible exact linear_Fits.mono _ _ _ _)
      | (with_reducible exact LeO.refl _)
      | (with_reducible exact LeO.none _)
      | (with_reducible refine LeO.ite ?_ ?_)
      | (with_reducible refine LeO.bind ?_ (fun _ => ?_))
      | exact ih0 _ _ _ _ _ _
      | exact ih1 _ _ _ _ _ _
      | exact ih2 _ _ _ _ _ _ _
      | exact ih3 _ _ _ _
      | exact ih4 _ _ _ _ _ _
      | exact ih5 _ _ _ _ _ _ _
      | exact hatstandlaw15_made.mono _ _ _
      | exact hatstandlaw15_shown.mono _
      | exact hatstandref15_SameInts.mono _ _ _
      | exact hatstandref5_Do.mono _ _ _ _ _ _
      | exact history_Alone.mono _ _
      | exact linear_Fits.mono _ _ _ _
      | exact LeO.none _
      | refine LeO.ite ?_ ?_
      | refine LeO.bind ?_ (fun _ => ?_)
    · intro y0 y1 y2 y3
      unfold hatstandlaw15_LinearAlone.j3
      repeat' first
      | (with_reducible exact ih0 _ _ _ _ _ _)
      | (with_reducible exact ih1 _ _ _ _ _ _)
      | (with_reducible exact ih2 _ _ _ _ _ _ _)
      | (with_reducible exact ih3 _ _ _ _)
      | (with_reducible exact ih4 _ _ _ _ _ _)
      | (with_reducible exact ih5 _ _ _ _ _ _ _)
      | (with_reducible exact hatstandlaw15_made.mono _ _ _)
      | (with_reducible exact hatstandlaw15_shown.mono _)
      | (with_reducible exact hatstandref15_SameInts.mono _ _ _)
      | (with_reducible exact hatstandref5_Do.mono _ _ _ _ _ _)
      | (with_reducible exact history_Alone.mono _ _)
      | (with_reducible exact linear_Fits.mono _ _ _ _)
      | (with_reducible exact LeO.refl _)
      | (with_reducible exact LeO.none _)
      | (with_reducible refine LeO.ite ?_ ?_)
      | (with_reducible refine LeO.bind ?_ (fun _ => ?_))
      | exact ih0 _ _ _ _ _ _
      | exact ih1 _ _ _ _ _ _
      | exact ih2 _ _ _ _ _ _ _
      | exact ih3 _ _ _ _
      | exact ih4 _ _ _ _ _ _
      | exact ih5 _ _ _ _ _ _ _
      | exact hatstandlaw15_made.mono _ _ _
      | exact hatstandlaw15_shown.mono _
      | exact hatstandref15_SameInts.mono _ _ _
      | exact hatstandref5_Do.mono _ _ _ _ _ _
      | exact history_Alone.mono _ _
      | exact linear_Fits.mono _ _ _ _
      | exact LeO.none _
      | refine LeO.ite ?_ ?_
      | refine LeO.bind ?_ (fun _ => ?_)
    · intro y0 y1 y2 y3 y4 y5
      unfold hatstandlaw15_LinearAlone.l1
      repeat' first
      | (with_reducible exact ih0 _ _ _ _ _ _)
      | (with_reducible exact ih1 _ _ _ _ _ _)
      | (with_reducible exact ih2 _ _ _ _ _ _ _)
      | (with_reducible exact ih3 _ _ _ _)
      | (with_reducible exact ih4 _ _ _ _ _ _)
      | (with_reducible exact ih5 _ _ _ _ _ _ _)
      | (with_reducible exact hatstandlaw15_made.mono _ _ _)
      | (with_reducible exact hatstandlaw15_shown.mono _)
      | (with_reducible exact hatstandref15_SameInts.mono _ _ _)
      | (with_reducible exact hatstandref5_Do.mono _ _ _ _ _ _)
      | (with_reducible exact history_Alone.mono _ _)
      | (with_reducible exact linear_Fits.mono _ _ _ _)
      | (with_reducible exact LeO.refl _)
      | (with_reducible exact LeO.none _)
      | (with_reducible refine LeO.ite ?_ ?_)
      | (with_reducible refine LeO.bind ?_ (fun _ => ?_))
      | exact ih0 _ _ _ _ _ _
      | exact ih1 _ _ _ _ _ _
      | exact ih2 _ _ _ _ _ _ _
      | exact ih3 _ _ _ _
      | exact ih4 _ _ _ _ _ _
      | exact ih5 _ _ _ _ _ _ _
      | exact hatstandlaw15_made.mono _ _ _
      | exact hatstandlaw15_shown.mono _
      | exact hatstandref15_SameInts.mono _ _ _
      | exact hatstandref5_Do.mono _ _ _ _ _ _
      | exact history_Alone.mono _ _
      | exact linear_Fits.mono _ _ _ _
      | exact LeO.none _
      | refine LeO.ite ?_ ?_
      | refine LeO.bind ?_ (fun _ => ?_)
    · intro y0 y1 y2 y3 y4 y5 y6
      unfold hatstandlaw15_LinearAlone.j5
      repeat' first
      | (with_reducible exact ih0 _ _ _ _ _ _)
      | (with_reducible exact ih1 _ _ _ _ _ _)
      | (with_reducible exact ih2 _ _ _ _ _ _ _)
      | (with_reducible exact ih3 _ _ _ _)
      | (with_reducible exact ih4 _ _ _ _ _ _)
      | (with_reducible exact ih5 _ _ _ _ _ _ _)
      | (with_reducible exact hatstandlaw15_made.mono _ _ _)
      | (with_reducible exact hatstandlaw15_shown.mono _)
      | (with_reducible exact hatstandref15_SameInts.mono _ _ _)
      | (with_reducible exact hatstandref5_Do.mono _ _ _ _ _ _)
      | (with_reducible exact history_Alone.mono _ _)
      | (with_reducible exact linear_Fits.mono _ _ _ _)
      | (with_reducible exact LeO.refl _)
      | (with_reducible exact LeO.none _)
      | (with_reducible refine LeO.ite ?_ ?_)
      | (with_reducible refine LeO.bind ?_ (fun _ => ?_))
      | exact ih0 _ _ _ _ _ _
      | exact ih1 _ _ _ _ _ _
      | exact ih2 _ _ _ _ _ _ _
      | exact ih3 _ _ _ _
      | exact ih4 _ _ _ _ _ _
      | exact ih5 _ _ _ _ _ _ _
      | exact hatstandlaw15_made.mono _ _ _
      | exact hatstandlaw15_shown.mono _
      | exact hatstandref15_SameInts.mono _ _ _
      | exact hatstandref5_Do.mono _ _ _ _ _ _
      | exact history_Alone.mono _ _
      | exact linear_Fits.mono _ _ _ _
      | exact LeO.none _
      | refine LeO.ite ?_ ?_
      | refine LeO.bind ?_ (fun _ => ?_)
theorem hatstandlaw15_LinearAlone.mono : ∀ a0 a1 a2 a3 k, LeO (hatstandlaw15_LinearAlone.f k a0 a1 a2 a3) (hatstandlaw15_LinearAlone.f (k + 1) a0 a1 a2 a3) := by
  intro a0 a1 a2 a3 k
  obtain ⟨ih0, ih1, ih2, ih3, ih4, ih5⟩ := hatstandlaw15_LinearAlone.mono_l k
  unfold hatstandlaw15_LinearAlone.f
  repeat' first
      | (with_reducible exact ih0 _ _ _ _ _ _)
      | (with_reducible exact ih1 _ _ _ _ _ _)
      | (with_reducible exact ih2 _ _ _ _ _ _ _)
      | (with_reducible exact ih3 _ _ _ _)
      | (with_reducible exact ih4 _ _ _ _ _ _)
      | (with_reducible exact ih5 _ _ _ _ _ _ _)
      | (with_reducible exact hatstandlaw15_made.mono _ _ _)
      | (with_reducible exact hatstandlaw15_shown.mono _)
      | (with_reducible exact hatstandref15_SameInts.mono _ _ _)
      | (with_reducible exact hatstandref5_Do.mono _ _ _ _ _ _)
      | (with_reducible exact history_Alone.mono _ _)
      | (with_reducible exact linear_Fits.mono _ _ _ _)
      | (with_reducible exact LeO.refl _)
      | (with_reducible exact LeO.none _)
      | (with_reducible refine LeO.ite ?_ ?_)
      | (with_reducible refine LeO.bind ?_ (fun _ => ?_))
      | exact ih0 _ _ _ _ _ _
      | exact ih1 _ _ _ _ _ _
      | exact ih2 _ _ _ _ _ _ _
      | exact ih3 _ _ _ _
      | exact ih4 _ _ _ _ _ _
      | exact ih5 _ _ _ _ _ _ _
      | exact hatstandlaw15_made.mono _ _ _
      | exact hatstandlaw15_shown.mono _
      | exact hatstandref15_SameInts.mono _ _ _
      | exact hatstandref5_Do.mono _ _ _ _ _ _
      | exact history_Alone.mono _ _
      | exact linear_Fits.mono _ _ _ _
      | exact LeO.none _
      | refine LeO.ite ?_ ?_
      | refine LeO.bind ?_ (fun _ => ?_)
def hatstandlaw15_LinearAlone.T23 : Bool × List (List Nat × List Nat) := (true, [([], []), ([], []), ([], []), ([], []), ([2, 3], [2, 3]), ([4], [4]), ([5], [5]), ([], []), ([], []), ([7, 8], [7, 8]), ([9], [9]), ([10], [10]), ([], []), ([], []), ([12, 13], [12, 13]), ([14], [14]), ([15], [15]), ([6, 11, 16], [6, 11, 16]), ([0, 1, 17], [0, 1, 17]), ([18], [18]), ([19], [19]), ([19], [19]), ([20, 18, 0, 1, 2, 3, 4, 5, 6, 7, 8, 9, 10, 11, 12, 13, 14, 15, 16, 17, 18, 19, 20], [20]), ([21, 22, 0, 1, 2, 3, 4, 5, 6, 7, 8, 9, 10, 11, 12, 13, 14, 15, 16, 17, 18, 19, 20, 21, 22], [21])])
def hatstandlaw15_LinearAlone.B23 : List Nat := [0, 0, 0, 0, 12, 28, 60, 0, 0, 384, 896, 1920, 0, 0, 12288, 28672, 61440, 131068, 262143, 524287, 1048575, 1048575, 2097151, 8388607]
theorem hatstandlaw15_LinearAlone.tab23 : rtab .any (opsOf Try.f4 23) = hatstandlaw15_LinearAlone.T23 := by kernel_rfl
theorem hatstandlaw15_LinearAlone.bits23 : waitsOk hatstandlaw15_LinearAlone.T23.2 hatstandlaw15_LinearAlone.B23 = true := by kernel_rfl
set_option maxHeartbeats 8000000 in
set_option maxRecDepth 100000 in
theorem hatstandlaw15_LinearAlone.calls (k : Nat) (A0 : Option Addr) (c0 : Nat) (l0 : List (S51)) (a1 : Int) (a2 : Int) (a3 : Int) (r : Bool) (w : World) (hr0 : Kd.C k51 w A0 l0.length l0) (hc0 : l0.length ≤ c0) (h : hatstandlaw15_LinearAlone.f k l0 a1 a2 a3 = some r) (ht_ : r = true) :
    Calls Try.prog 4 #[.slice A0 l0.length c0, .int .i64 a1, .int .i64 a2, .int .i64 a3] w fun e w' => e = .returned (.bool r) ∧ Below w.heap.size w w' := by
  have hu40 := Try.underlying40
  have HR0 := Aside0.mk hr0
  have HC0 := Aside0.mk hc0
  clear hr0 hc0
  have HB := Aside0.mk (Below.refl w.heap.size w)
  have HT0 := Aside0.mk ht_
  clear ht_
  have H : ((hatstandlaw15_shown.f k).bind fun t355 => (if t355 = true then (hatstandlaw15_LinearAlone.j0 k l0 a1 a2 a3 t355 (decide ((l0.length : Int) > 6))) else (hatstandlaw15_LinearAlone.j0 k l0 a1 a2 a3 t355 true))) = some r := h
  clear h
  replace H := Option.bind_eq_some_iff.mp H
  obtain ⟨t355, A50, H⟩ := H
  replace H : (if t355 = true then (hatstandlaw15_LinearAlone.j0 k l0 a1 a2 a3 t355 (decide ((l0.length : Int) > 6))) else (hatstandlaw15_LinearAlone.j0 k l0 a1 a2 a3 t355 true)) = some r := H
  have A5 := Aside0.mk A50
  clear A50
  have HC6 := Aside0.mk H
  clear H
  go_enter Try.func4, Try.ntmps4
  go_upto_region 2 with (first | ((with_reducible refine gate_callee (f := 9) rfl ?_); refine goesL_ (some 22) rfl rfl Try.func9 (by kernel_rfl) rfl #[] rfl (by (try simp only [List.map_toArray, List.map_cons, List.map_nil]); first | done | rfl | (simp only [List.length_drop, List.length_take]; rfl)) ?_; (with_reducible refine (hatstandlaw15_shown.calls k  t355 _ A5.out).mono ?_); rintro e w7 ⟨rfl, hb⟩; refine ⟨_, rfl, ?_⟩; have n0_ := Aside0.mk (below_step (by repeat (first | (with_reducible first | exact HB.out | apply below_alloc | apply pw_below_drewN | apply below_drew1) | exact HB.out)) hb); clear HB; have HB := n0_; clear n0_; (try clear hb); (try clear hb2); (try clear hk); (try clear hi)))
  (try simp only [Act.put, List.setIfInBounds_toArray, List.set_cons_zero, List.set_cons_succ])
  go_cut [29] (fun v29 wc => ∃ (kq : Nat) (x29_5 : Bool), v29 = .bool x29_5 ∧ Aside0 (hatstandlaw15_LinearAlone.j0 kq l0 a1 a2 a3 t355 x29_5 = some r) ∧ Aside0 (kq ≤ k) ∧ Aside0 (Below w.heap.size w wc))
  case first =>
    have H := HC6.out
    clear HC6
    by_cases c8 : t355 = true
    · subst c8
      have H1 : (hatstandlaw15_LinearAlone.j0 k l0 a1 a2 a3 true (decide ((l0.length : Int) > 6))) = some r := by rw [if_pos rfl] at H; exact H
      clear H
      have H := H1
      clear H1
      have H' := Aside0.mk H
      clear H
      go_wp2
      go_meet
      case rel => exact ⟨_, (decide ((l0.length : Int) > 6)), (by first | rfl | (simp; done) | (simp [*]; done)), H', ⟨by first | omega | exact Nat.le_refl _⟩, ⟨by repeat (first | (with_reducible first | exact HB.out | apply below_alloc | apply pw_below_drewN | apply below_drew1) | exact HB.out)⟩⟩
    · replace c8 := Bool.eq_false_iff.mpr c8
      subst c8
      have H1 : (hatstandlaw15_LinearAlone.j0 k l0 a1 a2 a3 false true) = some r := by rw [if_neg (show ¬ (false = true) by decide)] at H; exact H
      clear H
      have H := H1
      clear H1
      have H' := Aside0.mk H
      clear H
      go_wp2
      go_meet
      case rel => exact ⟨_, (true), (by first | rfl | (simp; done) | (simp [*]; done)), H', ⟨by first | omega | exact Nat.le_refl _⟩, ⟨by repeat (first | (with_reducible first | exact HB.out | apply below_alloc | apply pw_below_drewN | apply below_drew1) | exact HB.out)⟩⟩
  case rest =>
    clear HC6
    try clear p2
    try clear c4
    try clear c8
    obtain ⟨kq, x29_5, rfl, HA, HJ5, HB⟩ := hcut
    cases kq with
    | zero => exact absurd HA.out (by simp [hatstandlaw15_LinearAlone.j0])
    | succ kj5 =>
      have H := HA.out
      clear HA
      simp only [hatstandlaw15_LinearAlone.j0] at H
      by_cases c9 : x29_5 = true
      · subst c9
        have H1 : (some t355) = some r := by rw [if_pos rfl] at H; exact H
        clear H
        have H := H1
        clear H1
        obtain rfl := Option.some.inj H
        go_wp2
        go_ret
        exact ⟨by first | rfl | (simp [errW_none, errW_some] <;> rfl) | (simp [*, errW_none, errW_some] <;> rfl), by repeat (first | (with_reducible first | exact HB.out | apply below_alloc | apply pw_below_drewN | apply below_drew1) | exact HB.out)⟩
      · replace c9 := Bool.eq_false_iff.mpr c9
        subst c9
        have H1 : ((hatstandlaw15_pick.f a1 4).bind fun t356 => ((hatstandlaw15_made.f kj5 l0 t356).bind fun t357 => (hatstandlaw15_LinearAlone.l0 kj5 a2 a3 t356 t357 ([] : List Int) 0))) = some r := by rw [if_neg (show ¬ (false = true) by decide)] at H; exact H
        clear H
        have H := H1
        clear H1
        replace H := Option.bind_eq_some_iff.mp H
        obtain ⟨t356, A100, H⟩ := H
        replace H : ((hatstandlaw15_made.f kj5 l0 t356).bind fun t357 => (hatstandlaw15_LinearAlone.l0 kj5 a2 a3 t356 t357 ([] : List Int) 0)) = some r := H
        have A10 := Aside0.mk A100
        clear A100
        replace H := Option.bind_eq_some_iff.mp H
        obtain ⟨t357, A110, H⟩ := H
        replace H : (hatstandlaw15_LinearAlone.l0 kj5 a2 a3 t356 t357 ([] : List Int) 0) = some r := H
        have A11 := Aside0.mk A110
        clear A110
        have H' := Aside0.mk H
        clear H
        go_wp2_with (first | ((with_reducible refine gate_callee (f := 10) rfl ?_); refine goesL_ (some 32) rfl rfl Try.func10 (by kernel_rfl) rfl #[.int .i64 a1, .int .i64 4] rfl (by (try simp only [List.map_toArray, List.map_cons, List.map_nil]); first | done | rfl | (simp only [List.length_drop, List.length_take]; rfl)) ?_; (with_reducible refine (hatstandlaw15_pick.calls a1 4 t356 _ A10.out).mono ?_); rintro e w' ⟨rfl, ⟨nd, rfl⟩⟩; refine ⟨_, rfl, ?_⟩) | ((with_reducible refine gate_callee (f := 11) rfl ?_); refine goesL_ (some 35) rfl rfl Try.func11 (by kernel_rfl) rfl #[.slice A0 l0.length c0, .int .i64 t356] rfl (by (try simp only [List.map_toArray, List.map_cons, List.map_nil]); first | done | rfl | (simp only [List.length_drop, List.length_take]; rfl)) ?_; (with_reducible refine (hatstandlaw15_made.calls kj5 _ _ l0 t356 t357 _ ?side1 ?side2 A11.out).mono ?_); (case side1 => repeat (first | exact (Kd.C_below HR0.out (by repeat (first | (with_reducible first | exact HB.out | apply below_alloc | apply pw_below_drewN | apply below_drew1) | exact HB.out))) | (with_reducible refine Kd.C_alloc ?_ _) | (with_reducible refine Kd.C_drewN ?_ _) | (with_reducible refine Kd.C_drew ?_))); (case side2 => exact HC0.out); rintro e w12 ⟨v358, rfl, ho0, hb⟩; refine ⟨_, rfl, ?_⟩; have n0_ := Aside0.mk (Kd.R_lower ho0 (below_size (by repeat (first | (with_reducible first | exact HB.out | apply below_alloc | apply pw_below_drewN | apply below_drew1) | exact HB.out)))); have n1_ := Aside0.mk (below_step (by repeat (first | (with_reducible first | exact HB.out | apply below_alloc | apply pw_below_drewN | apply below_drew1) | exact HB.out)) hb); clear HB; have HO359 := n0_; have HB := n1_; clear n0_ n1_; (try clear hb); (try clear hb2); (try clear hk); (try clear hi); (try clear ho0)))
        go_loopg [12, 14] kj5 (fun kq v12 v14 w' => ∃ (x11_2 : List (S30)) (x12_2 : List Int) (x14_2 : Int), v14 = .int .i64 x14_2 ∧ Aside0 (hatstandlaw15_LinearAlone.l0 kq a2 a3 t356 x11_2 x12_2 x14_2 = some r) ∧ Aside0 (kq ≤ kj5) ∧ Aside0 (Kd.R k30 30 w' w.heap.size (fun _ => True) v358 x11_2) ∧ Aside0 (Kd.R (Kd.int .i64) 3 w' w.heap.size (fun _ => True) v12 x12_2) ∧ Aside0 (Below w.heap.size w w'))
        case atStart => exact ⟨(t357), (([] : List Int)), (0), (by first | rfl | (simp; done) | (simp [*]; done)), H', ⟨Nat.le_refl _⟩, ⟨by (with_reducible repeat (first | apply Kd.R_alloc | apply Kd.R_drewN | apply Kd.R_drew)); exact HO359.out⟩, ⟨by first | exact Kd.R_nil _ _ _ _ _ | exact Kd.N_nil _ _ _ _ _ | exact Kd.V_nil _ _ _ _ _ | exact Kd.Q_nil _ _ _ _ _ | exact Kd.S_nil _ _ _ _ _⟩, ⟨by repeat (first | (with_reducible first | exact HB.out | apply below_alloc | apply pw_below_drewN | apply below_drew1) | exact HB.out)⟩⟩
        case round =>
          clear H'
          try clear c1
          try clear p2
          try clear c4
          try clear c8
          try clear c9
          try clear c10
          try clear c11
          try clear p2
          obtain ⟨x11_2, x12_2, x14_2, rfl, HA, HK2, HO_11, HO_12, HB⟩ := hrel
          cases gk with
          | zero => exact absurd HA.out (by simp [hatstandlaw15_LinearAlone.l0])
          | succ k2 =>
            have H := HA.out
            clear HA
            simp only [hatstandlaw15_LinearAlone.l0] at H
            by_cases c13 : x14_2 < (x11_2.length : Int)
            · rw [if_pos c13] at H
              have c13b0 : decide (x14_2 < (x11_2.length : Int)) = true := decide_eq_true c13
              clear c13
              by_cases c14 : x12_2.length < 17592186044416
              · rw [if_pos c14] at H
                have LMc14 := Aside0.mk c14
                clear c14
                obtain ⟨y360, hy360⟩ : ∃ y_ : List Int, y_ = (x12_2 ++ [x14_2]) := ⟨_, rfl⟩
                replace H : (if 0 ≤ x14_2 then ((some (x11_2.set (x14_2 : Int).toNat (⟨(rd_T30 x11_2 x14_2).f0, (rd_T30 x11_2 x14_2).f1, (rd_T30 x11_2 x14_2).f2, (rd_T30 x11_2 x14_2).f3, wrap64 (10 * x14_2), (rd_T30 x11_2 x14_2).f5⟩ : S30) : List (S30))).bind fun y363 => (hatstandlaw15_LinearAlone.l0 k2 a2 a3 t356 (y363.set (x14_2 : Int).toNat (⟨(rd_T30 y363 x14_2).f0, (rd_T30 y363 x14_2).f1, (rd_T30 y363 x14_2).f2, (rd_T30 y363 x14_2).f3, (rd_T30 y363 x14_2).f4, wrap64 ((wrap64 (10 * x14_2)) + 5)⟩ : S30)) y360 (wrap64 (x14_2 + 1)))) else (none)) = some r := by first | (rw [hy360]; with_reducible exact H) | (have H2_ := (Option.bind_some _ _).symm.trans H; rw [hy360]; with_reducible exact H2_) | (have H2_ := (Option.bind_some _ _).symm.trans H; with_reducible exact H2_) | with_reducible exact H | (rw [hy360]; exact H) | exact H
                have Ny360 := Aside0.mk hy360
                clear hy360
                by_cases c15 : 0 ≤ x14_2
                · rw [if_pos c15] at H
                  have c15b0 : decide (0 ≤ x14_2) = true := decide_eq_true c15
                  clear c15
                  obtain ⟨y363, hy363⟩ : ∃ y_ : List (S30), y_ = (x11_2.set (x14_2 : Int).toNat (⟨(rd_T30 x11_2 x14_2).f0, (rd_T30 x11_2 x14_2).f1, (rd_T30 x11_2 x14_2).f2, (rd_T30 x11_2 x14_2).f3, wrap64 (10 * x14_2), (rd_T30 x11_2 x14_2).f5⟩ : S30)) := ⟨_, rfl⟩
                  replace H : (hatstandlaw15_LinearAlone.l0 k2 a2 a3 t356 (y363.set (x14_2 : Int).toNat (⟨(rd_T30 y363 x14_2).f0, (rd_T30 y363 x14_2).f1, (rd_T30 y363 x14_2).f2, (rd_T30 y363 x14_2).f3, (rd_T30 y363 x14_2).f4, wrap64 ((wrap64 (10 * x14_2)) + 5)⟩ : S30)) y360 (wrap64 (x14_2 + 1))) = some r := by first | (rw [hy363]; with_reducible exact H) | (have H2_ := (Option.bind_some _ _).symm.trans H; rw [hy363]; with_reducible exact H2_) | (have H2_ := (Option.bind_some _ _).symm.trans H; with_reducible exact H2_) | with_reducible exact H | (rw [hy363]; exact H) | exact H
                  have Ny363 := Aside0.mk hy363
                  clear hy363
                  obtain ⟨y364, hy364⟩ : ∃ y_ : List (S30), y_ = (y363.set (x14_2 : Int).toNat (⟨(rd_T30 y363 x14_2).f0, (rd_T30 y363 x14_2).f1, (rd_T30 y363 x14_2).f2, (rd_T30 y363 x14_2).f3, (rd_T30 y363 x14_2).f4, wrap64 ((wrap64 (10 * x14_2)) + 5)⟩ : S30)) := ⟨_, rfl⟩
                  replace H : (hatstandlaw15_LinearAlone.l0 k2 a2 a3 t356 y364 y360 (wrap64 (x14_2 + 1))) = some r := by first | (rw [hy364]; with_reducible exact H) | (have H2_ := (Option.bind_some _ _).symm.trans H; rw [hy364]; with_reducible exact H2_) | (have H2_ := (Option.bind_some _ _).symm.trans H; with_reducible exact H2_) | with_reducible exact H | (rw [hy364]; exact H) | exact H
                  have Ny364 := Aside0.mk hy364
                  clear hy364
                  have H' := Aside0.mk H
                  clear H
                  obtain ⟨Ao18, co18, eo18⟩ := Kd.R_slice HO_11.out
                  subst eo18
                  go_wp2_with (first | ((with_reducible refine gate_builtin (b := .append) (xs := #[.tmp 42, .tmp 44]) rfl ?_); (try (refine gate_guard (by rfl) ?_; dsimp only)); at_builtin; refine Kd.R_append (Kd.int .i64) (w0 := w) w.heap.size rfl (.tmp 42) (.tmp 44) 31 3 (.int .i64 0) 8 rfl Try.underlying31 info3 rfl (by decide) (by omega) u12 x12_2 x14_2 [.int .i64 x14_2] (fun _ => True) (fun _ => False) rfl rfl ?aP (fun _ hk => hk.elim) ?aF ?aO ?aB ?aS ?aL ?_; (case aP => exact rfl); (case aB => exact (by repeat (first | (with_reducible first | exact HB.out | apply below_alloc | apply pw_below_drewN | apply below_drew1) | exact HB.out))); (case aF => exact (fun _ _ => trivial)); (case aO => exact (by (with_reducible repeat (first | apply Kd.R_alloc | apply Kd.R_drewN | apply Kd.R_drew)); exact HO_12.out)); (case aS => exact (below_size (by repeat (first | (with_reducible first | exact HB.out | apply below_alloc | apply pw_below_drewN | apply below_drew1) | exact HB.out)))); (case aL => have := LMc14.out; omega); intro v361 w19 ho hb hg hat; rw [← Ny360.out] at ho; have n0_ := Aside0.mk (Kd.R_over' (by (with_reducible repeat (first | apply Kd.R_alloc | apply Kd.R_drewN | apply Kd.R_drew)); exact HO_11.out) (Kd.R_typed (by (with_reducible repeat (first | apply Kd.R_alloc | apply Kd.R_drewN | apply Kd.R_drew)); exact HO_12.out)) (by decide) hg); have n1_ := Aside0.mk (hb); have n2_ := Aside0.mk (ho); clear HO_11; clear HB; clear HO_12; have HO_11 := n0_; have HB := n1_; have HO362 := n2_; clear n0_ n1_ n2_; clear ho hb hg hat; have p16 : 0 ≤ (x14_2 : Int) := of_decide_eq_true (by first | (with_reducible assumption) | assumption); have q16 : (x14_2 : Int) < ((x11_2.length : Int) : Int) := of_decide_eq_true (by first | (with_reducible assumption) | assumption); obtain ⟨go16, co16, eo16, gb16, gl16, cl16, HG16⟩ := Kd.R_form HO_11.out (by omega); (first | cases eo16 | (injection eo16 with ea_ en_ ec_; (first | subst ea_ | (injection ea_ with ea_; subst ea_)); subst ec_; clear en_)); have GB16 := Aside0.mk gb16; have GG16 := Aside0.mk HG16; clear gb16 gl16 HG16; obtain ⟨ce16, hcl16, hM16, hcc16, hfr16⟩ := Kd.R_elem HO_11.out z30 (x14_2 : Int) p16 q16; obtain rfl := k30_openM hM16; have hx16_0 : w19.cell? ⟨go16, (x14_2 : Int).toNat * 6, none⟩ = some (.int .i64 ((rd_T30 x11_2 x14_2).f0)) := hcc16 0 _ rfl; have hx16_1 : w19.cell? ⟨go16, (x14_2 : Int).toNat * 6 + 1, none⟩ = some (.bool ((rd_T30 x11_2 x14_2).f1)) := hcc16 1 _ rfl; have hx16_2 : w19.cell? ⟨go16, (x14_2 : Int).toNat * 6 + 2, none⟩ = some (.int .u64 ((rd_T30 x11_2 x14_2).f2)) := hcc16 2 _ rfl; have hx16_3 : w19.cell? ⟨go16, (x14_2 : Int).toNat * 6 + 3, none⟩ = some (.int .i64 ((rd_T30 x11_2 x14_2).f3)) := hcc16 3 _ rfl; have hx16_4 : w19.cell? ⟨go16, (x14_2 : Int).toNat * 6 + 4, none⟩ = some (.int .i64 ((rd_T30 x11_2 x14_2).f4)) := hcc16 4 _ rfl; have hx16_5 : w19.cell? ⟨go16, (x14_2 : Int).toNat * 6 + 5, none⟩ = some (.int .i64 ((rd_T30 x11_2 x14_2).f5)) := hcc16 5 _ rfl; have hf16_0 : w19.frozen? ⟨go16, (x14_2 : Int).toNat * 6, none⟩ = false := hfr16 0; have hf16_1 : w19.frozen? ⟨go16, (x14_2 : Int).toNat * 6 + 1, none⟩ = false := hfr16 1; have hf16_2 : w19.frozen? ⟨go16, (x14_2 : Int).toNat * 6 + 2, none⟩ = false := hfr16 2; have hf16_3 : w19.frozen? ⟨go16, (x14_2 : Int).toNat * 6 + 3, none⟩ = false := hfr16 3; have hf16_4 : w19.frozen? ⟨go16, (x14_2 : Int).toNat * 6 + 4, none⟩ = false := hfr16 4; have hf16_5 : w19.frozen? ⟨go16, (x14_2 : Int).toNat * 6 + 5, none⟩ = false := hfr16 5; clear hcl16 hcc16 hfr16 hM16; replace p16 := eq_true p16; replace q16 := eq_true q16; have HX20 := Aside0.mk (show Kd.R k30 30 w19 w.heap.size (fun _ => True) (.slice (some ⟨go16, 0, none⟩) x11_2.length co18) x11_2 from (by (with_reducible repeat (first | apply Kd.R_alloc | apply Kd.R_drewN | apply Kd.R_drew)); exact HO_11.out)); obtain ⟨ce20, hcl20, hM20, hcc20, hfr20⟩ := Kd.R_elem HX20.out z30 (x14_2 : Int) (of_decide_eq_true (by first | (with_reducible assumption) | assumption)) (by have h_ : (x14_2 : Int) < ((x11_2.length : Int) : Int) := of_decide_eq_true (by first | (with_reducible assumption) | assumption); first | exact h_ | (have e_ := (Kd.R_reads' HO_11.out).1; omega) | simpa using h_); obtain rfl := k30_openM hM20; have HP20 := Kd.R_seg HX20.out (x14_2 : Int) (of_decide_eq_true (by first | (with_reducible assumption) | assumption)) (by have h_ : (x14_2 : Int) < ((x11_2.length : Int) : Int) := of_decide_eq_true (by first | (with_reducible assumption) | assumption); first | exact h_ | (have e_ := (Kd.R_reads' HO_11.out).1; omega) | simpa using h_) (seg := [.int .i64 (wrap64 (10 * x14_2))]) (j := 4) hcl20 hcc20 (show 5 ≤ 6 from by decide) (x' := (⟨(rd_T30 x11_2 x14_2).f0, (rd_T30 x11_2 x14_2).f1, (rd_T30 x11_2 x14_2).f2, (rd_T30 x11_2 x14_2).f3, wrap64 (10 * x14_2), (rd_T30 x11_2 x14_2).f5⟩ : S30)) (k30_mkM _ _ _ (⟨(rd_T30 x11_2 x14_2).f0, (rd_T30 x11_2 x14_2).f1, (rd_T30 x11_2 x14_2).f2, (rd_T30 x11_2 x14_2).f3, wrap64 (10 * x14_2), (rd_T30 x11_2 x14_2).f5⟩ : S30) ) (fun _ hk => hk); have hx20_4 := hcc20 4 _ rfl; (try simp only [show (k30).sz = 6 from rfl, Nat.mul_one, Nat.add_zero] at hx20_4); have hf20_4 := hfr20 4; (try simp only [show (k30).sz = 6 from rfl, Nat.mul_one, Nat.add_zero] at hf20_4); clear hcl20 hcc20 hfr20 hM20) | ((with_reducible refine gate_store (t := 3) (p := 51) rfl ?_); refine store_event (t := 3) (p := 51) (v := ?vo_w21) (w1 := (w19.setCell ⟨go16, (x14_2 : Int).toNat * 6 + 4, none⟩ (.int .i64 (wrap64 (10 * x14_2))))) ?hg ?ho ?hn ?hr ?_; (case ho => rfl); (case hg => rfl); (case hn => rfl); (case hr => first | (go_simp; done) | (go_simp; rfl)); intro w21 hw; have hg : w19.grownBy w21 (some go16) := (by rw [hw]; exact HP20.2); have hp_ : Kd.R k30 30 w21 w.heap.size (fun _ => True) (.slice (some ⟨go16, 0, none⟩) x11_2.length co18) y363 := (by rw [hw, Ny363.out]; exact HP20.1); clear HP20; have n0_ := Aside0.mk (hp_); have n1_ := Aside0.mk (Kd.R_over' (v := (.slice (some ⟨go16, 0, none⟩) x11_2.length co18)) (by (with_reducible repeat (first | apply Kd.R_alloc | apply Kd.R_drewN | apply Kd.R_drew)); exact HO362.out) (Kd.R_typed HO_11.out) (by decide) hg); have n2_ := Aside0.mk ((by rw [hw]; exact below_set (HB.out) GB16.out : Below w.heap.size w w21)); clear HO_11; clear HO362; clear HB; have HO_11 := n0_; have HO362 := n1_; have HB := n2_; clear n0_ n1_ n2_; clear hg hw hp_; have p17 : 0 ≤ (x14_2 : Int) := of_decide_eq_true (by first | (with_reducible assumption) | assumption); have q17 : (x14_2 : Int) < ((x11_2.length : Int) : Int) := of_decide_eq_true (by first | (with_reducible assumption) | assumption); obtain ⟨ce17, hcl17, hM17, hcc17, hfr17⟩ := Kd.R_elem HO_11.out z30 (x14_2 : Int) p17 q17; obtain rfl := k30_openM hM17; have hx17_0 : w21.cell? ⟨go16, (x14_2 : Int).toNat * 6, none⟩ = some (.int .i64 ((rd_T30 y363 x14_2).f0)) := hcc17 0 _ rfl; have hx17_1 : w21.cell? ⟨go16, (x14_2 : Int).toNat * 6 + 1, none⟩ = some (.bool ((rd_T30 y363 x14_2).f1)) := hcc17 1 _ rfl; have hx17_2 : w21.cell? ⟨go16, (x14_2 : Int).toNat * 6 + 2, none⟩ = some (.int .u64 ((rd_T30 y363 x14_2).f2)) := hcc17 2 _ rfl; have hx17_3 : w21.cell? ⟨go16, (x14_2 : Int).toNat * 6 + 3, none⟩ = some (.int .i64 ((rd_T30 y363 x14_2).f3)) := hcc17 3 _ rfl; have hx17_4 : w21.cell? ⟨go16, (x14_2 : Int).toNat * 6 + 4, none⟩ = some (.int .i64 ((rd_T30 y363 x14_2).f4)) := hcc17 4 _ rfl; have hx17_5 : w21.cell? ⟨go16, (x14_2 : Int).toNat * 6 + 5, none⟩ = some (.int .i64 ((rd_T30 y363 x14_2).f5)) := hcc17 5 _ rfl; have hf17_0 : w21.frozen? ⟨go16, (x14_2 : Int).toNat * 6, none⟩ = false := hfr17 0; have hf17_1 : w21.frozen? ⟨go16, (x14_2 : Int).toNat * 6 + 1, none⟩ = false := hfr17 1; have hf17_2 : w21.frozen? ⟨go16, (x14_2 : Int).toNat * 6 + 2, none⟩ = false := hfr17 2; have hf17_3 : w21.frozen? ⟨go16, (x14_2 : Int).toNat * 6 + 3, none⟩ = false := hfr17 3; have hf17_4 : w21.frozen? ⟨go16, (x14_2 : Int).toNat * 6 + 4, none⟩ = false := hfr17 4; have hf17_5 : w21.frozen? ⟨go16, (x14_2 : Int).toNat * 6 + 5, none⟩ = false := hfr17 5; clear hcl17 hcc17 hfr17 hM17; replace p17 := eq_true p17; replace q17 := eq_true q17; have HX22 := Aside0.mk (show Kd.R k30 30 w21 w.heap.size (fun _ => True) (.slice (some ⟨go16, 0, none⟩) x11_2.length co18) y363 from (by (with_reducible repeat (first | apply Kd.R_alloc | apply Kd.R_drewN | apply Kd.R_drew)); exact HO_11.out)); obtain ⟨ce22, hcl22, hM22, hcc22, hfr22⟩ := Kd.R_elem HX22.out z30 (x14_2 : Int) (of_decide_eq_true (by first | (with_reducible assumption) | assumption)) (by have h_ : (x14_2 : Int) < ((x11_2.length : Int) : Int) := of_decide_eq_true (by first | (with_reducible assumption) | assumption); first | exact h_ | (have e_ := (Kd.R_reads' HO_11.out).1; omega) | simpa using h_); obtain rfl := k30_openM hM22; have HP22 := Kd.R_seg HX22.out (x14_2 : Int) (of_decide_eq_true (by first | (with_reducible assumption) | assumption)) (by have h_ : (x14_2 : Int) < ((x11_2.length : Int) : Int) := of_decide_eq_true (by first | (with_reducible assumption) | assumption); first | exact h_ | (have e_ := (Kd.R_reads' HO_11.out).1; omega) | simpa using h_) (seg := [.int .i64 (wrap64 ((wrap64 (10 * x14_2)) + 5))]) (j := 5) hcl22 hcc22 (show 6 ≤ 6 from by decide) (x' := (⟨(rd_T30 y363 x14_2).f0, (rd_T30 y363 x14_2).f1, (rd_T30 y363 x14_2).f2, (rd_T30 y363 x14_2).f3, (rd_T30 y363 x14_2).f4, wrap64 ((wrap64 (10 * x14_2)) + 5)⟩ : S30)) (k30_mkM _ _ _ (⟨(rd_T30 y363 x14_2).f0, (rd_T30 y363 x14_2).f1, (rd_T30 y363 x14_2).f2, (rd_T30 y363 x14_2).f3, (rd_T30 y363 x14_2).f4, wrap64 ((wrap64 (10 * x14_2)) + 5)⟩ : S30) ) (fun _ hk => hk); have hx22_5 := hcc22 5 _ rfl; (try simp only [show (k30).sz = 6 from rfl, Nat.mul_one, Nat.add_zero] at hx22_5); have hf22_5 := hfr22 5; (try simp only [show (k30).sz = 6 from rfl, Nat.mul_one, Nat.add_zero] at hf22_5); clear hcl22 hcc22 hfr22 hM22) | ((with_reducible refine gate_store (t := 3) (p := 58) rfl ?_); refine store_event (t := 3) (p := 58) (v := ?vo_w23) (w1 := (w21.setCell ⟨go16, (x14_2 : Int).toNat * 6 + 5, none⟩ (.int .i64 (wrap64 ((wrap64 (10 * x14_2)) + 5))))) ?hg ?ho ?hn ?hr ?_; (case ho => rfl); (case hg => rfl); (case hn => rfl); (case hr => first | (go_simp; done) | (go_simp; rfl)); intro w23 hw; have hg : w21.grownBy w23 (some go16) := (by rw [hw]; exact HP22.2); have hp_ : Kd.R k30 30 w23 w.heap.size (fun _ => True) (.slice (some ⟨go16, 0, none⟩) x11_2.length co18) y364 := (by rw [hw, Ny364.out]; exact HP22.1); clear HP22; have n0_ := Aside0.mk (hp_); have n1_ := Aside0.mk (Kd.R_over' (v := (.slice (some ⟨go16, 0, none⟩) x11_2.length co18)) (by (with_reducible repeat (first | apply Kd.R_alloc | apply Kd.R_drewN | apply Kd.R_drew)); exact HO362.out) (Kd.R_typed HO_11.out) (by decide) hg); have n2_ := Aside0.mk ((by rw [hw]; exact below_set (HB.out) GB16.out : Below w.heap.size w w23)); clear HO_11; clear HO362; clear HB; have HO_11 := n0_; have HO362 := n1_; have HB := n2_; clear n0_ n1_ n2_; clear hg hw hp_))
                  go_roundg k2
                  case measure => have := HJ5.out; have := HK2.out; omega
                  case rel => exact ⟨(y364), (y360), (wrap64 (x14_2 + 1)), (by first | rfl | (simp; done) | (simp [*]; done)), H', ⟨by have := HJ5.out; have := HK2.out; omega⟩, ⟨by (with_reducible repeat (first | apply Kd.R_alloc | apply Kd.R_drewN | apply Kd.R_drew)); exact HO_11.out⟩, ⟨by (with_reducible repeat (first | apply Kd.R_alloc | apply Kd.R_drewN | apply Kd.R_drew)); exact HO362.out⟩, ⟨by repeat (first | (with_reducible first | exact HB.out | apply below_alloc | apply pw_below_drewN | apply below_drew1) | exact HB.out)⟩⟩
                · rw [if_neg c15] at H
                  exact absurd H (by simp)
              · rw [if_neg c14] at H
                exact absurd H (by simp)
            · rw [if_neg c13] at H
              have c13b0 : decide (x14_2 < (x11_2.length : Int)) = false := decide_eq_false c13
              clear c13
              have HC24 := Aside0.mk H
              clear H
              obtain ⟨Ao25, co25, eo25⟩ := Kd.R_slice HO_11.out
              subst eo25
              go_upto_region 14 with (fail)
              go_cut [66] (fun v66 wc => ∃ (kq : Nat) (x66_23 : Bool), v66 = .bool x66_23 ∧ Aside0 (hatstandlaw15_LinearAlone.j2 kq a2 a3 t356 x11_2 x12_2 ([] : List Int) x66_23 = some r) ∧ Aside0 (kq ≤ k2) ∧ Aside0 (Kd.R k30 30 wc w.heap.size (fun _ => True) (.slice Ao25 x11_2.length co25) x11_2) ∧ Aside0 (Kd.R (Kd.int .i64) 3 wc w.heap.size (fun _ => True) u12 x12_2) ∧ Aside0 (Kd.R (Kd.int .u64) 27 wc w.heap.size (fun _ => True) (.slice none 0 0) ([] : List Int)) ∧ Aside0 (Below w.heap.size w wc))
              case first =>
                have H := HC24.out
                clear HC24
                by_cases c26 : (x11_2.length : Int) > 0
                · rw [if_pos c26] at H
                  have c26b0 : decide (0 < (x11_2.length : Int)) = true := decide_eq_true c26
                  have c26b1 : decide (0 < x11_2.length) = true := decide_eq_true (by omega)
                  clear c26
                  (first | rw [c26b0] | (simp only [i64_w, i32_w, Go.IntKind.wrap_u32]; rw [c26b0]) | skip)
                  have H' := Aside0.mk H
                  clear H
                  go_wp2
                  go_meet
                  case rel => exact ⟨_, (((Int.tmod a3 3) != 0)), (by first | rfl | (simp; done) | (simp [*]; done)), H', ⟨by have := HJ5.out; have := HK2.out; first | omega | exact Nat.le_refl _⟩, ⟨by (with_reducible repeat (first | apply Kd.R_alloc | apply Kd.R_drewN | apply Kd.R_drew)); exact HO_11.out⟩, ⟨by (with_reducible repeat (first | apply Kd.R_alloc | apply Kd.R_drewN | apply Kd.R_drew)); exact HO_12.out⟩, ⟨by first | exact Kd.R_nil _ _ _ _ _ | exact Kd.N_nil _ _ _ _ _ | exact Kd.V_nil _ _ _ _ _ | exact Kd.Q_nil _ _ _ _ _ | exact Kd.S_nil _ _ _ _ _⟩, ⟨by repeat (first | (with_reducible first | exact HB.out | apply below_alloc | apply pw_below_drewN | apply below_drew1) | exact HB.out)⟩⟩
                · rw [if_neg c26] at H
                  have c26b0 : decide (0 < (x11_2.length : Int)) = false := decide_eq_false c26
                  have c26b1 : decide (0 < x11_2.length) = false := decide_eq_false (by omega)
                  clear c26
                  (first | rw [c26b0] | (simp only [i64_w, i32_w, Go.IntKind.wrap_u32]; rw [c26b0]) | skip)
                  have H' := Aside0.mk H
                  clear H
                  go_wp2
                  go_meet
                  case rel => exact ⟨_, (false), (by first | rfl | (simp; done) | (simp [*]; done)), H', ⟨by have := HJ5.out; have := HK2.out; first | omega | exact Nat.le_refl _⟩, ⟨by (with_reducible repeat (first | apply Kd.R_alloc | apply Kd.R_drewN | apply Kd.R_drew)); exact HO_11.out⟩, ⟨by (with_reducible repeat (first | apply Kd.R_alloc | apply Kd.R_drewN | apply Kd.R_drew)); exact HO_12.out⟩, ⟨by first | exact Kd.R_nil _ _ _ _ _ | exact Kd.N_nil _ _ _ _ _ | exact Kd.V_nil _ _ _ _ _ | exact Kd.Q_nil _ _ _ _ _ | exact Kd.S_nil _ _ _ _ _⟩, ⟨by repeat (first | (with_reducible first | exact HB.out | apply below_alloc | apply pw_below_drewN | apply below_drew1) | exact HB.out)⟩⟩
              case rest =>
                clear HC24
                try clear c1
                try clear p1
                try clear q1
                try clear hx1
                try clear c2
                try clear p2
                try clear hx2
                try clear c4
                try clear p6
                try clear c8
                try clear c9
                try clear c10
                try clear c11
                try clear c13
                try clear c13b0
                try clear c14
                try clear c15
                try clear c15b0
                try clear c16
                try clear p16
                try clear q16
                try clear hx16
                try clear hf16
                try clear c17
                try clear p17
                try clear q17
                try clear hx17
                try clear hf17
                try clear c20
                try clear hx20
                try clear hf20
                try clear c22
                try clear hx22
                try clear hf22
                try clear c26
                try clear c26b0
                try clear c26b1
                try clear hx16_0
                try clear hx16_1
                try clear hx16_2
                try clear hx16_3
                try clear hx16_4
                try clear hx16_5
                try clear hx17_0
                try clear hx17_1
                try clear hx17_2
                try clear hx17_3
                try clear hx17_4
                try clear hx17_5
                try clear hx20_4
                try clear hx22_5
                try clear p16
                try clear p17
                try clear p2
                try clear q16
                try clear q17
                obtain ⟨kq, x66_23, rfl, HA, HJ23, HO_11, HO_12, HO_13, HB⟩ := hcut
                cases kq with
                | zero => exact absurd HA.out (by simp [hatstandlaw15_LinearAlone.j2])
                | succ kj23 =>
                  have H := HA.out
                  clear HA
                  simp only [hatstandlaw15_LinearAlone.j2] at H
                  have HC27 := Aside0.mk H
                  clear H
                  go_upto_if 66 with (fail)
                  go_cut [] (fun wc => ∃ (kq : Nat) (x11_26 : List (S30)), Aside0 (hatstandlaw15_LinearAlone.j3 kq t356 x11_26 x12_2 ([] : List Int) = some r) ∧ Aside0 (kq ≤ kj23) ∧ Aside0 (Kd.R k30 30 wc w.heap.size (fun _ => True) (.slice Ao25 x11_2.length co25) x11_26) ∧ Aside0 (Kd.R (Kd.int .i64) 3 wc w.heap.size (fun _ => True) u12 x12_2) ∧ Aside0 (Kd.R (Kd.int .u64) 27 wc w.heap.size (fun _ => True) (.slice none 0 0) ([] : List Int)) ∧ Aside0 (Below w.heap.size w wc))
                  case first =>
                    have H := HC27.out
                    clear HC27
                    by_cases c28 : x66_23 = true
                    · subst c28
                      have H1 : ((hatstandlaw15_pick.f a2 (x11_2.length : Int)).bind fun t365 => (if (Int.tmod a3 3) = 1 then (if 0 ≤ t365 then (if t365 < (x11_2.length : Int) then (hatstandlaw15_LinearAlone.j3 kj23 t356 (x11_2.set (t365 : Int).toNat (⟨(rd_T30 x11_2 t365).f0, (rd_T30 x11_2 t365).f1, IntKind.u64.wrap (((rd_T30 x11_2 t365).f2) + 1), (rd_T30 x11_2 t365).f3, (rd_T30 x11_2 t365).f4, (rd_T30 x11_2 t365).f5⟩ : S30)) x12_2 ([] : List Int)) else (none)) else (none)) else (if 0 ≤ t365 then (if t365 < (x11_2.length : Int) then (hatstandlaw15_LinearAlone.j3 kj23 t356 (x11_2.set (t365 : Int).toNat (⟨(rd_T30 x11_2 t365).f0, (rd_T30 x11_2 t365).f1, (rd_T30 x11_2 t365).f2, 1, (rd_T30 x11_2 t365).f4, (rd_T30 x11_2 t365).f5⟩ : S30)) x12_2 ([] : List Int)) else (none)) else (none)))) = some r := by rw [if_pos rfl] at H; exact H
                      clear H
                      have H := H1
                      clear H1
                      replace H := Option.bind_eq_some_iff.mp H
                      obtain ⟨t365, A290, H⟩ := H
                      replace H : (if (Int.tmod a3 3) = 1 then (if 0 ≤ t365 then (if t365 < (x11_2.length : Int) then (hatstandlaw15_LinearAlone.j3 kj23 t356 (x11_2.set (t365 : Int).toNat (⟨(rd_T30 x11_2 t365).f0, (rd_T30 x11_2 t365).f1, IntKind.u64.wrap (((rd_T30 x11_2 t365).f2) + 1), (rd_T30 x11_2 t365).f3, (rd_T30 x11_2 t365).f4, (rd_T30 x11_2 t365).f5⟩ : S30)) x12_2 ([] : List Int)) else (none)) else (none)) else (if 0 ≤ t365 then (if t365 < (x11_2.length : Int) then (hatstandlaw15_LinearAlone.j3 kj23 t356 (x11_2.set (t365 : Int).toNat (⟨(rd_T30 x11_2 t365).f0, (rd_T30 x11_2 t365).f1, (rd_T30 x11_2 t365).f2, 1, (rd_T30 x11_2 t365).f4, (rd_T30 x11_2 t365).f5⟩ : S30)) x12_2 ([] : List Int)) else (none)) else (none))) = some r := H
                      have A29 := Aside0.mk A290
                      clear A290
                      by_cases c30 : (Int.tmod a3 3) = 1
                      · rw [if_pos c30] at H
                        have c30b0 : ((Int.tmod a3 3) == 1) = true := beq_iff_eq.mpr c30
                        have c30b1 : ((Int.tmod a3 3) != 1) = false := bne_eq_false_iff_eq.mpr c30
                        clear c30
                        (first | rw [c30b0] | (simp only [i64_w, i32_w, Go.IntKind.wrap_u32]; rw [c30b0]) | skip)
                        by_cases c31 : 0 ≤ t365
                        · rw [if_pos c31] at H
                          have c31b0 : decide (0 ≤ t365) = true := decide_eq_true c31
                          clear c31
                          by_cases c32 : t365 < (x11_2.length : Int)
                          · rw [if_pos c32] at H
                            have c32b0 : decide (t365 < (x11_2.length : Int)) = true := decide_eq_true c32
                            clear c32
                            obtain ⟨y367, hy367⟩ : ∃ y_ : List (S30), y_ = (x11_2.set (t365 : Int).toNat (⟨(rd_T30 x11_2 t365).f0, (rd_T30 x11_2 t365).f1, IntKind.u64.wrap (((rd_T30 x11_2 t365).f2) + 1), (rd_T30 x11_2 t365).f3, (rd_T30 x11_2 t365).f4, (rd_T30 x11_2 t365).f5⟩ : S30)) := ⟨_, rfl⟩
                            replace H : (hatstandlaw15_LinearAlone.j3 kj23 t356 y367 x12_2 ([] : List Int)) = some r := by first | (rw [hy367]; with_reducible exact H) | (have H2_ := (Option.bind_some _ _).symm.trans H; rw [hy367]; with_reducible exact H2_) | (have H2_ := (Option.bind_some _ _).symm.trans H; with_reducible exact H2_) | with_reducible exact H | (rw [hy367]; exact H) | exact H
                            have Ny367 := Aside0.mk hy367
                            clear hy367
                            have H' := Aside0.mk H
                            clear H
                            go_wp2_with (first | ((with_reducible refine gate_callee (f := 10) rfl ?_); refine goesL_ (some 70) rfl rfl Try.func10 (by kernel_rfl) rfl #[.int .i64 a2, .int .i64 (x11_2.length : Int)] rfl (by (try simp only [List.map_toArray, List.map_cons, List.map_nil]); first | done | rfl | (simp only [List.length_drop, List.length_take]; rfl)) ?_; (with_reducible refine (hatstandlaw15_pick.calls a2 (x11_2.length : Int) t365 _ A29.out).mono ?_); rintro e w' ⟨rfl, ⟨nd, rfl⟩⟩; refine ⟨_, rfl, ?_⟩; (try (rw [drewN_self wc]; generalize hq_ : World.drewN wc _ = wc; have n0_ : Aside0 (Kd.R k30 30 wc w.heap.size (fun _ => True) (.slice Ao25 x11_2.length co25) x11_2) := ⟨by rw [← hq_]; exact (by (with_reducible repeat (first | apply Kd.R_alloc | apply Kd.R_drewN | apply Kd.R_drew)); exact HO_11.out)⟩; have n1_ : Aside0 (Kd.R (Kd.int .i64) 3 wc w.heap.size (fun _ => True) u12 x12_2) := ⟨by rw [← hq_]; exact (by (with_reducible repeat (first | apply Kd.R_alloc | apply Kd.R_drewN | apply Kd.R_drew)); exact HO_12.out)⟩; have n2_ : Aside0 (Kd.R (Kd.int .u64) 27 wc w.heap.size (fun _ => True) (.slice none 0 0) ([] : List Int)) := ⟨by rw [← hq_]; exact (by (with_reducible repeat (first | apply Kd.R_alloc | apply Kd.R_drewN | apply Kd.R_drew)); exact HO_13.out)⟩; have n3_ : Aside0 (Below w.heap.size w wc) := ⟨by rw [← hq_]; exact (by repeat (first | (with_reducible first | exact HB.out | apply below_alloc | apply pw_below_drewN | apply below_drew1) | exact HB.out))⟩; clear HO_11 HO_12 HO_13 HB hq_; have HO_11 := n0_; have HO_12 := n1_; have HO_13 := n2_; have HB := n3_; clear n0_ n1_ n2_ n3_)); have p366 : 0 ≤ (t365 : Int) := of_decide_eq_true (by first | (with_reducible assumption) | assumption); have q366 : t365 < (x11_2.length : Int) := of_decide_eq_true (by first | (with_reducible assumption) | assumption); obtain ⟨ad366, e366, hx366_0, hx366_1, hx366_2, hx366_3, hx366_4, hx366_5⟩ := at_T30 (Kd.R_reads' HO_11.out).2.2 t365 p366 q366; cases e366; replace p366 := eq_true p366; replace q366 := eq_true q366; have p33 : 0 ≤ (t365 : Int) := of_decide_eq_true (by first | (with_reducible assumption) | assumption); have q33 : (t365 : Int) < ((x11_2.length : Int) : Int) := of_decide_eq_true (by first | (with_reducible assumption) | assumption); obtain ⟨go33, co33, eo33, gb33, gl33, cl33, HG33⟩ := Kd.R_form HO_11.out (by omega); (first | cases eo33 | (injection eo33 with ea_ en_ ec_; (first | subst ea_ | (injection ea_ with ea_; subst ea_)); subst ec_; clear en_)); have GB33 := Aside0.mk gb33; have GG33 := Aside0.mk HG33; clear gb33 gl33 HG33; (first | simp only [add_plain] at hx366_0 | skip); (first | simp only [add_plain] at hx366_1 | skip); (first | simp only [add_plain] at hx366_2 | skip); (first | simp only [add_plain] at hx366_3 | skip); (first | simp only [add_plain] at hx366_4 | skip); (first | simp only [add_plain] at hx366_5 | skip); obtain ⟨ce33, hcl33, hM33, hcc33, hfr33⟩ := Kd.R_elem HO_11.out z30 (t365 : Int) p33 q33; obtain rfl := k30_openM hM33; have hx33_0 : wc.cell? ⟨go33, (t365 : Int).toNat * 6, none⟩ = some (.int .i64 ((rd_T30 x11_2 t365).f0)) := hcc33 0 _ rfl; have hx33_1 : wc.cell? ⟨go33, (t365 : Int).toNat * 6 + 1, none⟩ = some (.bool ((rd_T30 x11_2 t365).f1)) := hcc33 1 _ rfl; have hx33_2 : wc.cell? ⟨go33, (t365 : Int).toNat * 6 + 2, none⟩ = some (.int .u64 ((rd_T30 x11_2 t365).f2)) := hcc33 2 _ rfl; have hx33_3 : wc.cell? ⟨go33, (t365 : Int).toNat * 6 + 3, none⟩ = some (.int .i64 ((rd_T30 x11_2 t365).f3)) := hcc33 3 _ rfl; have hx33_4 : wc.cell? ⟨go33, (t365 : Int).toNat * 6 + 4, none⟩ = some (.int .i64 ((rd_T30 x11_2 t365).f4)) := hcc33 4 _ rfl; have hx33_5 : wc.cell? ⟨go33, (t365 : Int).toNat * 6 + 5, none⟩ = some (.int .i64 ((rd_T30 x11_2 t365).f5)) := hcc33 5 _ rfl; have hf33_0 : wc.frozen? ⟨go33, (t365 : Int).toNat * 6, none⟩ = false := hfr33 0; have hf33_1 : wc.frozen? ⟨go33, (t365 : Int).toNat * 6 + 1, none⟩ = false := hfr33 1; have hf33_2 : wc.frozen? ⟨go33, (t365 : Int).toNat * 6 + 2, none⟩ = false := hfr33 2; have hf33_3 : wc.frozen? ⟨go33, (t365 : Int).toNat * 6 + 3, none⟩ = false := hfr33 3; have hf33_4 : wc.frozen? ⟨go33, (t365 : Int).toNat * 6 + 4, none⟩ = false := hfr33 4; have hf33_5 : wc.frozen? ⟨go33, (t365 : Int).toNat * 6 + 5, none⟩ = false := hfr33 5; clear hcl33 hcc33 hfr33 hM33; replace p33 := eq_true p33; replace q33 := eq_true q33; have HX34 := Aside0.mk (show Kd.R k30 30 wc w.heap.size (fun _ => True) (.slice (some ⟨go33, 0, none⟩) x11_2.length co25) x11_2 from (by (with_reducible repeat (first | apply Kd.R_alloc | apply Kd.R_drewN | apply Kd.R_drew)); exact HO_11.out)); obtain ⟨ce34, hcl34, hM34, hcc34, hfr34⟩ := Kd.R_elem HX34.out z30 (t365 : Int) (of_decide_eq_true (by first | (with_reducible assumption) | assumption)) (by have h_ : (t365 : Int) < ((x11_2.length : Int) : Int) := of_decide_eq_true (by first | (with_reducible assumption) | assumption); first | exact h_ | (have e_ := (Kd.R_reads' HO_11.out).1; omega) | simpa using h_); obtain rfl := k30_openM hM34; have HP34 := Kd.R_seg HX34.out (t365 : Int) (of_decide_eq_true (by first | (with_reducible assumption) | assumption)) (by have h_ : (t365 : Int) < ((x11_2.length : Int) : Int) := of_decide_eq_true (by first | (with_reducible assumption) | assumption); first | exact h_ | (have e_ := (Kd.R_reads' HO_11.out).1; omega) | simpa using h_) (seg := [.int .u64 (IntKind.u64.wrap (((rd_T30 x11_2 t365).f2) + 1))]) (j := 2) hcl34 hcc34 (show 3 ≤ 6 from by decide) (x' := (⟨(rd_T30 x11_2 t365).f0, (rd_T30 x11_2 t365).f1, IntKind.u64.wrap (((rd_T30 x11_2 t365).f2) + 1), (rd_T30 x11_2 t365).f3, (rd_T30 x11_2 t365).f4, (rd_T30 x11_2 t365).f5⟩ : S30)) (k30_mkM _ _ _ (⟨(rd_T30 x11_2 t365).f0, (rd_T30 x11_2 t365).f1, IntKind.u64.wrap (((rd_T30 x11_2 t365).f2) + 1), (rd_T30 x11_2 t365).f3, (rd_T30 x11_2 t365).f4, (rd_T30 x11_2 t365).f5⟩ : S30) ) (fun _ hk => hk); have hx34_2 := hcc34 2 _ rfl; (try simp only [show (k30).sz = 6 from rfl, Nat.mul_one, Nat.add_zero] at hx34_2); have hf34_2 := hfr34 2; (try simp only [show (k30).sz = 6 from rfl, Nat.mul_one, Nat.add_zero] at hf34_2); clear hcl34 hcc34 hfr34 hM34) | ((with_reducible refine gate_store (t := 27) (p := 81) rfl ?_); refine store_event (t := 27) (p := 81) (v := ?vo_w35) (w1 := (wc.setCell ⟨go33, (t365 : Int).toNat * 6 + 2, none⟩ (.int .u64 (IntKind.u64.wrap (((rd_T30 x11_2 t365).f2) + 1))))) ?hg ?ho ?hn ?hr ?_; (case ho => rfl); (case hg => rfl); (case hn => rfl); (case hr => first | (go_simp; done) | (go_simp; rfl)); intro w35 hw; have hg : wc.grownBy w35 (some go33) := (by rw [hw]; exact HP34.2); have hp_ : Kd.R k30 30 w35 w.heap.size (fun _ => True) (.slice (some ⟨go33, 0, none⟩) x11_2.length co25) y367 := (by rw [hw, Ny367.out]; exact HP34.1); clear HP34; have n0_ := Aside0.mk (hp_); have n1_ := Aside0.mk (Kd.R_over' (v := (.slice (some ⟨go33, 0, none⟩) x11_2.length co25)) (by (with_reducible repeat (first | apply Kd.R_alloc | apply Kd.R_drewN | apply Kd.R_drew)); exact HO_12.out) (Kd.R_typed HO_11.out) (by decide) hg); have n2_ := Aside0.mk (Kd.R_over' (v := (.slice (some ⟨go33, 0, none⟩) x11_2.length co25)) (by (with_reducible repeat (first | apply Kd.R_alloc | apply Kd.R_drewN | apply Kd.R_drew)); exact HO_13.out) (Kd.R_typed HO_11.out) (by decide) hg); have n3_ := Aside0.mk ((by rw [hw]; exact below_set (HB.out) GB33.out : Below w.heap.size w w35)); clear HO_11; clear HO_12; clear HO_13; clear HB; have HO_11 := n0_; have HO_12 := n1_; have HO_13 := n2_; have HB := n3_; clear n0_ n1_ n2_ n3_; clear hg hw hp_))
                            go_meet
                            case rel => exact ⟨_, (y367), H', ⟨by have := HJ5.out; have := HK2.out; have := HJ23.out; first | omega | exact Nat.le_refl _⟩, ⟨by (with_reducible repeat (first | apply Kd.R_alloc | apply Kd.R_drewN | apply Kd.R_drew)); exact HO_11.out⟩, ⟨by (with_reducible repeat (first | apply Kd.R_alloc | apply Kd.R_drewN | apply Kd.R_drew)); exact HO_12.out⟩, ⟨by (with_reducible repeat (first | apply Kd.R_alloc | apply Kd.R_drewN | apply Kd.R_drew)); exact HO_13.out⟩, ⟨by repeat (first | (with_reducible first | exact HB.out | apply below_alloc | apply pw_below_drewN | apply below_drew1) | exact HB.out)⟩⟩
                          · rw [if_neg c32] at H
                            exact absurd H (by simp)
                        · rw [if_neg c31] at H
                          exact absurd H (by simp)
                      · rw [if_neg c30] at H
                        have c30b0 : ((Int.tmod a3 3) == 1) = false := beq_eq_false_iff_ne.mpr c30
                        have c30b1 : ((Int.tmod a3 3) != 1) = true := bne_iff_ne.mpr c30
                        (first | rw [c30b0] | (simp only [i64_w, i32_w, Go.IntKind.wrap_u32]; rw [c30b0]) | skip)
                        by_cases c36 : 0 ≤ t365
                        · rw [if_pos c36] at H
                          have c36b0 : decide (0 ≤ t365) = true := decide_eq_true c36
                          clear c36
                          by_cases c37 : t365 < (x11_2.length : Int)
                          · rw [if_pos c37] at H
                            have c37b0 : decide (t365 < (x11_2.length : Int)) = true := decide_eq_true c37
                            clear c37
                            obtain ⟨y368, hy368⟩ : ∃ y_ : List (S30), y_ = (x11_2.set (t365 : Int).toNat (⟨(rd_T30 x11_2 t365).f0, (rd_T30 x11_2 t365).f1, (rd_T30 x11_2 t365).f2, 1, (rd_T30 x11_2 t365).f4, (rd_T30 x11_2 t365).f5⟩ : S30)) := ⟨_, rfl⟩
                            replace H : (hatstandlaw15_LinearAlone.j3 kj23 t356 y368 x12_2 ([] : List Int)) = some r := by first | (rw [hy368]; with_reducible exact H) | (have H2_ := (Option.bind_some _ _).symm.trans H; rw [hy368]; with_reducible exact H2_) | (have H2_ := (Option.bind_some _ _).symm.trans H; with_reducible exact H2_) | with_reducible exact H | (rw [hy368]; exact H) | exact H
                            have Ny368 := Aside0.mk hy368
                            clear hy368
                            have H' := Aside0.mk H
                            clear H
                            go_wp2_with (first | ((with_reducible refine gate_callee (f := 10) rfl ?_); refine goesL_ (some 70) rfl rfl Try.func10 (by kernel_rfl) rfl #[.int .i64 a2, .int .i64 (x11_2.length : Int)] rfl (by (try simp only [List.map_toArray, List.map_cons, List.map_nil]); first | done | rfl | (simp only [List.length_drop, List.length_take]; rfl)) ?_; (with_reducible refine (hatstandlaw15_pick.calls a2 (x11_2.length : Int) t365 _ A29.out).mono ?_); rintro e w' ⟨rfl, ⟨nd, rfl⟩⟩; refine ⟨_, rfl, ?_⟩; (try (rw [drewN_self wc]; generalize hq_ : World.drewN wc _ = wc; have n0_ : Aside0 (Kd.R k30 30 wc w.heap.size (fun _ => True) (.slice Ao25 x11_2.length co25) x11_2) := ⟨by rw [← hq_]; exact (by (with_reducible repeat (first | apply Kd.R_alloc | apply Kd.R_drewN | apply Kd.R_drew)); exact HO_11.out)⟩; have n1_ : Aside0 (Kd.R (Kd.int .i64) 3 wc w.heap.size (fun _ => True) u12 x12_2) := ⟨by rw [← hq_]; exact (by (with_reducible repeat (first | apply Kd.R_alloc | apply Kd.R_drewN | apply Kd.R_drew)); exact HO_12.out)⟩; have n2_ : Aside0 (Kd.R (Kd.int .u64) 27 wc w.heap.size (fun _ => True) (.slice none 0 0) ([] : List Int)) := ⟨by rw [← hq_]; exact (by (with_reducible repeat (first | apply Kd.R_alloc | apply Kd.R_drewN | apply Kd.R_drew)); exact HO_13.out)⟩; have n3_ : Aside0 (Below w.heap.size w wc) := ⟨by rw [← hq_]; exact (by repeat (first | (with_reducible first | exact HB.out | apply below_alloc | apply pw_below_drewN | apply below_drew1) | exact HB.out))⟩; clear HO_11 HO_12 HO_13 HB hq_; have HO_11 := n0_; have HO_12 := n1_; have HO_13 := n2_; have HB := n3_; clear n0_ n1_ n2_ n3_)); have p38 : 0 ≤ (t365 : Int) := of_decide_eq_true (by first | (with_reducible assumption) | assumption); have q38 : (t365 : Int) < ((x11_2.length : Int) : Int) := of_decide_eq_true (by first | (with_reducible assumption) | assumption); obtain ⟨go38, co38, eo38, gb38, gl38, cl38, HG38⟩ := Kd.R_form HO_11.out (by omega); (first | cases eo38 | (injection eo38 with ea_ en_ ec_; (first | subst ea_ | (injection ea_ with ea_; subst ea_)); subst ec_; clear en_)); have GB38 := Aside0.mk gb38; have GG38 := Aside0.mk HG38; clear gb38 gl38 HG38; obtain ⟨ce38, hcl38, hM38, hcc38, hfr38⟩ := Kd.R_elem HO_11.out z30 (t365 : Int) p38 q38; obtain rfl := k30_openM hM38; have hx38_0 : wc.cell? ⟨go38, (t365 : Int).toNat * 6, none⟩ = some (.int .i64 ((rd_T30 x11_2 t365).f0)) := hcc38 0 _ rfl; have hx38_1 : wc.cell? ⟨go38, (t365 : Int).toNat * 6 + 1, none⟩ = some (.bool ((rd_T30 x11_2 t365).f1)) := hcc38 1 _ rfl; have hx38_2 : wc.cell? ⟨go38, (t365 : Int).toNat * 6 + 2, none⟩ = some (.int .u64 ((rd_T30 x11_2 t365).f2)) := hcc38 2 _ rfl; have hx38_3 : wc.cell? ⟨go38, (t365 : Int).toNat * 6 + 3, none⟩ = some (.int .i64 ((rd_T30 x11_2 t365).f3)) := hcc38 3 _ rfl; have hx38_4 : wc.cell? ⟨go38, (t365 : Int).toNat * 6 + 4, none⟩ = some (.int .i64 ((rd_T30 x11_2 t365).f4)) := hcc38 4 _ rfl; have hx38_5 : wc.cell? ⟨go38, (t365 : Int).toNat * 6 + 5, none⟩ = some (.int .i64 ((rd_T30 x11_2 t365).f5)) := hcc38 5 _ rfl; have hf38_0 : wc.frozen? ⟨go38, (t365 : Int).toNat * 6, none⟩ = false := hfr38 0; have hf38_1 : wc.frozen? ⟨go38, (t365 : Int).toNat * 6 + 1, none⟩ = false := hfr38 1; have hf38_2 : wc.frozen? ⟨go38, (t365 : Int).toNat * 6 + 2, none⟩ = false := hfr38 2; have hf38_3 : wc.frozen? ⟨go38, (t365 : Int).toNat * 6 + 3, none⟩ = false := hfr38 3; have hf38_4 : wc.frozen? ⟨go38, (t365 : Int).toNat * 6 + 4, none⟩ = false := hfr38 4; have hf38_5 : wc.frozen? ⟨go38, (t365 : Int).toNat * 6 + 5, none⟩ = false := hfr38 5; clear hcl38 hcc38 hfr38 hM38; replace p38 := eq_true p38; replace q38 := eq_true q38; have HX39 := Aside0.mk (show Kd.R k30 30 wc w.heap.size (fun _ => True) (.slice (some ⟨go38, 0, none⟩) x11_2.length co25) x11_2 from (by (with_reducible repeat (first | apply Kd.R_alloc | apply Kd.R_drewN | apply Kd.R_drew)); exact HO_11.out)); obtain ⟨ce39, hcl39, hM39, hcc39, hfr39⟩ := Kd.R_elem HX39.out z30 (t365 : Int) (of_decide_eq_true (by first | (with_reducible assumption) | assumption)) (by have h_ : (t365 : Int) < ((x11_2.length : Int) : Int) := of_decide_eq_true (by first | (with_reducible assumption) | assumption); first | exact h_ | (have e_ := (Kd.R_reads' HO_11.out).1; omega) | simpa using h_); obtain rfl := k30_openM hM39; have HP39 := Kd.R_seg HX39.out (t365 : Int) (of_decide_eq_true (by first | (with_reducible assumption) | assumption)) (by have h_ : (t365 : Int) < ((x11_2.length : Int) : Int) := of_decide_eq_true (by first | (with_reducible assumption) | assumption); first | exact h_ | (have e_ := (Kd.R_reads' HO_11.out).1; omega) | simpa using h_) (seg := [.int .i64 1]) (j := 3) hcl39 hcc39 (show 4 ≤ 6 from by decide) (x' := (⟨(rd_T30 x11_2 t365).f0, (rd_T30 x11_2 t365).f1, (rd_T30 x11_2 t365).f2, 1, (rd_T30 x11_2 t365).f4, (rd_T30 x11_2 t365).f5⟩ : S30)) (k30_mkM _ _ _ (⟨(rd_T30 x11_2 t365).f0, (rd_T30 x11_2 t365).f1, (rd_T30 x11_2 t365).f2, 1, (rd_T30 x11_2 t365).f4, (rd_T30 x11_2 t365).f5⟩ : S30) ) (fun _ hk => hk); have hx39_3 := hcc39 3 _ rfl; (try simp only [show (k30).sz = 6 from rfl, Nat.mul_one, Nat.add_zero] at hx39_3); have hf39_3 := hfr39 3; (try simp only [show (k30).sz = 6 from rfl, Nat.mul_one, Nat.add_zero] at hf39_3); clear hcl39 hcc39 hfr39 hM39) | ((with_reducible refine gate_store (t := 28) (p := 85) rfl ?_); refine store_event (t := 28) (p := 85) (v := ?vo_w40) (w1 := (wc.setCell ⟨go38, (t365 : Int).toNat * 6 + 3, none⟩ (.int .i64 1))) ?hg ?ho ?hn ?hr ?_; (case ho => rfl); (case hg => rfl); (case hn => rfl); (case hr => first | (go_simp; done) | (go_simp; rfl)); intro w40 hw; have hg : wc.grownBy w40 (some go38) := (by rw [hw]; exact HP39.2); have hp_ : Kd.R k30 30 w40 w.heap.size (fun _ => True) (.slice (some ⟨go38, 0, none⟩) x11_2.length co25) y368 := (by rw [hw, Ny368.out]; exact HP39.1); clear HP39; have n0_ := Aside0.mk (hp_); have n1_ := Aside0.mk (Kd.R_over' (v := (.slice (some ⟨go38, 0, none⟩) x11_2.length co25)) (by (with_reducible repeat (first | apply Kd.R_alloc | apply Kd.R_drewN | apply Kd.R_drew)); exact HO_12.out) (Kd.R_typed HO_11.out) (by decide) hg); have n2_ := Aside0.mk (Kd.R_over' (v := (.slice (some ⟨go38, 0, none⟩) x11_2.length co25)) (by (with_reducible repeat (first | apply Kd.R_alloc | apply Kd.R_drewN | apply Kd.R_drew)); exact HO_13.out) (Kd.R_typed HO_11.out) (by decide) hg); have n3_ := Aside0.mk ((by rw [hw]; exact below_set (HB.out) GB38.out : Below w.heap.size w w40)); clear HO_11; clear HO_12; clear HO_13; clear HB; have HO_11 := n0_; have HO_12 := n1_; have HO_13 := n2_; have HB := n3_; clear n0_ n1_ n2_ n3_; clear hg hw hp_))
                            go_meet
                            case rel => exact ⟨_, (y368), H', ⟨by have := HJ5.out; have := HK2.out; have := HJ23.out; first | omega | exact Nat.le_refl _⟩, ⟨by (with_reducible repeat (first | apply Kd.R_alloc | apply Kd.R_drewN | apply Kd.R_drew)); exact HO_11.out⟩, ⟨by (with_reducible repeat (first | apply Kd.R_alloc | apply Kd.R_drewN | apply Kd.R_drew)); exact HO_12.out⟩, ⟨by (with_reducible repeat (first | apply Kd.R_alloc | apply Kd.R_drewN | apply Kd.R_drew)); exact HO_13.out⟩, ⟨by repeat (first | (with_reducible first | exact HB.out | apply below_alloc | apply pw_below_drewN | apply below_drew1) | exact HB.out)⟩⟩
                          · rw [if_neg c37] at H
                            exact absurd H (by simp)
                        · rw [if_neg c36] at H
                          exact absurd H (by simp)
                    · replace c28 := Bool.eq_false_iff.mpr c28
                      subst c28
                      have H1 : (hatstandlaw15_LinearAlone.j3 kj23 t356 x11_2 x12_2 ([] : List Int)) = some r := by rw [if_neg (show ¬ (false = true) by decide)] at H; exact H
                      clear H
                      have H := H1
                      clear H1
                      have H' := Aside0.mk H
                      clear H
                      go_wp2
                      go_meet
                      case rel => exact ⟨_, (x11_2), H', ⟨by have := HJ5.out; have := HK2.out; have := HJ23.out; first | omega | exact Nat.le_refl _⟩, ⟨by (with_reducible repeat (first | apply Kd.R_alloc | apply Kd.R_drewN | apply Kd.R_drew)); exact HO_11.out⟩, ⟨by (with_reducible repeat (first | apply Kd.R_alloc | apply Kd.R_drewN | apply Kd.R_drew)); exact HO_12.out⟩, ⟨by (with_reducible repeat (first | apply Kd.R_alloc | apply Kd.R_drewN | apply Kd.R_drew)); exact HO_13.out⟩, ⟨by repeat (first | (with_reducible first | exact HB.out | apply below_alloc | apply pw_below_drewN | apply below_drew1) | exact HB.out)⟩⟩
                  case rest =>
                    clear HC27
                    try clear c1
                    try clear p1
                    try clear q1
                    try clear hx1
                    try clear c2
                    try clear p2
                    try clear hx2
                    try clear c3
                    try clear p3
                    try clear q3
                    try clear hx3
                    try clear c4
                    try clear p6
                    try clear c8
                    try clear c9
                    try clear c10
                    try clear c11
                    try clear c13
                    try clear c13b0
                    try clear c14
                    try clear c15
                    try clear c15b0
                    try clear c16
                    try clear p16
                    try clear q16
                    try clear hx16
                    try clear hf16
                    try clear c17
                    try clear p17
                    try clear q17
                    try clear hx17
                    try clear hf17
                    try clear c20
                    try clear hx20
                    try clear hf20
                    try clear c22
                    try clear hx22
                    try clear hf22
                    try clear c26
                    try clear c26b0
                    try clear c26b1
                    try clear c28
                    try clear c30
                    try clear c30b0
                    try clear c30b1
                    try clear c31
                    try clear c31b0
                    try clear c32
                    try clear c32b0
                    try clear c33
                    try clear p33
                    try clear q33
                    try clear hx33
                    try clear hf33
                    try clear c34
                    try clear hx34
                    try clear hf34
                    try clear c36
                    try clear c36b0
                    try clear p36
                    try clear q36
                    try clear hx36
                    try clear c37
                    try clear c37b0
                    try clear c38
                    try clear p38
                    try clear q38
                    try clear hx38
                    try clear hf38
                    try clear c39
                    try clear hx39
                    try clear hf39
                    try clear hx16_0
                    try clear hx16_1
                    try clear hx16_2
                    try clear hx16_3
                    try clear hx16_4
                    try clear hx16_5
                    try clear hx17_0
                    try clear hx17_1
                    try clear hx17_2
                    try clear hx17_3
                    try clear hx17_4
                    try clear hx17_5
                    try clear hx20_4
                    try clear hx22_5
                    try clear hx33_0
                    try clear hx33_1
                    try clear hx33_2
                    try clear hx33_3
                    try clear hx33_4
                    try clear hx33_5
                    try clear hx34_2
                    try clear hx366_0
                    try clear hx366_1
                    try clear hx366_2
                    try clear hx366_3
                    try clear hx366_4
                    try clear hx366_5
                    try clear hx38_0
                    try clear hx38_1
                    try clear hx38_2
                    try clear hx38_3
                    try clear hx38_4
                    try clear hx38_5
                    try clear hx39_3
                    try clear p1
                    try clear p16
                    try clear p17
                    try clear p2
                    try clear p33
                    try clear p366
                    try clear p38
                    try clear p6
                    try clear q1
                    try clear q16
                    try clear q17
                    try clear q33
                    try clear q366
                    try clear q38
                    obtain ⟨kq, x11_26, HA, HJ26, HO_11, HO_12, HO_13, HB⟩ := hcut
                    have hl11_26 := (Kd.R_reads' HO_11.out).1
                    rw [hl11_26] at HO_11
                    (try simp only [hl11_26])
                    (try simp only [hl11_26] at HO_12)
                    (try simp only [hl11_26] at HO_13)
                    cases kq with
                    | zero => exact absurd HA.out (by simp [hatstandlaw15_LinearAlone.j3])
                    | succ kj26 =>
                      have H := HA.out
                      clear HA
                      simp only [hatstandlaw15_LinearAlone.j3] at H
                      have H' := Aside0.mk H
                      clear H
                      go_wp2
                      go_loopg [13, 16, 17] kj26 (fun kq v13 v16 v17 w' => ∃ (x13_5 : List Int) (x16_5 : Bool) (x17_5 : Int), v16 = .bool x16_5 ∧ v17 = .int .i64 x17_5 ∧ Aside0 (hatstandlaw15_LinearAlone.l1 kq t356 x11_26 x12_2 x13_5 x16_5 x17_5 = some r) ∧ Aside0 (kq ≤ kj26) ∧ Aside0 (Kd.R k30 30 w' w.heap.size (fun _ => True) (.slice Ao25 x11_26.length co25) x11_26) ∧ Aside0 (Kd.R (Kd.int .i64) 3 w' w.heap.size (fun _ => True) u12 x12_2) ∧ Aside0 (Kd.R (Kd.int .u64) 27 w' w.heap.size (fun _ => True) v13 x13_5) ∧ Aside0 (Below w.heap.size w w'))
                      case atStart => exact ⟨(([] : List Int)), (true), (0), (by first | rfl | (simp; done) | (simp [*]; done)), (by first | rfl | (simp; done) | (simp [*]; done)), H', ⟨Nat.le_refl _⟩, ⟨by (try simp only [hl11_26]); (with_reducible repeat (first | apply Kd.R_alloc | apply Kd.R_drewN | apply Kd.R_drew)); exact HO_11.out⟩, ⟨by (try simp only [hl11_26]); (with_reducible repeat (first | apply Kd.R_alloc | apply Kd.R_drewN | apply Kd.R_drew)); exact HO_12.out⟩, ⟨by (try simp only [hl11_26]); (with_reducible repeat (first | apply Kd.R_alloc | apply Kd.R_drewN | apply Kd.R_drew)); exact HO_13.out⟩, ⟨by repeat (first | (with_reducible first | exact HB.out | apply below_alloc | apply pw_below_drewN | apply below_drew1) | exact HB.out)⟩⟩
                      case round =>
                        clear H'
                        try clear c1
                        try clear p1
                        try clear q1
                        try clear hx1
                        try clear c2
                        try clear p2
                        try clear hx2
                        try clear c3
                        try clear p3
                        try clear q3
                        try clear hx3
                        try clear c4
                        try clear p6
                        try clear c8
                        try clear c9
                        try clear c10
                        try clear c11
                        try clear c13
                        try clear c13b0
                        try clear c14
                        try clear c15
                        try clear c15b0
                        try clear c16
                        try clear p16
                        try clear q16
                        try clear hx16
                        try clear hf16
                        try clear c17
                        try clear p17
                        try clear q17
                        try clear hx17
                        try clear hf17
                        try clear c20
                        try clear hx20
                        try clear hf20
                        try clear c22
                        try clear hx22
                        try clear hf22
                        try clear c26
                        try clear c26b0
                        try clear c26b1
                        try clear c28
                        try clear c30
                        try clear c30b0
                        try clear c30b1
                        try clear c31
                        try clear c31b0
                        try clear c32
                        try clear c32b0
                        try clear c33
                        try clear p33
                        try clear q33
                        try clear hx33
                        try clear hf33
                        try clear c34
                        try clear hx34
                        try clear hf34
                        try clear c36
                        try clear c36b0
                        try clear p36
                        try clear q36
                        try clear hx36
                        try clear c37
                        try clear c37b0
                        try clear c38
                        try clear p38
                        try clear q38
                        try clear hx38
                        try clear hf38
                        try clear c39
                        try clear hx39
                        try clear hf39
                        try clear hx16_0
                        try clear hx16_1
                        try clear hx16_2
                        try clear hx16_3
                        try clear hx16_4
                        try clear hx16_5
                        try clear hx17_0
                        try clear hx17_1
                        try clear hx17_2
                        try clear hx17_3
                        try clear hx17_4
                        try clear hx17_5
                        try clear hx20_4
                        try clear hx22_5
                        try clear hx33_0
                        try clear hx33_1
                        try clear hx33_2
                        try clear hx33_3
                        try clear hx33_4
                        try clear hx33_5
                        try clear hx34_2
                        try clear hx366_0
                        try clear hx366_1
                        try clear hx366_2
                        try clear hx366_3
                        try clear hx366_4
                        try clear hx366_5
                        try clear hx38_0
                        try clear hx38_1
                        try clear hx38_2
                        try clear hx38_3
                        try clear hx38_4
                        try clear hx38_5
                        try clear hx39_3
                        try clear p1
                        try clear p16
                        try clear p17
                        try clear p2
                        try clear p3
                        try clear p33
                        try clear p36
                        try clear p366
                        try clear p38
                        try clear p6
                        try clear q1
                        try clear q16
                        try clear q17
                        try clear q3
                        try clear q33
                        try clear q36
                        try clear q366
                        try clear q38
                        obtain ⟨x13_5, x16_5, x17_5, rfl, rfl, HA, HK5, HO_11, HO_12, HO_13, HB⟩ := hrel
                        cases gk with
                        | zero => exact absurd HA.out (by simp [hatstandlaw15_LinearAlone.l1])
                        | succ k5 =>
                          have H := HA.out
                          clear HA
                          simp only [hatstandlaw15_LinearAlone.l1] at H
                          have HC41 := Aside0.mk H
                          clear H
                          go_upto_region 21 with (fail)
                          go_cut [92] (fun v92 wc => ∃ (kq : Nat) (x92_40 : Bool), v92 = .bool x92_40 ∧ Aside0 (hatstandlaw15_LinearAlone.j5 kq t356 x11_26 x12_2 x13_5 x16_5 x17_5 x92_40 = some r) ∧ Aside0 (kq ≤ k5) ∧ Aside0 (Kd.R k30 30 wc w.heap.size (fun _ => True) (.slice Ao25 x11_26.length co25) x11_26) ∧ Aside0 (Kd.R (Kd.int .i64) 3 wc w.heap.size (fun _ => True) u12 x12_2) ∧ Aside0 (Kd.R (Kd.int .u64) 27 wc w.heap.size (fun _ => True) u13 x13_5) ∧ Aside0 (Below w.heap.size w wc))
                          case first =>
                            have H := HC41.out
                            clear HC41
                            by_cases c42 : x17_5 < (x11_26.length : Int)
                            · rw [if_pos c42] at H
                              have c42b0 : decide (x17_5 < (x11_26.length : Int)) = true := decide_eq_true c42
                              clear c42
                              (first | rw [c42b0] | (simp only [i64_w, i32_w, Go.IntKind.wrap_u32]; rw [c42b0]) | skip)
                              have H' := Aside0.mk H
                              clear H
                              go_wp2
                              go_meet
                              case rel => exact ⟨_, (x16_5), (by first | rfl | (simp; done) | (simp [*]; done)), H', ⟨by have := HJ5.out; have := HK2.out; have := HJ23.out; have := HJ26.out; have := HK5.out; first | omega | exact Nat.le_refl _⟩, ⟨by (try simp only [hl11_26]); (with_reducible repeat (first | apply Kd.R_alloc | apply Kd.R_drewN | apply Kd.R_drew)); exact HO_11.out⟩, ⟨by (try simp only [hl11_26]); (with_reducible repeat (first | apply Kd.R_alloc | apply Kd.R_drewN | apply Kd.R_drew)); exact HO_12.out⟩, ⟨by (try simp only [hl11_26]); (with_reducible repeat (first | apply Kd.R_alloc | apply Kd.R_drewN | apply Kd.R_drew)); exact HO_13.out⟩, ⟨by repeat (first | (with_reducible first | exact HB.out | apply below_alloc | apply pw_below_drewN | apply below_drew1) | exact HB.out)⟩⟩
                            · rw [if_neg c42] at H
                              have c42b0 : decide (x17_5 < (x11_26.length : Int)) = false := decide_eq_false c42
                              clear c42
                              (first | rw [c42b0] | (simp only [i64_w, i32_w, Go.IntKind.wrap_u32]; rw [c42b0]) | skip)
                              have H' := Aside0.mk H
                              clear H
                              go_wp2
                              go_meet
                              case rel => exact ⟨_, (false), (by first | rfl | (simp; done) | (simp [*]; done)), H', ⟨by have := HJ5.out; have := HK2.out; have := HJ23.out; have := HJ26.out; have := HK5.out; first | omega | exact Nat.le_refl _⟩, ⟨by (try simp only [hl11_26]); (with_reducible repeat (first | apply Kd.R_alloc | apply Kd.R_drewN | apply Kd.R_drew)); exact HO_11.out⟩, ⟨by (try simp only [hl11_26]); (with_reducible repeat (first | apply Kd.R_alloc | apply Kd.R_drewN | apply Kd.R_drew)); exact HO_12.out⟩, ⟨by (try simp only [hl11_26]); (with_reducible repeat (first | apply Kd.R_alloc | apply Kd.R_drewN | apply Kd.R_drew)); exact HO_13.out⟩, ⟨by repeat (first | (with_reducible first | exact HB.out | apply below_alloc | apply pw_below_drewN | apply below_drew1) | exact HB.out)⟩⟩
                          case rest =>
                            clear HC41
                            try clear c1
                            try clear p1
                            try clear q1
                            try clear hx1
                            try clear c2
                            try clear p2
                            try clear hx2
                            try clear c3
                            try clear p3
                            try clear q3
                            try clear hx3
                            try clear c4
                            try clear p6
                            try clear c8
                            try clear c9
                            try clear c10
                            try clear c11
                            try clear c13
                            try clear c13b0
                            try clear c14
                            try clear c15
                            try clear c15b0
                            try clear c16
                            try clear p16
                            try clear q16
                            try clear hx16
                            try clear hf16
                            try clear c17
                            try clear p17
                            try clear q17
                            try clear hx17
                            try clear hf17
                            try clear c20
                            try clear hx20
                            try clear hf20
                            try clear c22
                            try clear hx22
                            try clear hf22
                            try clear c26
                            try clear c26b0
                            try clear c26b1
                            try clear c28
                            try clear c30
                            try clear c30b0
                            try clear c30b1
                            try clear c31
                            try clear c31b0
                            try clear c32
                            try clear c32b0
                            try clear c33
                            try clear p33
                            try clear q33
                            try clear hx33
                            try clear hf33
                            try clear c34
                            try clear hx34
                            try clear hf34
                            try clear c36
                            try clear c36b0
                            try clear p36
                            try clear q36
                            try clear hx36
                            try clear c37
                            try clear c37b0
                            try clear c38
                            try clear p38
                            try clear q38
                            try clear hx38
                            try clear hf38
                            try clear c39
                            try clear hx39
                            try clear hf39
                            try clear c42
                            try clear c42b0
                            try clear hx16_0
                            try clear hx16_1
                            try clear hx16_2
                            try clear hx16_3
                            try clear hx16_4
                            try clear hx16_5
                            try clear hx17_0
                            try clear hx17_1
                            try clear hx17_2
                            try clear hx17_3
                            try clear hx17_4
                            try clear hx17_5
                            try clear hx20_4
                            try clear hx22_5
                            try clear hx33_0
                            try clear hx33_1
                            try clear hx33_2
                            try clear hx33_3
                            try clear hx33_4
                            try clear hx33_5
                            try clear hx34_2
                            try clear hx366_0
                            try clear hx366_1
                            try clear hx366_2
                            try clear hx366_3
                            try clear hx366_4
                            try clear hx366_5
                            try clear hx38_0
                            try clear hx38_1
                            try clear hx38_2
                            try clear hx38_3
                            try clear hx38_4
                            try clear hx38_5
                            try clear hx39_3
                            try clear p1
                            try clear p16
                            try clear p17
                            try clear p2
                            try clear p3
                            try clear p33
                            try clear p36
                            try clear p366
                            try clear p38
                            try clear p6
                            try clear q1
                            try clear q16
                            try clear q17
                            try clear q3
                            try clear q33
                            try clear q36
                            try clear q366
                            try clear q38
                            obtain ⟨kq, x92_40, rfl, HA, HJ40, HO_11, HO_12, HO_13, HB⟩ := hcut
                            cases kq with
                            | zero => exact absurd HA.out (by simp [hatstandlaw15_LinearAlone.j5])
                            | succ kj40 =>
                              have H := HA.out
                              clear HA
                              simp only [hatstandlaw15_LinearAlone.j5] at H
                              by_cases c43 : x92_40 = true
                              · subst c43
                                have H1 : (if 0 ≤ x17_5 then (if x17_5 < (x11_26.length : Int) then ((hatstandref5_Do.f kj40 x13_5 t356 ((rd_T30 x11_26 x17_5).f1) ((rd_T30 x11_26 x17_5).f2) ((rd_T30 x11_26 x17_5).f3)).bind fun bt372 => (hatstandlaw15_LinearAlone.l1 kj40 t356 x11_26 x12_2 bt372.1 bt372.2 (wrap64 (x17_5 + 1)))) else (none)) else (none)) = some r := by rw [if_pos rfl] at H; exact H
                                clear H
                                have H := H1
                                clear H1
                                by_cases c44 : 0 ≤ x17_5
                                · rw [if_pos c44] at H
                                  have c44b0 : decide (0 ≤ x17_5) = true := decide_eq_true c44
                                  clear c44
                                  by_cases c45 : x17_5 < (x11_26.length : Int)
                                  · rw [if_pos c45] at H
                                    have c45b0 : decide (x17_5 < (x11_26.length : Int)) = true := decide_eq_true c45
                                    clear c45
                                    replace H := Option.bind_eq_some_iff.mp H
                                    obtain ⟨⟨t372, t375⟩, A460, H⟩ := H
                                    replace H : (hatstandlaw15_LinearAlone.l1 kj40 t356 x11_26 x12_2 t372 t375 (wrap64 (x17_5 + 1))) = some r := H
                                    have A46 := Aside0.mk A460
                                    clear A460
                                    have H' := Aside0.mk H
                                    clear H
                                    try go_wp2
                                    have n0_ := Aside0.mk (Kd.R_drew HO_11.out)
                                    have n1_ := Aside0.mk (Kd.R_drew HO_12.out)
                                    have n2_ := Aside0.mk (Kd.R_drew HO_13.out)
                                    have n3_ := Aside0.mk (below_drew1 HB.out)
                                    clear HO_11
                                    clear HO_12
                                    clear HO_13
                                    clear HB
                                    have HO_11 := n0_
                                    have HO_12 := n1_
                                    have HO_13 := n2_
                                    have HB := n3_
                                    clear n0_ n1_ n2_ n3_
                                    have p369 : 0 ≤ (x17_5 : Int) := of_decide_eq_true (by first | (with_reducible assumption) | assumption)
                                    have q369 : x17_5 < (x11_26.length : Int) := of_decide_eq_true (by first | (with_reducible assumption) | assumption)
                                    obtain ⟨ad369, e369, hx369_0, hx369_1, hx369_2, hx369_3, hx369_4, hx369_5⟩ := at_T30 (Kd.R_reads' HO_11.out).2.2 x17_5 p369 q369
                                    cases e369
                                    replace p369 := eq_true p369
                                    replace q369 := eq_true q369
                                    have p370 : 0 ≤ (x17_5 : Int) := of_decide_eq_true (by first | (with_reducible assumption) | assumption)
                                    have q370 : x17_5 < (x11_26.length : Int) := of_decide_eq_true (by first | (with_reducible assumption) | assumption)
                                    obtain ⟨ad370, e370, hx370_0, hx370_1, hx370_2, hx370_3, hx370_4, hx370_5⟩ := at_T30 (Kd.R_reads' HO_11.out).2.2 x17_5 p370 q370
                                    obtain rfl : ad369 = ad370 := (by injection e370)
                                    replace p370 := eq_true p370
                                    replace q370 := eq_true q370
                                    have p371 : 0 ≤ (x17_5 : Int) := of_decide_eq_true (by first | (with_reducible assumption) | assumption)
                                    have q371 : x17_5 < (x11_26.length : Int) := of_decide_eq_true (by first | (with_reducible assumption) | assumption)
                                    obtain ⟨ad371, e371, hx371_0, hx371_1, hx371_2, hx371_3, hx371_4, hx371_5⟩ := at_T30 (Kd.R_reads' HO_11.out).2.2 x17_5 p371 q371
                                    obtain rfl : ad369 = ad371 := (by injection e371)
                                    replace p371 := eq_true p371
                                    replace q371 := eq_true q371
                                    obtain ⟨Ao48, co48, eo48⟩ := Kd.R_slice HO_13.out
                                    (first | subst eo48 | (injection eo48 with f1_ f2_ f3_; have f4_ := f1_.symm; have f5_ := f3_.symm; clear f1_ f2_ f3_; subst f4_; subst f5_))
                                    refine start_ (n := 24) (S := fun w' => w'.cell? (ad369.add ((x17_5).toNat * 6)) = some (.int .i64 ((rd_T30 x11_26 x17_5).f0)) ∧ w'.cell? ⟨(ad369.add ((x17_5).toNat * 6)).block, (ad369.add ((x17_5).toNat * 6)).off + 1, none⟩ = some (.bool ((rd_T30 x11_26 x17_5).f1)) ∧ w'.cell? ⟨(ad369.add ((x17_5).toNat * 6)).block, (ad369.add ((x17_5).toNat * 6)).off + 2, none⟩ = some (.int .u64 ((rd_T30 x11_26 x17_5).f2)) ∧ w'.cell? ⟨(ad369.add ((x17_5).toNat * 6)).block, (ad369.add ((x17_5).toNat * 6)).off + 3, none⟩ = some (.int .i64 ((rd_T30 x11_26 x17_5).f3)) ∧ w'.cell? ⟨(ad369.add ((x17_5).toNat * 6)).block, (ad369.add ((x17_5).toNat * 6)).off + 4, none⟩ = some (.int .i64 ((rd_T30 x11_26 x17_5).f4)) ∧ w'.cell? ⟨(ad369.add ((x17_5).toNat * 6)).block, (ad369.add ((x17_5).toNat * 6)).off + 5, none⟩ = some (.int .i64 ((rd_T30 x11_26 x17_5).f5)) ∧ w'.cell? (ad369.add ((x17_5).toNat * 6)) = some (.int .i64 ((rd_T30 x11_26 x17_5).f0)) ∧ w'.cell? ⟨(ad369.add ((x17_5).toNat * 6)).block, (ad369.add ((x17_5).toNat * 6)).off + 1, none⟩ = some (.bool ((rd_T30 x11_26 x17_5).f1)) ∧ w'.cell? ⟨(ad369.add ((x17_5).toNat * 6)).block, (ad369.add ((x17_5).toNat * 6)).off + 2, none⟩ = some (.int .u64 ((rd_T30 x11_26 x17_5).f2)) ∧ w'.cell? ⟨(ad369.add ((x17_5).toNat * 6)).block, (ad369.add ((x17_5).toNat * 6)).off + 3, none⟩ = some (.int .i64 ((rd_T30 x11_26 x17_5).f3)) ∧ w'.cell? ⟨(ad369.add ((x17_5).toNat * 6)).block, (ad369.add ((x17_5).toNat * 6)).off + 4, none⟩ = some (.int .i64 ((rd_T30 x11_26 x17_5).f4)) ∧ w'.cell? ⟨(ad369.add ((x17_5).toNat * 6)).block, (ad369.add ((x17_5).toNat * 6)).off + 5, none⟩ = some (.int .i64 ((rd_T30 x11_26 x17_5).f5)) ∧ w'.cell? (ad369.add ((x17_5).toNat * 6)) = some (.int .i64 ((rd_T30 x11_26 x17_5).f0)) ∧ w'.cell? ⟨(ad369.add ((x17_5).toNat * 6)).block, (ad369.add ((x17_5).toNat * 6)).off + 1, none⟩ = some (.bool ((rd_T30 x11_26 x17_5).f1)) ∧ w'.cell? ⟨(ad369.add ((x17_5).toNat * 6)).block, (ad369.add ((x17_5).toNat * 6)).off + 2, none⟩ = some (.int .u64 ((rd_T30 x11_26 x17_5).f2)) ∧ w'.cell? ⟨(ad369.add ((x17_5).toNat * 6)).block, (ad369.add ((x17_5).toNat * 6)).off + 3, none⟩ = some (.int .i64 ((rd_T30 x11_26 x17_5).f3)) ∧ w'.cell? ⟨(ad369.add ((x17_5).toNat * 6)).block, (ad369.add ((x17_5).toNat * 6)).off + 4, none⟩ = some (.int .i64 ((rd_T30 x11_26 x17_5).f4)) ∧ w'.cell? ⟨(ad369.add ((x17_5).toNat * 6)).block, (ad369.add ((x17_5).toNat * 6)).off + 5, none⟩ = some (.int .i64 ((rd_T30 x11_26 x17_5).f5))) (ds := []) #[false, false, false, false, false, false, false, false, false, false, false, false, false, false, false, false, false, false, false, false, false, false, false, false] (by kernel_rfl) rfl rfl ⟨hx369_0, hx369_1, hx369_2, hx369_3, hx369_4, hx369_5, hx370_0, hx370_1, hx370_2, hx370_3, hx370_4, hx370_5, hx371_0, hx371_1, hx371_2, hx371_3, hx371_4, hx371_5⟩ (fun hHeld => ?_); refine with_tabW hatstandlaw15_LinearAlone.tab23 hatstandlaw15_LinearAlone.bits23 (fun HT_ HW_ => ?_)
                                    generalize wc.drew = w47 at HO_11 HO_12 HO_13 HB hx369_0 hx369_1 hx369_2 hx369_3 hx369_4 hx369_5 hx370_0 hx370_1 hx370_2 hx370_3 hx370_4 hx370_5 hx371_0 hx371_1 hx371_2 hx371_3 hx371_4 hx371_5 hHeld ⊢
                                    refine pure_ (i := 0) (N := some 96) (v := ?_) (a' := ?_) #[true, false, false, false, false, false, false, false, false, false, false, false, false, false, false, false, false, false, false, false, false, false, false, false] rfl rfl (any_of HT_.out (by kernel_rfl)) (fun _ _ _ h => h) (Or.inl ⟨by rfl, ?_⟩) ?_ ?_
                                    rotate_left
                                    · intro w'
                                      go_simp
                                      with_reducible rfl
                                    rotate_left
                                    · simp only [Act.put, List.setIfInBounds_toArray, List.set_cons_zero, List.set_cons_succ, i64_w, i32_w, Go.IntKind.wrap_u32]
                                      rfl
                                    refine pure_ (i := 1) (N := some 97) (v := ?_) (a' := ?_) #[true, true, false, false, false, false, false, false, false, false, false, false, false, false, false, false, false, false, false, false, false, false, false, false] rfl rfl (any_of HT_.out (by kernel_rfl)) (fun _ _ _ h => h) (Or.inl ⟨by rfl, ?_⟩) ?_ ?_
                                    rotate_left
                                    · intro w'
                                      go_simp
                                      with_reducible rfl
                                    rotate_left
                                    · simp only [Act.put, List.setIfInBounds_toArray, List.set_cons_zero, List.set_cons_succ, i64_w, i32_w, Go.IntKind.wrap_u32]
                                      rfl
                                    refine pure_ (i := 2) (N := some 98) (v := ?_) (a' := ?_) #[true, true, true, false, false, false, false, false, false, false, false, false, false, false, false, false, false, false, false, false, false, false, false, false] rfl rfl (any_of HT_.out (by kernel_rfl)) (fun _ _ _ h => h) (Or.inl ⟨by rfl, ?_⟩) ?_ ?_
                                    rotate_left
                                    · intro w'
                                      go_simp
                                      with_reducible rfl
                                    rotate_left
                                    · simp only [Act.put, List.setIfInBounds_toArray, List.set_cons_zero, List.set_cons_succ, i64_w, i32_w, Go.IntKind.wrap_u32]
                                      rfl
                                    refine pure_ (i := 3) (N := some 99) (v := ?_) (a' := ?_) #[true, true, true, true, false, false, false, false, false, false, false, false, false, false, false, false, false, false, false, false, false, false, false, false] rfl rfl (any_of HT_.out (by kernel_rfl)) (fun _ _ _ h => h) (Or.inl ⟨by rfl, ?_⟩) ?_ ?_
                                    rotate_left
                                    · intro w'
                                      go_simp
                                      with_reducible rfl
                                    rotate_left
                                    · simp only [Act.put, List.setIfInBounds_toArray, List.set_cons_zero, List.set_cons_succ, i64_w, i32_w, Go.IntKind.wrap_u32]
                                      rfl
                                    refine pure_ (i := 4) (N := some 100) (v := ?_) (a' := ?_) #[true, true, true, true, true, false, false, false, false, false, false, false, false, false, false, false, false, false, false, false, false, false, false, false] rfl rfl (any_of HT_.out (by kernel_rfl)) (fun _ _ _ h => h) (Or.inl ⟨by rfl, ?_⟩) ?_ ?_
                                    rotate_left
                                    · intro w'
                                      go_simp
                                      with_reducible rfl
                                    rotate_left
                                    · simp only [Act.put, List.setIfInBounds_toArray, List.set_cons_zero, List.set_cons_succ, i64_w, i32_w, Go.IntKind.wrap_u32]
                                      rfl
                                    refine pure_ (i := 5) (N := some 101) (v := ?_) (a' := ?_) #[true, true, true, true, true, true, false, false, false, false, false, false, false, false, false, false, false, false, false, false, false, false, false, false] rfl rfl (any_of HT_.out (by kernel_rfl)) (fun _ _ _ h => h) (Or.inl ⟨by rfl, ?_⟩) ?_ ?_
                                    rotate_left
                                    · intro w'
                                      go_simp
                                      with_reducible rfl
                                    rotate_left
                                    · simp only [Act.put, List.setIfInBounds_toArray, List.set_cons_zero, List.set_cons_succ, i64_w, i32_w, Go.IntKind.wrap_u32]
                                      rfl
                                    refine pure_ (i := 7) (N := some 103) (v := ?_) (a' := ?_) #[true, true, true, true, true, true, false, true, false, false, false, false, false, false, false, false, false, false, false, false, false, false, false, false] rfl rfl (any_of HT_.out (by kernel_rfl)) (fun _ _ _ h => h) (Or.inl ⟨by rfl, ?_⟩) ?_ ?_
                                    rotate_left
                                    · intro w'
                                      go_simp
                                      with_reducible rfl
                                    rotate_left
                                    · simp only [Act.put, List.setIfInBounds_toArray, List.set_cons_zero, List.set_cons_succ, i64_w, i32_w, Go.IntKind.wrap_u32]
                                      rfl
                                    refine pure_ (i := 8) (N := some 104) (v := ?_) (a' := ?_) #[true, true, true, true, true, true, false, true, true, false, false, false, false, false, false, false, false, false, false, false, false, false, false, false] rfl rfl (any_of HT_.out (by kernel_rfl)) (fun _ _ _ h => h) (Or.inl ⟨by rfl, ?_⟩) ?_ ?_
                                    rotate_left
                                    · intro w'
                                      go_simp
                                      with_reducible rfl
                                    rotate_left
                                    · simp only [Act.put, List.setIfInBounds_toArray, List.set_cons_zero, List.set_cons_succ, i64_w, i32_w, Go.IntKind.wrap_u32]
                                      rfl
                                    refine pure_ (i := 9) (N := some 105) (v := ?_) (a' := ?_) #[true, true, true, true, true, true, false, true, true, true, false, false, false, false, false, false, false, false, false, false, false, false, false, false] rfl rfl (any_of HT_.out (by kernel_rfl)) (fun _ _ _ h => h) (Or.inl ⟨by rfl, ?_⟩) ?_ ?_
                                    rotate_left
                                    · intro w'
                                      go_simp
                                      with_reducible rfl
                                    rotate_left
                                    · simp only [Act.put, List.setIfInBounds_toArray, List.set_cons_zero, List.set_cons_succ, i64_w, i32_w, Go.IntKind.wrap_u32]
                                      rfl
                                    refine pure_ (i := 10) (N := some 106) (v := ?_) (a' := ?_) #[true, true, true, true, true, true, false, true, true, true, true, false, false, false, false, false, false, false, false, false, false, false, false, false] rfl rfl (any_of HT_.out (by kernel_rfl)) (fun _ _ _ h => h) (Or.inl ⟨by rfl, ?_⟩) ?_ ?_
                                    rotate_left
                                    · intro w'
                                      go_simp
                                      with_reducible rfl
                                    rotate_left
                                    · simp only [Act.put, List.setIfInBounds_toArray, List.set_cons_zero, List.set_cons_succ, i64_w, i32_w, Go.IntKind.wrap_u32]
                                      rfl
                                    refine pure_ (i := 12) (N := some 108) (v := ?_) (a' := ?_) #[true, true, true, true, true, true, false, true, true, true, true, false, true, false, false, false, false, false, false, false, false, false, false, false] rfl rfl (any_of HT_.out (by kernel_rfl)) (fun _ _ _ h => h) (Or.inl ⟨by rfl, ?_⟩) ?_ ?_
                                    rotate_left
                                    · intro w'
                                      go_simp
                                      with_reducible rfl
                                    rotate_left
                                    · simp only [Act.put, List.setIfInBounds_toArray, List.set_cons_zero, List.set_cons_succ, i64_w, i32_w, Go.IntKind.wrap_u32]
                                      rfl
                                    refine pure_ (i := 13) (N := some 109) (v := ?_) (a' := ?_) #[true, true, true, true, true, true, false, true, true, true, true, false, true, true, false, false, false, false, false, false, false, false, false, false] rfl rfl (any_of HT_.out (by kernel_rfl)) (fun _ _ _ h => h) (Or.inl ⟨by rfl, ?_⟩) ?_ ?_
                                    rotate_left
                                    · intro w'
                                      go_simp
                                      with_reducible rfl
                                    rotate_left
                                    · simp only [Act.put, List.setIfInBounds_toArray, List.set_cons_zero, List.set_cons_succ, i64_w, i32_w, Go.IntKind.wrap_u32]
                                      rfl
                                    refine pure_ (i := 14) (N := some 110) (v := ?_) (a' := ?_) #[true, true, true, true, true, true, false, true, true, true, true, false, true, true, true, false, false, false, false, false, false, false, false, false] rfl rfl (any_of HT_.out (by kernel_rfl)) (fun _ _ _ h => h) (Or.inl ⟨by rfl, ?_⟩) ?_ ?_
                                    rotate_left
                                    · intro w'
                                      go_simp
                                      with_reducible rfl
                                    rotate_left
                                    · simp only [Act.put, List.setIfInBounds_toArray, List.set_cons_zero, List.set_cons_succ, i64_w, i32_w, Go.IntKind.wrap_u32]
                                      rfl
                                    refine pure_ (i := 15) (N := some 111) (v := ?_) (a' := ?_) #[true, true, true, true, true, true, false, true, true, true, true, false, true, true, true, true, false, false, false, false, false, false, false, false] rfl rfl (any_of HT_.out (by kernel_rfl)) (fun _ _ _ h => h) (Or.inl ⟨by rfl, ?_⟩) ?_ ?_
                                    rotate_left
                                    · intro w'
                                      go_simp
                                      with_reducible rfl
                                    rotate_left
                                    · simp only [Act.put, List.setIfInBounds_toArray, List.set_cons_zero, List.set_cons_succ, i64_w, i32_w, Go.IntKind.wrap_u32]
                                      rfl
                                    refine take_ (i := 6) (N := some 102) (v := ?_) (a' := ?_) #[true, true, true, true, true, true, true, true, true, true, true, false, true, true, true, true, false, false, false, false, false, false, false, false] rfl rfl (take_ofW HT_.out HW_.out (by kernel_rfl)) (fun _ _ _ h => h) (Or.inl ⟨by rfl, ?_⟩) hHeld ?_ ?_
                                    rotate_left
                                    · rintro w' ⟨s0, s1, s2, s3, s4, s5, s6, s7, s8, s9, s10, s11, s12, s13, s14, s15, s16, s17⟩
                                      go_simp
                                      with_reducible rfl
                                    rotate_left
                                    · simp only [Act.put, List.setIfInBounds_toArray, List.set_cons_zero, List.set_cons_succ, i64_w, i32_w, Go.IntKind.wrap_u32]
                                      rfl
                                    refine take_ (i := 11) (N := some 107) (v := ?_) (a' := ?_) #[true, true, true, true, true, true, true, true, true, true, true, true, true, true, true, true, false, false, false, false, false, false, false, false] rfl rfl (take_ofW HT_.out HW_.out (by kernel_rfl)) (fun _ _ _ h => h) (Or.inl ⟨by rfl, ?_⟩) hHeld ?_ ?_
                                    rotate_left
                                    · rintro w' ⟨s0, s1, s2, s3, s4, s5, s6, s7, s8, s9, s10, s11, s12, s13, s14, s15, s16, s17⟩
                                      go_simp
                                      with_reducible rfl
                                    rotate_left
                                    · simp only [Act.put, List.setIfInBounds_toArray, List.set_cons_zero, List.set_cons_succ, i64_w, i32_w, Go.IntKind.wrap_u32]
                                      rfl
                                    refine take_ (i := 16) (N := some 112) (v := ?_) (a' := ?_) #[true, true, true, true, true, true, true, true, true, true, true, true, true, true, true, true, true, false, false, false, false, false, false, false] rfl rfl (take_ofW HT_.out HW_.out (by kernel_rfl)) (fun _ _ _ h => h) (Or.inl ⟨by rfl, ?_⟩) hHeld ?_ ?_
                                    rotate_left
                                    · rintro w' ⟨s0, s1, s2, s3, s4, s5, s6, s7, s8, s9, s10, s11, s12, s13, s14, s15, s16, s17⟩
                                      go_simp
                                      with_reducible rfl
                                    rotate_left
                                    · simp only [Act.put, List.setIfInBounds_toArray, List.set_cons_zero, List.set_cons_succ, i64_w, i32_w, Go.IntKind.wrap_u32]
                                      rfl
                                    refine pure_ (i := 17) (N := some 113) (v := ?_) (a' := ?_) #[true, true, true, true, true, true, true, true, true, true, true, true, true, true, true, true, true, true, false, false, false, false, false, false] rfl rfl (any_of HT_.out (by kernel_rfl)) (fun _ _ _ h => h) (Or.inl ⟨by rfl, ?_⟩) ?_ ?_
                                    rotate_left
                                    · intro w'
                                      go_simp
                                      with_reducible rfl
                                    rotate_left
                                    · simp only [Act.put, List.setIfInBounds_toArray, List.set_cons_zero, List.set_cons_succ, i64_w, i32_w, Go.IntKind.wrap_u32]
                                      rfl
                                    refine one_ (i := 18) (N := some 114) #[true, true, true, true, true, true, true, true, true, true, true, true, true, true, true, true, true, true, true, false, false, false, false, false] rfl rfl (one_of HT_.out (by kernel_rfl)) (by decide) (fun K hK => ?_)
                                    refine goes_ Try.func14 (by kernel_rfl) rfl #[.slice Ao48 x13_5.length co48, .int .i64 t356, .agg #[.bool ((rd_T30 x11_26 x17_5).f1), .int .u64 ((rd_T30 x11_26 x17_5).f2), .int .i64 ((rd_T30 x11_26 x17_5).f3)]] (by rfl) rfl rfl (by (try simp only [List.map_toArray, List.map_cons, List.map_nil]); first | done | rfl | (simp only [List.length_drop, List.length_take]; rfl)) ?_
                                    with_reducible refine (hatstandref5_Do.calls kj40 _ _ x13_5 t356 ((rd_T30 x11_26 x17_5).f1) ((rd_T30 x11_26 x17_5).f2) ((rd_T30 x11_26 x17_5).f3) t372 t375 _ ?side1 ?side2 A46.out).mono ?_
                                    (case side1 => repeat (first | exact (Kd.R_reads' HO_13.out).2.2 | (with_reducible refine Kd.C_alloc ?_ _) | (with_reducible refine Kd.C_drewN ?_ _) | (with_reducible refine Kd.C_drew ?_)))
                                    (case side2 => exact (Kd.R_reads' HO_13.out).2.1)
                                    rintro e w49 ⟨v373, rfl, ho0, hb⟩
                                    have HS0_ := (hb.cell (World.block_lt_of_cell? _ _ (hHeld.1))).trans (hHeld.1)
                                    have HS1_ := (hb.cell (World.block_lt_of_cell? _ _ (hHeld.2.1))).trans (hHeld.2.1)
                                    have HS2_ := (hb.cell (World.block_lt_of_cell? _ _ (hHeld.2.2.1))).trans (hHeld.2.2.1)
                                    have HS3_ := (hb.cell (World.block_lt_of_cell? _ _ (hHeld.2.2.2.1))).trans (hHeld.2.2.2.1)
                                    have HS4_ := (hb.cell (World.block_lt_of_cell? _ _ (hHeld.2.2.2.2.1))).trans (hHeld.2.2.2.2.1)
                                    have HS5_ := (hb.cell (World.block_lt_of_cell? _ _ (hHeld.2.2.2.2.2.1))).trans (hHeld.2.2.2.2.2.1)
                                    have HS6_ := (hb.cell (World.block_lt_of_cell? _ _ (hHeld.2.2.2.2.2.2.1))).trans (hHeld.2.2.2.2.2.2.1)
                                    have HS7_ := (hb.cell (World.block_lt_of_cell? _ _ (hHeld.2.2.2.2.2.2.2.1))).trans (hHeld.2.2.2.2.2.2.2.1)
                                    have HS8_ := (hb.cell (World.block_lt_of_cell? _ _ (hHeld.2.2.2.2.2.2.2.2.1))).trans (hHeld.2.2.2.2.2.2.2.2.1)
                                    have HS9_ := (hb.cell (World.block_lt_of_cell? _ _ (hHeld.2.2.2.2.2.2.2.2.2.1))).trans (hHeld.2.2.2.2.2.2.2.2.2.1)
                                    have HS10_ := (hb.cell (World.block_lt_of_cell? _ _ (hHeld.2.2.2.2.2.2.2.2.2.2.1))).trans (hHeld.2.2.2.2.2.2.2.2.2.2.1)
                                    have HS11_ := (hb.cell (World.block_lt_of_cell? _ _ (hHeld.2.2.2.2.2.2.2.2.2.2.2.1))).trans (hHeld.2.2.2.2.2.2.2.2.2.2.2.1)
                                    have HS12_ := (hb.cell (World.block_lt_of_cell? _ _ (hHeld.2.2.2.2.2.2.2.2.2.2.2.2.1))).trans (hHeld.2.2.2.2.2.2.2.2.2.2.2.2.1)
                                    have HS13_ := (hb.cell (World.block_lt_of_cell? _ _ (hHeld.2.2.2.2.2.2.2.2.2.2.2.2.2.1))).trans (hHeld.2.2.2.2.2.2.2.2.2.2.2.2.2.1)
                                    have HS14_ := (hb.cell (World.block_lt_of_cell? _ _ (hHeld.2.2.2.2.2.2.2.2.2.2.2.2.2.2.1))).trans (hHeld.2.2.2.2.2.2.2.2.2.2.2.2.2.2.1)
                                    have HS15_ := (hb.cell (World.block_lt_of_cell? _ _ (hHeld.2.2.2.2.2.2.2.2.2.2.2.2.2.2.2.1))).trans (hHeld.2.2.2.2.2.2.2.2.2.2.2.2.2.2.2.1)
                                    have HS16_ := (hb.cell (World.block_lt_of_cell? _ _ (hHeld.2.2.2.2.2.2.2.2.2.2.2.2.2.2.2.2.1))).trans (hHeld.2.2.2.2.2.2.2.2.2.2.2.2.2.2.2.2.1)
                                    have HS17_ := (hb.cell (World.block_lt_of_cell? _ _ (hHeld.2.2.2.2.2.2.2.2.2.2.2.2.2.2.2.2.2))).trans (hHeld.2.2.2.2.2.2.2.2.2.2.2.2.2.2.2.2.2)
                                    refine ⟨_, rfl, ?_⟩
                                    have n0_ := Aside0.mk (Kd.R_below (by (with_reducible repeat (first | apply Kd.R_alloc | apply Kd.R_drewN | apply Kd.R_drew)); exact HO_11.out) hb)
                                    have n1_ := Aside0.mk (Kd.R_below (by (with_reducible repeat (first | apply Kd.R_alloc | apply Kd.R_drewN | apply Kd.R_drew)); exact HO_12.out) hb)
                                    have n2_ := Aside0.mk (Kd.R_elder' (by (with_reducible repeat (first | apply Kd.R_alloc | apply Kd.R_drewN | apply Kd.R_drew)); exact HO_13.out) (Kd.R_base ho0) hb)
                                    have n3_ := Aside0.mk (Kd.R_lower (Kd.R_new' ho0 (Kd.R_lt (by (with_reducible repeat (first | apply Kd.R_alloc | apply Kd.R_drewN | apply Kd.R_drew)); exact HO_13.out))) (below_size (by repeat (first | (with_reducible first | exact HB.out | apply below_alloc | apply pw_below_drewN | apply below_drew1) | exact HB.out))))
                                    have n4_ := Aside0.mk (below_step (by repeat (first | (with_reducible first | exact HB.out | apply below_alloc | apply pw_below_drewN | apply below_drew1) | exact HB.out)) hb)
                                    clear HO_11
                                    clear HO_12
                                    clear HO_13
                                    clear HB
                                    have HO_11 := n0_
                                    have HO_12 := n1_
                                    have HO_13 := n2_
                                    have HO374 := n3_
                                    have HB := n4_
                                    clear n0_ n1_ n2_ n3_ n4_
                                    (try clear hb)
                                    (try clear hb2)
                                    (try clear hk)
                                    (try clear hi)
                                    (try clear ho0)
                                    refine hK.out _ _ ⟨HS0_, HS1_, HS2_, HS3_, HS4_, HS5_, HS6_, HS7_, HS8_, HS9_, HS10_, HS11_, HS12_, HS13_, HS14_, HS15_, HS16_, HS17_⟩ (fun hHeld => ?_)
                                    clear hK K
                                    refine norm_ (a' := ?_) ?_ ?_
                                    rotate_left
                                    · show Act.put _ (some 114) _ = _
                                      simp only [Act.put, List.setIfInBounds_toArray, List.set_cons_zero, List.set_cons_succ, i64_w, i32_w, Go.IntKind.wrap_u32]
                                      rfl
                                    refine pure_ (i := 19) (N := some 95) (v := ?_) (a' := ?_) #[true, true, true, true, true, true, true, true, true, true, true, true, true, true, true, true, true, true, true, true, false, false, false, false] rfl rfl (any_of HT_.out (by kernel_rfl)) (fun _ _ _ h => h) (Or.inl ⟨by rfl, ?_⟩) ?_ ?_
                                    rotate_left
                                    · intro w'
                                      go_simp
                                      with_reducible rfl
                                    rotate_left
                                    · simp only [Act.put, List.setIfInBounds_toArray, List.set_cons_zero, List.set_cons_succ, i64_w, i32_w, Go.IntKind.wrap_u32]
                                      rfl
                                    refine pure_ (i := 20) (N := some 115) (v := ?_) (a' := ?_) #[true, true, true, true, true, true, true, true, true, true, true, true, true, true, true, true, true, true, true, true, true, false, false, false] rfl rfl (any_of HT_.out (by kernel_rfl)) (fun _ _ _ h => h) (Or.inl ⟨by rfl, ?_⟩) ?_ ?_
                                    rotate_left
                                    · intro w'
                                      go_simp
                                      with_reducible rfl
                                    rotate_left
                                    · simp only [Act.put, List.setIfInBounds_toArray, List.set_cons_zero, List.set_cons_succ, i64_w, i32_w, Go.IntKind.wrap_u32]
                                      rfl
                                    refine pure_ (i := 21) (N := some 116) (v := ?_) (a' := ?_) #[true, true, true, true, true, true, true, true, true, true, true, true, true, true, true, true, true, true, true, true, true, true, false, false] rfl rfl (any_of HT_.out (by kernel_rfl)) (fun _ _ _ h => h) (Or.inl ⟨by rfl, ?_⟩) ?_ ?_
                                    rotate_left
                                    · intro w'
                                      go_simp
                                      with_reducible rfl
                                    rotate_left
                                    · simp only [Act.put, List.setIfInBounds_toArray, List.set_cons_zero, List.set_cons_succ, i64_w, i32_w, Go.IntKind.wrap_u32]
                                      rfl
                                    refine pure_ (i := 22) (N := some 18) (v := ?_) (a' := ?_) #[true, true, true, true, true, true, true, true, true, true, true, true, true, true, true, true, true, true, true, true, true, true, true, false] rfl rfl (any_of HT_.out (by kernel_rfl)) (fun _ _ _ h => h) (Or.inl ⟨by rfl, ?_⟩) ?_ ?_
                                    rotate_left
                                    · intro w'
                                      go_simp
                                      with_reducible rfl
                                    rotate_left
                                    · simp only [Act.put, List.setIfInBounds_toArray, List.set_cons_zero, List.set_cons_succ, i64_w, i32_w, Go.IntKind.wrap_u32]
                                      rfl
                                    refine pure_ (i := 23) (N := some 19) (v := ?_) (a' := ?_) #[true, true, true, true, true, true, true, true, true, true, true, true, true, true, true, true, true, true, true, true, true, true, true, true] rfl rfl (any_of HT_.out (by kernel_rfl)) (fun _ _ _ h => h) (Or.inl ⟨by rfl, ?_⟩) ?_ ?_
                                    rotate_left
                                    · intro w'
                                      go_simp
                                      with_reducible rfl
                                    rotate_left
                                    · simp only [Act.put, List.setIfInBounds_toArray, List.set_cons_zero, List.set_cons_succ, i64_w, i32_w, Go.IntKind.wrap_u32]
                                      rfl
                                    refine done_ (done_of HT_.out (by kernel_rfl)) ?_
                                    try go_wp2
                                    go_roundg kj40
                                    case measure => have := HJ5.out; have := HK2.out; have := HJ23.out; have := HJ26.out; have := HK5.out; have := HJ40.out; omega
                                    case rel => exact ⟨(t372), (t375), (wrap64 (x17_5 + 1)), (by first | rfl | (simp; done) | (simp [*]; done)), (by first | rfl | (simp; done) | (simp [*]; done)), H', ⟨by have := HJ5.out; have := HK2.out; have := HJ23.out; have := HJ26.out; have := HK5.out; have := HJ40.out; omega⟩, ⟨by (try simp only [hl11_26]); (with_reducible repeat (first | apply Kd.R_alloc | apply Kd.R_drewN | apply Kd.R_drew)); exact HO_11.out⟩, ⟨by (try simp only [hl11_26]); (with_reducible repeat (first | apply Kd.R_alloc | apply Kd.R_drewN | apply Kd.R_drew)); exact HO_12.out⟩, ⟨by (try simp only [hl11_26]); (with_reducible repeat (first | apply Kd.R_alloc | apply Kd.R_drewN | apply Kd.R_drew)); exact Kd.R_mono HO374.out (fun _ hk => trivial)⟩, ⟨by repeat (first | (with_reducible first | exact HB.out | apply below_alloc | apply pw_below_drewN | apply below_drew1) | exact HB.out)⟩⟩
                                  · rw [if_neg c45] at H
                                    exact absurd H (by simp)
                                · rw [if_neg c44] at H
                                  exact absurd H (by simp)
                              · replace c43 := Bool.eq_false_iff.mpr c43
                                subst c43
                                have H1 : ((linear_Find.f x11_26 t356).bind fun bt376 => ((linear_Fits.f kj40 x11_26 t356 x12_2).bind fun t380 => (if (t380 == x16_5) = true then (if (bt376.2 == x16_5) = true then (if bt376.2 = true then ((hatstandref15_SameInts.f kj40 bt376.1 x12_2).bind fun t381 => (if t381 = true then ((history_Alone.f kj40 x11_26).bind fun t382 => (some t382)) else (some false))) else ((history_Alone.f kj40 x11_26).bind fun t383 => (some t383))) else (some false)) else (some false)))) = some r := by rw [if_neg (show ¬ (false = true) by decide)] at H; exact H
                                clear H
                                have H := H1
                                clear H1
                                replace H := Option.bind_eq_some_iff.mp H
                                obtain ⟨⟨t376, t377⟩, A500, H⟩ := H
                                replace H : ((linear_Fits.f kj40 x11_26 t356 x12_2).bind fun t380 => (if (t380 == x16_5) = true then (if (t377 == x16_5) = true then (if t377 = true then ((hatstandref15_SameInts.f kj40 t376 x12_2).bind fun t381 => (if t381 = true then ((history_Alone.f kj40 x11_26).bind fun t382 => (some t382)) else (some false))) else ((history_Alone.f kj40 x11_26).bind fun t383 => (some t383))) else (some false)) else (some false))) = some r := H
                                have A50 := Aside0.mk A500
                                clear A500
                                replace H := Option.bind_eq_some_iff.mp H
                                obtain ⟨t380, A510, H⟩ := H
                                replace H : (if (t380 == x16_5) = true then (if (t377 == x16_5) = true then (if t377 = true then ((hatstandref15_SameInts.f kj40 t376 x12_2).bind fun t381 => (if t381 = true then ((history_Alone.f kj40 x11_26).bind fun t382 => (some t382)) else (some false))) else ((history_Alone.f kj40 x11_26).bind fun t383 => (some t383))) else (some false)) else (some false)) = some r := H
                                have A51 := Aside0.mk A510
                                clear A510
                                by_cases c52 : (t380 == x16_5) = true
                                · rw [if_pos c52] at H
                                  have c52b0 : (t380 == x16_5) = true := c52
                                  (try (have c52b1 : decide (t380 = x16_5) = true := by simpa using c52))
                                  (try (have c52b2 : (t380 == x16_5) = true := by simpa using c52))
                                  clear c52
                                  by_cases c53 : (t377 == x16_5) = true
                                  · rw [if_pos c53] at H
                                    have c53b0 : (t377 == x16_5) = true := c53
                                    (try (have c53b1 : decide (t377 = x16_5) = true := by simpa using c53))
                                    (try (have c53b2 : (t377 == x16_5) = true := by simpa using c53))
                                    clear c53
                                    by_cases c54 : t377 = true
                                    · subst c54
                                      have H1 : ((hatstandref15_SameInts.f kj40 t376 x12_2).bind fun t381 => (if t381 = true then ((history_Alone.f kj40 x11_26).bind fun t382 => (some t382)) else (some false))) = some r := by rw [if_pos rfl] at H; exact H
                                      clear H
                                      have H := H1
                                      clear H1
                                      replace H := Option.bind_eq_some_iff.mp H
                                      obtain ⟨t381, A550, H⟩ := H
                                      replace H : (if t381 = true then ((history_Alone.f kj40 x11_26).bind fun t382 => (some t382)) else (some false)) = some r := H
                                      have A55 := Aside0.mk A550
                                      clear A550
                                      by_cases c56 : t381 = true
                                      · subst c56
                                        have H1 : ((history_Alone.f kj40 x11_26).bind fun t382 => (some t382)) = some r := by rw [if_pos rfl] at H; exact H
                                        clear H
                                        have H := H1
                                        clear H1
                                        replace H := Option.bind_eq_some_iff.mp H
                                        obtain ⟨t382, A570, H⟩ := H
                                        replace H : (some t382) = some r := H
                                        have A57 := Aside0.mk A570
                                        clear A570
                                        obtain rfl := Option.some.inj H
                                        go_wp2_with (first | ((with_reducible refine gate_callee (f := 12) rfl ?_); refine goesL_ (some 122) rfl rfl Try.func12 (by kernel_rfl) rfl #[.slice Ao25 x11_26.length co25, .int .i64 t356] rfl (by (try simp only [List.map_toArray, List.map_cons, List.map_nil]); first | done | rfl | (simp only [List.length_drop, List.length_take]; rfl)) ?_; (with_reducible refine (linear_Find.calls _ _ x11_26 t356 t376 true _ ?side1 ?side2 A50.out).mono ?_); (case side1 => repeat (first | exact (Kd.R_reads' HO_11.out).2.2 | (with_reducible refine Kd.C_alloc ?_ _) | (with_reducible refine Kd.C_drewN ?_ _) | (with_reducible refine Kd.C_drew ?_))); (case side2 => exact (Kd.R_reads' HO_11.out).2.1); rintro e w58 ⟨v378, rfl, ho0, hb⟩; refine ⟨_, rfl, ?_⟩; have n0_ := Aside0.mk (Kd.R_below (by (with_reducible repeat (first | apply Kd.R_alloc | apply Kd.R_drewN | apply Kd.R_drew)); exact HO_11.out) hb); have n1_ := Aside0.mk (Kd.R_elder' (by (with_reducible repeat (first | apply Kd.R_alloc | apply Kd.R_drewN | apply Kd.R_drew)); exact HO_12.out) (Kd.R_base ho0) hb); have n2_ := Aside0.mk (Kd.R_below (by (with_reducible repeat (first | apply Kd.R_alloc | apply Kd.R_drewN | apply Kd.R_drew)); exact HO_13.out) hb); have n3_ := Aside0.mk (Kd.R_lower (Kd.R_new' ho0 (Kd.R_lt (by (with_reducible repeat (first | apply Kd.R_alloc | apply Kd.R_drewN | apply Kd.R_drew)); exact HO_12.out))) (below_size (by repeat (first | (with_reducible first | exact HB.out | apply below_alloc | apply pw_below_drewN | apply below_drew1) | exact HB.out)))); have n4_ := Aside0.mk (below_step (by repeat (first | (with_reducible first | exact HB.out | apply below_alloc | apply pw_below_drewN | apply below_drew1) | exact HB.out)) hb); clear HO_11; clear HO_12; clear HO_13; clear HB; have HO_11 := n0_; have HO_12 := n1_; have HO_13 := n2_; have HO379 := n3_; have HB := n4_; clear n0_ n1_ n2_ n3_ n4_; (try clear hb); (try clear hb2); (try clear hk); (try clear hi); (try clear ho0); obtain ⟨Ao59, co59, eo59⟩ := Kd.R_slice HO_12.out; subst eo59) | ((with_reducible refine gate_callee (f := 13) rfl ?_); refine goesL_ (some 128) rfl rfl Try.func13 (by kernel_rfl) rfl #[.slice Ao25 x11_26.length co25, .int .i64 t356, .slice Ao59 x12_2.length co59] rfl (by (try simp only [List.map_toArray, List.map_cons, List.map_nil]); first | done | rfl | (simp only [List.length_drop, List.length_take]; rfl)) ?_; (with_reducible refine (linear_Fits.calls kj40 _ _ x11_26 t356 _ _ x12_2 t380 _ ?side1 ?side2 ?side3 ?side4 A51.out).mono ?_); (case side1 => repeat (first | exact (Kd.R_reads' HO_11.out).2.2 | (with_reducible refine Kd.C_alloc ?_ _) | (with_reducible refine Kd.C_drewN ?_ _) | (with_reducible refine Kd.C_drew ?_))); (case side2 => exact (Kd.R_reads' HO_11.out).2.1); (case side3 => repeat (first | exact (Kd.R_reads' HO_12.out).2.2 | (with_reducible refine Kd.C_alloc ?_ _) | (with_reducible refine Kd.C_drewN ?_ _) | (with_reducible refine Kd.C_drew ?_))); (case side4 => exact (Kd.R_reads' HO_12.out).2.1); rintro e w60 ⟨rfl, hb⟩; refine ⟨_, rfl, ?_⟩; have n0_ := Aside0.mk (Kd.R_below (by (with_reducible repeat (first | apply Kd.R_alloc | apply Kd.R_drewN | apply Kd.R_drew)); exact HO_11.out) hb); have n1_ := Aside0.mk (Kd.R_below (by (with_reducible repeat (first | apply Kd.R_alloc | apply Kd.R_drewN | apply Kd.R_drew)); exact HO_12.out) hb); have n2_ := Aside0.mk (Kd.R_below (by (with_reducible repeat (first | apply Kd.R_alloc | apply Kd.R_drewN | apply Kd.R_drew)); exact HO_13.out) hb); have n3_ := Aside0.mk (Kd.R_below (by (with_reducible repeat (first | apply Kd.R_alloc | apply Kd.R_drewN | apply Kd.R_drew)); exact HO379.out) hb); have n4_ := Aside0.mk (below_step (by repeat (first | (with_reducible first | exact HB.out | apply below_alloc | apply pw_below_drewN | apply below_drew1) | exact HB.out)) hb); clear HO_11; clear HO_12; clear HO_13; clear HO379; clear HB; have HO_11 := n0_; have HO_12 := n1_; have HO_13 := n2_; have HO379 := n3_; have HB := n4_; clear n0_ n1_ n2_ n3_ n4_; (try clear hb); (try clear hb2); (try clear hk); (try clear hi); obtain ⟨Ao61, co61, eo61⟩ := Kd.R_slice HO379.out; subst eo61) | (go_at_call 15; (with_reducible refine (hatstandref15_SameInts.calls kj40 _ _ t376 _ _ x12_2 true _ ?side1 ?side2 ?side3 ?side4 A55.out).mono ?_); (case side1 => repeat (first | exact (Kd.R_reads' HO379.out).2.2 | (with_reducible refine Kd.C_alloc ?_ _) | (with_reducible refine Kd.C_drewN ?_ _) | (with_reducible refine Kd.C_drew ?_))); (case side2 => exact (Kd.R_reads' HO379.out).2.1); (case side3 => repeat (first | exact (Kd.R_reads' HO_12.out).2.2 | (with_reducible refine Kd.C_alloc ?_ _) | (with_reducible refine Kd.C_drewN ?_ _) | (with_reducible refine Kd.C_drew ?_))); (case side4 => exact (Kd.R_reads' HO_12.out).2.1); rintro e w' ⟨rfl, ⟨nd, rfl⟩⟩) | (go_at_call 16; (with_reducible refine (history_Alone.calls kj40 _ _ x11_26 t382 _ ?side1 ?side2 A57.out).mono ?_); (case side1 => repeat (first | exact (Kd.R_reads' HO_11.out).2.2 | (with_reducible refine Kd.C_alloc ?_ _) | (with_reducible refine Kd.C_drewN ?_ _) | (with_reducible refine Kd.C_drew ?_))); (case side2 => exact (Kd.R_reads' HO_11.out).2.1); rintro e w62 ⟨rfl, hb⟩; have n0_ := Aside0.mk (Kd.R_below (by (with_reducible repeat (first | apply Kd.R_alloc | apply Kd.R_drewN | apply Kd.R_drew)); exact HO_11.out) hb); have n1_ := Aside0.mk (Kd.R_below (by (with_reducible repeat (first | apply Kd.R_alloc | apply Kd.R_drewN | apply Kd.R_drew)); exact HO_12.out) hb); have n2_ := Aside0.mk (Kd.R_below (by (with_reducible repeat (first | apply Kd.R_alloc | apply Kd.R_drewN | apply Kd.R_drew)); exact HO_13.out) hb); have n3_ := Aside0.mk (Kd.R_below (by (with_reducible repeat (first | apply Kd.R_alloc | apply Kd.R_drewN | apply Kd.R_drew)); exact HO379.out) hb); have n4_ := Aside0.mk (below_step (by repeat (first | (with_reducible first | exact HB.out | apply below_alloc | apply pw_below_drewN | apply below_drew1) | exact HB.out)) hb); clear HO_11; clear HO_12; clear HO_13; clear HO379; clear HB; have HO_11 := n0_; have HO_12 := n1_; have HO_13 := n2_; have HO379 := n3_; have HB := n4_; clear n0_ n1_ n2_ n3_ n4_; (try clear hb); (try clear hb2); (try clear hk); (try clear hi)))
                                        go_ret
                                        exact ⟨by first | rfl | (simp [errW_none, errW_some] <;> rfl) | (simp [*, errW_none, errW_some] <;> rfl), by repeat (first | (with_reducible first | exact HB.out | apply below_alloc | apply pw_below_drewN | apply below_drew1) | exact HB.out)⟩
                                      · replace c56 := Bool.eq_false_iff.mpr c56
                                        subst c56
                                        have H1 : (some false) = some r := by rw [if_neg (show ¬ (false = true) by decide)] at H; exact H
                                        clear H
                                        have H := H1
                                        clear H1
                                        exact absurd ((Option.some.inj H).trans HT0.out) (by decide)
                                    · replace c54 := Bool.eq_false_iff.mpr c54
                                      subst c54
                                      have H1 : ((history_Alone.f kj40 x11_26).bind fun t383 => (some t383)) = some r := by rw [if_neg (show ¬ (false = true) by decide)] at H; exact H
                                      clear H
                                      have H := H1
                                      clear H1
                                      replace H := Option.bind_eq_some_iff.mp H
                                      obtain ⟨t383, A630, H⟩ := H
                                      replace H : (some t383) = some r := H
                                      have A63 := Aside0.mk A630
                                      clear A630
                                      obtain rfl := Option.some.inj H
                                      go_wp2_with (first | ((with_reducible refine gate_callee (f := 12) rfl ?_); refine goesL_ (some 122) rfl rfl Try.func12 (by kernel_rfl) rfl #[.slice Ao25 x11_26.length co25, .int .i64 t356] rfl (by (try simp only [List.map_toArray, List.map_cons, List.map_nil]); first | done | rfl | (simp only [List.length_drop, List.length_take]; rfl)) ?_; (with_reducible refine (linear_Find.calls _ _ x11_26 t356 t376 false _ ?side1 ?side2 A50.out).mono ?_); (case side1 => repeat (first | exact (Kd.R_reads' HO_11.out).2.2 | (with_reducible refine Kd.C_alloc ?_ _) | (with_reducible refine Kd.C_drewN ?_ _) | (with_reducible refine Kd.C_drew ?_))); (case side2 => exact (Kd.R_reads' HO_11.out).2.1); rintro e w64 ⟨v378, rfl, ho0, hb⟩; refine ⟨_, rfl, ?_⟩; have n0_ := Aside0.mk (Kd.R_below (by (with_reducible repeat (first | apply Kd.R_alloc | apply Kd.R_drewN | apply Kd.R_drew)); exact HO_11.out) hb); have n1_ := Aside0.mk (Kd.R_elder' (by (with_reducible repeat (first | apply Kd.R_alloc | apply Kd.R_drewN | apply Kd.R_drew)); exact HO_12.out) (Kd.R_base ho0) hb); have n2_ := Aside0.mk (Kd.R_below (by (with_reducible repeat (first | apply Kd.R_alloc | apply Kd.R_drewN | apply Kd.R_drew)); exact HO_13.out) hb); have n3_ := Aside0.mk (Kd.R_lower (Kd.R_new' ho0 (Kd.R_lt (by (with_reducible repeat (first | apply Kd.R_alloc | apply Kd.R_drewN | apply Kd.R_drew)); exact HO_12.out))) (below_size (by repeat (first | (with_reducible first | exact HB.out | apply below_alloc | apply pw_below_drewN | apply below_drew1) | exact HB.out)))); have n4_ := Aside0.mk (below_step (by repeat (first | (with_reducible first | exact HB.out | apply below_alloc | apply pw_below_drewN | apply below_drew1) | exact HB.out)) hb); clear HO_11; clear HO_12; clear HO_13; clear HB; have HO_11 := n0_; have HO_12 := n1_; have HO_13 := n2_; have HO379 := n3_; have HB := n4_; clear n0_ n1_ n2_ n3_ n4_; (try clear hb); (try clear hb2); (try clear hk); (try clear hi); (try clear ho0); obtain ⟨Ao65, co65, eo65⟩ := Kd.R_slice HO_12.out; subst eo65) | ((with_reducible refine gate_callee (f := 13) rfl ?_); refine goesL_ (some 128) rfl rfl Try.func13 (by kernel_rfl) rfl #[.slice Ao25 x11_26.length co25, .int .i64 t356, .slice Ao65 x12_2.length co65] rfl (by (try simp only [List.map_toArray, List.map_cons, List.map_nil]); first | done | rfl | (simp only [List.length_drop, List.length_take]; rfl)) ?_; (with_reducible refine (linear_Fits.calls kj40 _ _ x11_26 t356 _ _ x12_2 t380 _ ?side1 ?side2 ?side3 ?side4 A51.out).mono ?_); (case side1 => repeat (first | exact (Kd.R_reads' HO_11.out).2.2 | (with_reducible refine Kd.C_alloc ?_ _) | (with_reducible refine Kd.C_drewN ?_ _) | (with_reducible refine Kd.C_drew ?_))); (case side2 => exact (Kd.R_reads' HO_11.out).2.1); (case side3 => repeat (first | exact (Kd.R_reads' HO_12.out).2.2 | (with_reducible refine Kd.C_alloc ?_ _) | (with_reducible refine Kd.C_drewN ?_ _) | (with_reducible refine Kd.C_drew ?_))); (case side4 => exact (Kd.R_reads' HO_12.out).2.1); rintro e w66 ⟨rfl, hb⟩; refine ⟨_, rfl, ?_⟩; have n0_ := Aside0.mk (Kd.R_below (by (with_reducible repeat (first | apply Kd.R_alloc | apply Kd.R_drewN | apply Kd.R_drew)); exact HO_11.out) hb); have n1_ := Aside0.mk (Kd.R_below (by (with_reducible repeat (first | apply Kd.R_alloc | apply Kd.R_drewN | apply Kd.R_drew)); exact HO_12.out) hb); have n2_ := Aside0.mk (Kd.R_below (by (with_reducible repeat (first | apply Kd.R_alloc | apply Kd.R_drewN | apply Kd.R_drew)); exact HO_13.out) hb); have n3_ := Aside0.mk (Kd.R_below (by (with_reducible repeat (first | apply Kd.R_alloc | apply Kd.R_drewN | apply Kd.R_drew)); exact HO379.out) hb); have n4_ := Aside0.mk (below_step (by repeat (first | (with_reducible first | exact HB.out | apply below_alloc | apply pw_below_drewN | apply below_drew1) | exact HB.out)) hb); clear HO_11; clear HO_12; clear HO_13; clear HO379; clear HB; have HO_11 := n0_; have HO_12 := n1_; have HO_13 := n2_; have HO379 := n3_; have HB := n4_; clear n0_ n1_ n2_ n3_ n4_; (try clear hb); (try clear hb2); (try clear hk); (try clear hi)) | (go_at_call 16; (with_reducible refine (history_Alone.calls kj40 _ _ x11_26 t383 _ ?side1 ?side2 A63.out).mono ?_); (case side1 => repeat (first | exact (Kd.R_reads' HO_11.out).2.2 | (with_reducible refine Kd.C_alloc ?_ _) | (with_reducible refine Kd.C_drewN ?_ _) | (with_reducible refine Kd.C_drew ?_))); (case side2 => exact (Kd.R_reads' HO_11.out).2.1); rintro e w67 ⟨rfl, hb⟩; have n0_ := Aside0.mk (Kd.R_below (by (with_reducible repeat (first | apply Kd.R_alloc | apply Kd.R_drewN | apply Kd.R_drew)); exact HO_11.out) hb); have n1_ := Aside0.mk (Kd.R_below (by (with_reducible repeat (first | apply Kd.R_alloc | apply Kd.R_drewN | apply Kd.R_drew)); exact HO_12.out) hb); have n2_ := Aside0.mk (Kd.R_below (by (with_reducible repeat (first | apply Kd.R_alloc | apply Kd.R_drewN | apply Kd.R_drew)); exact HO_13.out) hb); have n3_ := Aside0.mk (Kd.R_below (by (with_reducible repeat (first | apply Kd.R_alloc | apply Kd.R_drewN | apply Kd.R_drew)); exact HO379.out) hb); have n4_ := Aside0.mk (below_step (by repeat (first | (with_reducible first | exact HB.out | apply below_alloc | apply pw_below_drewN | apply below_drew1) | exact HB.out)) hb); clear HO_11; clear HO_12; clear HO_13; clear HO379; clear HB; have HO_11 := n0_; have HO_12 := n1_; have HO_13 := n2_; have HO379 := n3_; have HB := n4_; clear n0_ n1_ n2_ n3_ n4_; (try clear hb); (try clear hb2); (try clear hk); (try clear hi)))
                                      go_ret
                                      exact ⟨by first | rfl | (simp [errW_none, errW_some] <;> rfl) | (simp [*, errW_none, errW_some] <;> rfl), by repeat (first | (with_reducible first | exact HB.out | apply below_alloc | apply pw_below_drewN | apply below_drew1) | exact HB.out)⟩
                                  · rw [if_neg c53] at H
                                    have c53b0 : (t377 == x16_5) = false := by simpa using c53
                                    (try (have c53b1 : decide (t377 = x16_5) = false := by simpa using c53))
                                    (try (have c53b2 : (t377 == x16_5) = false := by simpa using c53))
                                    (try (have c53b3 : ¬ (t377 = x16_5) := by simpa using c53))
                                    clear c53
                                    exact absurd ((Option.some.inj H).trans HT0.out) (by decide)
                                · rw [if_neg c52] at H
                                  have c52b0 : (t380 == x16_5) = false := by simpa using c52
                                  (try (have c52b1 : decide (t380 = x16_5) = false := by simpa using c52))
                                  (try (have c52b2 : (t380 == x16_5) = false := by simpa using c52))
                                  (try (have c52b3 : ¬ (t380 = x16_5) := by simpa using c52))
                                  clear c52
                                  exact absurd ((Option.some.inj H).trans HT0.out) (by decide)

/-- THE ONE PURE STATEMENT of hatstandlaw15_LinearAlone. -/
def hatstandlaw15_LinearAlone.Pure : Prop := ∀ (l0 : List (S51)) (a1 : Int) (a2 : Int) (a3 : Int), l0.length ≤ maxLen → l0.length * 24 ≤ 140737488351232 → (∀ x ∈ l0, (Lit.int .u64 x.f2).wf = true ∧ (Lit.int .i64 x.f3).wf = true) → (Lit.int .i64 a1).wf = true → (Lit.int .i64 a2).wf = true → (Lit.int .i64 a3).wf = true → ∃ k, hatstandlaw15_LinearAlone.f k l0 a1 a2 a3 = some true
theorem hatstandlaw15_LinearAlone.walk (P : hatstandlaw15_LinearAlone.Pure) (A0 : Option Addr) (c0 : Nat) (l0 : List (S51)) (a1 : Int) (a2 : Int) (a3 : Int) (w : World) (hr0 : Kd.C k51 w A0 l0.length l0) (hc0 : l0.length ≤ c0) (hm0 : l0.length ≤ maxLen) (y0 : l0.length * 24 ≤ 140737488351232) (hw0 : (∀ x ∈ l0, (Lit.int .u64 x.f2).wf = true ∧ (Lit.int .i64 x.f3).wf = true)) (hw1 : (Lit.int .i64 a1).wf = true) (hw2 : (Lit.int .i64 a2).wf = true) (hw3 : (Lit.int .i64 a3).wf = true) :
    Calls Try.prog 4 #[.slice A0 l0.length c0, .int .i64 a1, .int .i64 a2, .int .i64 a3] w fun e w' => e = .returned (.bool true) ∧ Below w.heap.size w w' := by
  obtain ⟨k, h⟩ := P l0 a1 a2 a3 hm0 y0 hw0 hw1 hw2 hw3
  refine (hatstandlaw15_LinearAlone.calls k A0 c0 l0 a1 a2 a3 true w hr0 hc0 h rfl).mono ?_
  rintro e w' ⟨rfl, hd⟩
  exact ⟨rfl, hd⟩

end Go.Proofs.Ytdcnnphgcapiaaa.P
