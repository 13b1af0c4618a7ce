/- Walks, written by a program for this claim: each Go function that the laws reach comes to what its Lean function says. -/
import Derived.Test.YtmdjmfbinjnlcaaPx0
import Derived.Test.YtmdjmfbinjnlcaaPx4
import Derived.Test.YtmdjmfbinjnlcaaPx6
import Derived.Test.YtmdjmfbinjnlcaaPx7
import Derived.Test.YtmdjmfbinjnlcaaPx9
namespace Go.Proofs.Ytmdjmfbinjnlcaa.P
open Go.RowKit Go.Proofs.YtmdjmfbinjnlcaaW.PrintWords Go.Proofs.YtmdjmfbinjnlcaaW.PrintLast Go.Proofs.YtmdjmfbinjnlcaaW.PrintMore
attribute [local go_sem] max2_int min2_int max_two min_two max_three min_three max_four min_four   -- for this text's walks alone
set_option linter.unusedVariables false
set_option linter.unusedSimpArgs false

/-! ### hatstandlaw14_HistoryOrder: function 7 -/
mutual
def hatstandlaw14_HistoryOrder.j0 : Nat → List (S61) → Int → Int → Int → Bool → Bool → Option (Bool)
 | 0, _, _, _, _, _, _ => none
 | k + 1, x0, x1, x2, x3, x9, x25 => if x25 = true then (some x9) else ((hatstandlaw14_events.f k x0).bind fun t271 => ((history_Calls.f t271).bind fun bt274 => (if bt274.2 = 0 then (hatstandlaw14_HistoryOrder.l0 k x1 x2 x3 bt274.1 true 0) else (some false))))
def hatstandlaw14_HistoryOrder.l0 : Nat → Int → Int → Int → List (S45) → Bool → Int → Option (Bool)
 | 0, _, _, _, _, _, _ => none
 | k + 1, x1, x2, x3, x10, x12, x13 => if x13 < (x10.length : Int) then (hatstandlaw14_HistoryOrder.l1 k x1 x2 x3 x10 x12 x13 (wrap64 (x13 + 1))) else ((history_Alone.f k x10).bind fun t289 => (if (t289 != x12) = true then (some false) else (if (x10.length : Int) = 0 then (some true) else ((hatstandlaw14_pick.f x1 (x10.length : Int)).bind fun t290 => (if 0 ≤ t290 then (if t290 < (x10.length : Int) then ((hatstandlaw14_pick.f x2 (x10.length : Int)).bind fun t293 => (if 0 ≤ t293 then (if t293 < (x10.length : Int) then ((hatstandlaw14_pick.f x3 (x10.length : Int)).bind fun t296 => (if 0 ≤ t296 then (if t296 < (x10.length : Int) then ((history_Ahead.f ((rd_T45 x10 t290).f0) ((rd_T45 x10 t290).f1) ((rd_T45 x10 t290).f2) ((rd_T45 x10 t290).f3) ((rd_T45 x10 t290).f4) ((rd_T45 x10 t290).f5) ((rd_T45 x10 t290).f0) ((rd_T45 x10 t290).f1) ((rd_T45 x10 t290).f2) ((rd_T45 x10 t290).f3) ((rd_T45 x10 t290).f4) ((rd_T45 x10 t290).f5)).bind fun t299 => (if t299 = true then (some false) else ((history_Ahead.f ((rd_T45 x10 t290).f0) ((rd_T45 x10 t290).f1) ((rd_T45 x10 t290).f2) ((rd_T45 x10 t290).f3) ((rd_T45 x10 t290).f4) ((rd_T45 x10 t290).f5) ((rd_T45 x10 t293).f0) ((rd_T45 x10 t293).f1) ((rd_T45 x10 t293).f2) ((rd_T45 x10 t293).f3) ((rd_T45 x10 t293).f4) ((rd_T45 x10 t293).f5)).bind fun t300 => (if t300 = true then ((history_Ahead.f ((rd_T45 x10 t293).f0) ((rd_T45 x10 t293).f1) ((rd_T45 x10 t293).f2) ((rd_T45 x10 t293).f3) ((rd_T45 x10 t293).f4) ((rd_T45 x10 t293).f5) ((rd_T45 x10 t296).f0) ((rd_T45 x10 t296).f1) ((rd_T45 x10 t296).f2) ((rd_T45 x10 t296).f3) ((rd_T45 x10 t296).f4) ((rd_T45 x10 t296).f5)).bind fun t301 => (if t301 = true then ((history_Ahead.f ((rd_T45 x10 t290).f0) ((rd_T45 x10 t290).f1) ((rd_T45 x10 t290).f2) ((rd_T45 x10 t290).f3) ((rd_T45 x10 t290).f4) ((rd_T45 x10 t290).f5) ((rd_T45 x10 t296).f0) ((rd_T45 x10 t296).f1) ((rd_T45 x10 t296).f2) ((rd_T45 x10 t296).f3) ((rd_T45 x10 t296).f4) ((rd_T45 x10 t296).f5)).bind fun t302 => (some t302)) else (some true))) else (some true))))) else (none)) else (none))) else (none)) else (none))) else (none)) else (none))))))
def hatstandlaw14_HistoryOrder.l1 : Nat → Int → Int → Int → List (S45) → Bool → Int → Int → Option (Bool)
 | 0, _, _, _, _, _, _, _ => none
 | k + 1, x1, x2, x3, x10, x12, x13, x14 => if x14 < (x10.length : Int) then (if x12 = true then (if 0 ≤ x13 then (if x13 < (x10.length : Int) then (if 0 ≤ x14 then ((history_Ahead.f ((rd_T45 x10 x13).f0) ((rd_T45 x10 x13).f1) ((rd_T45 x10 x13).f2) ((rd_T45 x10 x13).f3) ((rd_T45 x10 x13).f4) ((rd_T45 x10 x13).f5) ((rd_T45 x10 x14).f0) ((rd_T45 x10 x14).f1) ((rd_T45 x10 x14).f2) ((rd_T45 x10 x14).f3) ((rd_T45 x10 x14).f4) ((rd_T45 x10 x14).f5)).bind fun t280 => (hatstandlaw14_HistoryOrder.j3 k x1 x2 x3 x10 t280 x13 x14)) else (none)) else (none)) else (none)) else (hatstandlaw14_HistoryOrder.j3 k x1 x2 x3 x10 false x13 x14)) else (hatstandlaw14_HistoryOrder.l0 k x1 x2 x3 x10 x12 (wrap64 (x13 + 1)))
def hatstandlaw14_HistoryOrder.j3 : Nat → Int → Int → Int → List (S45) → Bool → Int → Int → Option (Bool)
 | 0, _, _, _, _, _, _, _ => none
 | k + 1, x1, x2, x3, x10, x12, x13, x14 => if 0 ≤ x14 then (if x14 < (x10.length : Int) then (if 0 ≤ x13 then (if x13 < (x10.length : Int) then ((history_Ahead.f ((rd_T45 x10 x14).f0) ((rd_T45 x10 x14).f1) ((rd_T45 x10 x14).f2) ((rd_T45 x10 x14).f3) ((rd_T45 x10 x14).f4) ((rd_T45 x10 x14).f5) ((rd_T45 x10 x13).f0) ((rd_T45 x10 x13).f1) ((rd_T45 x10 x13).f2) ((rd_T45 x10 x13).f3) ((rd_T45 x10 x13).f4) ((rd_T45 x10 x13).f5)).bind fun t283 => (if t283 = true then (hatstandlaw14_HistoryOrder.j4 k x1 x2 x3 x10 x12 x13 x14 true) else (if ((rd_T45 x10 x13).f0) = ((rd_T45 x10 x14).f0) then ((history_Ahead.f ((rd_T45 x10 x13).f0) ((rd_T45 x10 x13).f1) ((rd_T45 x10 x13).f2) ((rd_T45 x10 x13).f3) ((rd_T45 x10 x13).f4) ((rd_T45 x10 x13).f5) ((rd_T45 x10 x14).f0) ((rd_T45 x10 x14).f1) ((rd_T45 x10 x14).f2) ((rd_T45 x10 x14).f3) ((rd_T45 x10 x14).f4) ((rd_T45 x10 x14).f5)).bind fun t288 => (hatstandlaw14_HistoryOrder.j4 k x1 x2 x3 x10 x12 x13 x14 (!t288))) else (hatstandlaw14_HistoryOrder.j4 k x1 x2 x3 x10 x12 x13 x14 false)))) else (none)) else (none)) else (none)) else (none)
def hatstandlaw14_HistoryOrder.j4 : Nat → Int → Int → Int → List (S45) → Bool → Int → Int → Bool → Option (Bool)
 | 0, _, _, _, _, _, _, _, _ => none
 | k + 1, x1, x2, x3, x10, x12, x13, x14, x94 => if x94 = true then (some false) else (hatstandlaw14_HistoryOrder.l1 k x1 x2 x3 x10 x12 x13 (wrap64 (x14 + 1)))
end
def hatstandlaw14_HistoryOrder.f (k : Nat) (l0 : List (S61)) (a1 : Int) (a2 : Int) (a3 : Int) : Option (Bool) := (hatstandlaw14_shown.f k).bind fun t270 => (if t270 = true then (hatstandlaw14_HistoryOrder.j0 k l0 a1 a2 a3 t270 (decide ((l0.length : Int) > 100))) else (hatstandlaw14_HistoryOrder.j0 k l0 a1 a2 a3 t270 true))
theorem hatstandlaw14_HistoryOrder.mono_l : ∀ k, (∀ y0 y1 y2 y3 y4 y5, LeO (hatstandlaw14_HistoryOrder.j0 k y0 y1 y2 y3 y4 y5) (hatstandlaw14_HistoryOrder.j0 (k + 1) y0 y1 y2 y3 y4 y5)) ∧ (∀ y0 y1 y2 y3 y4 y5, LeO (hatstandlaw14_HistoryOrder.l0 k y0 y1 y2 y3 y4 y5) (hatstandlaw14_HistoryOrder.l0 (k + 1) y0 y1 y2 y3 y4 y5)) ∧ (∀ y0 y1 y2 y3 y4 y5 y6, LeO (hatstandlaw14_HistoryOrder.l1 k y0 y1 y2 y3 y4 y5 y6) (hatstandlaw14_HistoryOrder.l1 (k + 1) y0 y1 y2 y3 y4 y5 y6)) ∧ (∀ y0 y1 y2 y3 y4 y5 y6, LeO (hatstandlaw14_HistoryOrder.j3 k y0 y1 y2 y3 y4 y5 y6) (hatstandlaw14_HistoryOrder.j3 (k + 1) y0 y1 y2 y3 y4 y5 y6)) ∧ (∀ y0 y1 y2 y3 y4 y5 y6 y7, LeO (hatstandlaw14_HistoryOrder.j4 k y0 y1 y2 y3 y4 y5 y6 y7) (hatstandlaw14_HistoryOrder.j4 (k + 1) y0 y1 y2 y3 y4 y5 y6 y7))
 | 0 => ⟨fun _ _ _ _ _ _ r h => by simp [hatstandlaw14_HistoryOrder.j0] at h, fun _ _ _ _ _ _ r h => by simp [hatstandlaw14_HistoryOrder.l0] at h, fun _ _ _ _ _ _ _ r h => by simp [hatstandlaw14_HistoryOrder.l1] at h, fun _ _ _ _ _ _ _ r h => by simp [hatstandlaw14_HistoryOrder.j3] at h, fun _ _ _ _ _ _ _ _ r h => by simp [hatstandlaw14_HistoryOrder.j4] at h⟩
 | k + 1 => by
  obtain ⟨ih0, ih1, ih2, ih3, ih4⟩ := hatstandlaw14_HistoryOrder.mono_l k
  refine ⟨?_, ?_, ?_, ?_, ?_⟩
  ·intro y0 y1 y2 y3 y4 y5
   unfold hatstandlaw14_HistoryOrder.j0
   repeat' first
   | (with_reducible exact ih0 _ _ _ _ _ _)
   | (with_reducible exact ih1 _ _ _ _ _ _)
   | (with_reducible exact ih2 _ _ _ _ _ _ _)
   | (with_reducible exact ih3 _ _ _ _ _ _ _)
   | (with_reducible exact ih4 _ _ _ _ _ _ _ _)
   | (with_reducible exact hatstandlaw14_events.mono _ _)
   | (with_reducible exact hatstandlaw14_shown.mono _)
   | (with_reducible exact history_Alone.mono _ _)
   | (with_reducible exact LeO.refl _)
   | (with_reducible exact LeO.none _)
   | (with_reducible refine LeO.ite ?_ ?_)
   | (with_reducible refine LeO.bind ?_ (fun _ => ?_))
   | exact ih0 _ _ _ _ _ _
   | exact ih1 _ _ _ _ _ _
   | exact ih2 _ _ _ _ _ _ _
   | exact ih3 _ _ _ _ _ _ _
   | exact ih4 _ _ _ _ _ _ _ _
   | exact hatstandlaw14_events.mono _ _
   | exact hatstandlaw14_shown.mono _
   | exact history_Alone.mono _ _
   | exact LeO.none _
   | refine LeO.ite ?_ ?_
   | refine LeO.bind ?_ (fun _ => ?_)
  ·intro y0 y1 y2 y3 y4 y5
   unfold hatstandlaw14_HistoryOrder.l0
   repeat' first
   | (with_reducible exact ih0 _ _ _ _ _ _)
   | (with_reducible exact ih1 _ _ _ _ _ _)
   | (with_reducible exact ih2 _ _ _ _ _ _ _)
   | (with_reducible exact ih3 _ _ _ _ _ _ _)
   | (with_reducible exact ih4 _ _ _ _ _ _ _ _)
   | (with_reducible exact hatstandlaw14_events.mono _ _)
   | (with_reducible exact hatstandlaw14_shown.mono _)
   | (with_reducible exact history_Alone.mono _ _)
   | (with_reducible exact LeO.refl _)
   | (with_reducible exact LeO.none _)
   | (with_reducible refine LeO.ite ?_ ?_)
   | (with_reducible refine LeO.bind ?_ (fun _ => ?_))
   | exact ih0 _ _ _ _ _ _
   | exact ih1 _ _ _ _ _ _
   | exact ih2 _ _ _ _ _ _ _
   | exact ih3 _ _ _ _ _ _ _
   | exact ih4 _ _ _ _ _ _ _ _
   | exact hatstandlaw14_events.mono _ _
   | exact hatstandlaw14_shown.mono _
   | exact history_Alone.mono _ _
   | exact LeO.none _
   | refine LeO.ite ?_ ?_
   | refine LeO.bind ?_ (fun _ => ?_)
  ·intro y0 y1 y2 y3 y4 y5 y6
   unfold hatstandlaw14_HistoryOrder.l1
   repeat' first
   | (with_reducible exact ih0 _ _ _ _ _ _)
   | (with_reducible exact ih1 _ _ _ _ _ _)
   | (with_reducible exact ih2 _ _ _ _ _ _ _)
   | (with_reducible exact ih3 _ _ _ _ _ _ _)
   | (with_reducible exact ih4 _ _ _ _ _ _ _ _)
   | (with_reducible exact hatstandlaw14_events.mono _ _)
   | (with_reducible exact hatstandlaw14_shown.mono _)
   | (with_reducible exact history_Alone.mono _ _)
   | (with_reducible exact LeO.refl _)
   | (with_reducible exact LeO.none _)
   | (with_reducible refine LeO.ite ?_ ?_)
   | (with_reducible refine LeO.bind ?_ (fun _ => ?_))
   | exact ih0 _ _ _ _ _ _
   | exact ih1 _ _ _ _ _ _
   | exact ih2 _ _ _ _ _ _ _
   | exact ih3 _ _ _ _ _ _ _
   | exact ih4 _ _ _ _ _ _ _ _
   | exact hatstandlaw14_events.mono _ _
   | exact hatstandlaw14_shown.mono _
   | exact history_Alone.mono _ _
   | exact LeO.none _
   | refine LeO.ite ?_ ?_
   | refine LeO.bind ?_ (fun _ => ?_)
  ·intro y0 y1 y2 y3 y4 y5 y6
   unfold hatstandlaw14_HistoryOrder.j3
   repeat' first
   | (with_reducible exact ih0 _ _ _ _ _ _)
   | (with_reducible exact ih1 _ _ _ _ _ _)
   | (with_reducible exact ih2 _ _ _ _ _ _ _)
   | (with_reducible exact ih3 _ _ _ _ _ _ _)
   | (with_reducible exact ih4 _ _ _ _ _ _ _ _)
   | (with_reducible exact hatstandlaw14_events.mono _ _)
   | (with_reducible exact hatstandlaw14_shown.mono _)
   | (with_reducible exact history_Alone.mono _ _)
   | (with_reducible exact LeO.refl _)
   | (with_reducible exact LeO.none _)
   | (with_reducible refine LeO.ite ?_ ?_)
   | (with_reducible refine LeO.bind ?_ (fun _ => ?_))
   | exact ih0 _ _ _ _ _ _
   | exact ih1 _ _ _ _ _ _
   | exact ih2 _ _ _ _ _ _ _
   | exact ih3 _ _ _ _ _ _ _
   | exact ih4 _ _ _ _ _ _ _ _
   | exact hatstandlaw14_events.mono _ _
   | exact hatstandlaw14_shown.mono _
   | exact history_Alone.mono _ _
   | exact LeO.none _
   | refine LeO.ite ?_ ?_
   | refine LeO.bind ?_ (fun _ => ?_)
  ·intro y0 y1 y2 y3 y4 y5 y6 y7
   unfold hatstandlaw14_HistoryOrder.j4
   repeat' first
   | (with_reducible exact ih0 _ _ _ _ _ _)
   | (with_reducible exact ih1 _ _ _ _ _ _)
   | (with_reducible exact ih2 _ _ _ _ _ _ _)
   | (with_reducible exact ih3 _ _ _ _ _ _ _)
   | (with_reducible exact ih4 _ _ _ _ _ _ _ _)
   | (with_reducible exact hatstandlaw14_events.mono _ _)
   | (with_reducible exact hatstandlaw14_shown.mono _)
   | (with_reducible exact history_Alone.mono _ _)
   | (with_reducible exact LeO.refl _)
   | (with_reducible exact LeO.none _)
   | (with_reducible refine LeO.ite ?_ ?_)
   | (with_reducible refine LeO.bind ?_ (fun _ => ?_))
   | exact ih0 _ _ _ _ _ _
   | exact ih1 _ _ _ _ _ _
   | exact ih2 _ _ _ _ _ _ _
   | exact ih3 _ _ _ _ _ _ _
   | exact ih4 _ _ _ _ _ _ _ _
   | exact hatstandlaw14_events.mono _ _
   | exact hatstandlaw14_shown.mono _
   | exact history_Alone.mono _ _
   | exact LeO.none _
   | refine LeO.ite ?_ ?_
   | refine LeO.bind ?_ (fun _ => ?_)
theorem hatstandlaw14_HistoryOrder.mono : ∀ a0 a1 a2 a3 k, LeO (hatstandlaw14_HistoryOrder.f k a0 a1 a2 a3) (hatstandlaw14_HistoryOrder.f (k + 1) a0 a1 a2 a3) := by
 intro a0 a1 a2 a3 k
 obtain ⟨ih0, ih1, ih2, ih3, ih4⟩ := hatstandlaw14_HistoryOrder.mono_l k
 unfold hatstandlaw14_HistoryOrder.f
 repeat' first
   | (with_reducible exact ih0 _ _ _ _ _ _)
   | (with_reducible exact ih1 _ _ _ _ _ _)
   | (with_reducible exact ih2 _ _ _ _ _ _ _)
   | (with_reducible exact ih3 _ _ _ _ _ _ _)
   | (with_reducible exact ih4 _ _ _ _ _ _ _ _)
   | (with_reducible exact hatstandlaw14_events.mono _ _)
   | (with_reducible exact hatstandlaw14_shown.mono _)
   | (with_reducible exact history_Alone.mono _ _)
   | (with_reducible exact LeO.refl _)
   | (with_reducible exact LeO.none _)
   | (with_reducible refine LeO.ite ?_ ?_)
   | (with_reducible refine LeO.bind ?_ (fun _ => ?_))
   | exact ih0 _ _ _ _ _ _
   | exact ih1 _ _ _ _ _ _
   | exact ih2 _ _ _ _ _ _ _
   | exact ih3 _ _ _ _ _ _ _
   | exact ih4 _ _ _ _ _ _ _ _
   | exact hatstandlaw14_events.mono _ _
   | exact hatstandlaw14_shown.mono _
   | exact history_Alone.mono _ _
   | exact LeO.none _
   | refine LeO.ite ?_ ?_
   | refine LeO.bind ?_ (fun _ => ?_)
def hatstandlaw14_HistoryOrder.T14 : Bool × List (List Nat × List Nat) := (true, [([], []), ([0], [0]), ([1], [1]), ([1], [1]), ([2, 3, 1], [1, 2, 3]), ([4, 1], [1, 4]), ([1], [1]), ([1], [1]), ([6, 7, 1], [1, 6, 7]), ([8, 1], [1, 8]), ([5, 9, 1, 1], [1, 5, 9]), ([1, 10], [1, 10]), ([11, 10, 0, 1, 2, 3, 4, 5, 6, 7, 8, 9, 10, 11], [0, 11])])
def hatstandlaw14_HistoryOrder.B14 : List Nat := [0, 1, 3, 3, 15, 31, 3, 3, 195, 451, 1023, 2047, 4095]
theorem hatstandlaw14_HistoryOrder.tab14 : rtab .any (opsOf Try.f7 14) = hatstandlaw14_HistoryOrder.T14 := by kernel_rfl
theorem hatstandlaw14_HistoryOrder.bits14 : waitsOk hatstandlaw14_HistoryOrder.T14.2 hatstandlaw14_HistoryOrder.B14 = true := by kernel_rfl
def hatstandlaw14_HistoryOrder.T15 : Bool × List (List Nat × List Nat) := (true, [([], []), ([], []), ([0, 1], [0, 1]), ([2], [2]), ([], []), ([], []), ([4, 5], [4, 5]), ([6], [6]), ([3, 7], [3, 7]), ([8, 8], [8]), ([9], [9]), ([9], [9]), ([10, 11, 9], [9, 10, 11]), ([12, 9], [9, 12]), ([13, 9], [9, 13]), ([9], [9]), ([9], [9]), ([15, 16, 9], [9, 15, 16]), ([17, 9], [9, 17]), ([18, 9], [9, 18]), ([14, 19, 9], [9, 14, 19]), ([20, 9, 9], [9, 20]), ([21], [21]), ([21], [21]), ([22, 23, 21], [21, 22, 23]), ([24, 21], [21, 24]), ([21], [21]), ([21], [21]), ([26, 27, 21], [21, 26, 27]), ([28, 21], [21, 28]), ([25, 29, 21, 21], [21, 25, 29]), ([30, 21], [21, 30]), ([21, 31, 9], [9, 21, 31]), ([9, 32], [9, 32])])
def hatstandlaw14_HistoryOrder.B15 : List Nat := [0, 0, 3, 7, 0, 0, 48, 112, 255, 511, 1023, 1023, 4095, 8191, 16383, 1023, 1023, 99327, 230399, 492543, 1048575, 2097151, 4194303, 4194303, 16777215, 33554431, 4194303, 4194303, 205520895, 473956351, 1073741823, 2147483647, 4294967295, 8589934591]
theorem hatstandlaw14_HistoryOrder.tab15 : rtab .any (opsOf Try.f7 15) = hatstandlaw14_HistoryOrder.T15 := by kernel_rfl
theorem hatstandlaw14_HistoryOrder.bits15 : waitsOk hatstandlaw14_HistoryOrder.T15.2 hatstandlaw14_HistoryOrder.B15 = true := by kernel_rfl
theorem hatstandlaw14_HistoryOrder.j4_dead {k : Nat} {y0 : Int} {y1 : Int} {y2 : Int} {y3 : List (S45)} {y4 : Bool} {y5 : Int} {y6 : Int} {r : Bool} (h : hatstandlaw14_HistoryOrder.j4 k y0 y1 y2 y3 y4 y5 y6 true = some r) (hr : r = true) : ∀ {p : Prop}, p := by
  cases k with
  | zero => exact absurd h (by simp [hatstandlaw14_HistoryOrder.j4])
  | succ k => exact absurd h (by rw [hatstandlaw14_HistoryOrder.j4, if_pos rfl, hr]; exact fun e => Bool.noConfusion (Option.some.inj e))
set_option maxHeartbeats 8000000 in
set_option maxRecDepth 100000 in
theorem hatstandlaw14_HistoryOrder.calls (k : Nat) (A0 : Option Addr) (c0 : Nat) (l0 : List (S61)) (a1 : Int) (a2 : Int) (a3 : Int) (r : Bool) (w : World) (hr0 : Kd.C k61 w A0 l0.length l0) (hc0 : l0.length ≤ c0) (h : hatstandlaw14_HistoryOrder.f k l0 a1 a2 a3 = some r) (ht_ : r = true) :
  Calls Try.prog 7 #[.slice A0 l0.length c0, .int .i64 a1, .int .i64 a2, .int .i64 a3] w fun e w' => e = .returned (.bool r) ∧ Below w.heap.size w w' := by
 have hu45 := Try.underlying45
 have HR0 := Aside0.mk hr0
 have HC0 := Aside0.mk hc0
 clear hr0 hc0
 have HB := Aside0.mk (Below.refl w.heap.size w)
 have HT0 := Aside0.mk ht_
 clear ht_
 have H : ((hatstandlaw14_shown.f k).bind fun t270 => (if t270 = true then (hatstandlaw14_HistoryOrder.j0 k l0 a1 a2 a3 t270 (decide ((l0.length : Int) > 100))) else (hatstandlaw14_HistoryOrder.j0 k l0 a1 a2 a3 t270 true))) = some r := h
 clear h
 replace H := Option.bind_eq_some_iff.mp H
 obtain ⟨t270, A50, H⟩ := H
 replace H : (if t270 = true then (hatstandlaw14_HistoryOrder.j0 k l0 a1 a2 a3 t270 (decide ((l0.length : Int) > 100))) else (hatstandlaw14_HistoryOrder.j0 k l0 a1 a2 a3 t270 true)) = some r := H
 have A5 := Aside0.mk A50
 clear A50
 have HC6 := Aside0.mk H
 clear H
 go_enter Try.func7, Try.ntmps7
 go_upto_region 2 with (first | ((with_reducible refine gate_callee (f := 9) rfl ?_); refine goesL_ (some 18) rfl rfl Try.func9 (by kernel_rfl) rfl #[] rfl (by first | rfl | ((try simp only [List.map_toArray, List.map_cons, List.map_nil]); first | done | rfl)) ?_; (with_reducible refine (hatstandlaw14_shown.calls k  t270 _ A5.out).mono ?_); rintro e w7 ⟨rfl, hb⟩; refine ⟨_, rfl, ?_⟩; have n0_ := Aside0.mk (below_step (by with_reducible repeat (first | exact HB.out | apply below_alloc | apply pw_below_drewN | apply below_drew1)) hb); clear HB; have HB := n0_; clear n0_; (try clear hb); (try clear hb2); (try clear hk); (try clear hi)))
 (try simp only [Act.put, List.setIfInBounds_toArray, List.set_cons_zero, List.set_cons_succ])
 go_cut [25] (fun v25 wc => ∃ (kq : Nat) (x25_5 : Bool), v25 = .bool x25_5 ∧ Aside0 (hatstandlaw14_HistoryOrder.j0 kq l0 a1 a2 a3 t270 x25_5 = some r) ∧ Aside0 (kq ≤ k) ∧ Aside0 (Below w.heap.size w wc))
 case first =>
  have H := HC6.out
  clear HC6
  by_cases c8 : t270 = true
  ·subst c8
   have H1 : (hatstandlaw14_HistoryOrder.j0 k l0 a1 a2 a3 true (decide ((l0.length : Int) > 100))) = some r := by rw [if_pos rfl] at H; exact H
   clear H
   have H := H1
   clear H1
   have H' := Aside0.mk H
   clear H
   go_wp2
   go_meet
   case rel => exact ⟨_, (decide ((l0.length : Int) > 100)), (by first | rfl | (simp; done) | (simp [*]; done)), H', ⟨by first | omega | exact Nat.le_refl _⟩, ⟨by repeat (first | (with_reducible first | exact HB.out | apply below_alloc | apply pw_below_drewN | apply below_drew1) | exact HB.out)⟩⟩
  ·replace c8 := Bool.eq_false_iff.mpr c8
   subst c8
   have H1 : (hatstandlaw14_HistoryOrder.j0 k l0 a1 a2 a3 false true) = some r := by rw [if_neg (show ¬ (false = true) by decide)] at H; exact H
   clear H
   have H := H1
   clear H1
   have H' := Aside0.mk H
   clear H
   go_wp2
   go_meet
   case rel => exact ⟨_, (true), (by first | rfl | (simp; done) | (simp [*]; done)), H', ⟨by first | omega | exact Nat.le_refl _⟩, ⟨by repeat (first | (with_reducible first | exact HB.out | apply below_alloc | apply pw_below_drewN | apply below_drew1) | exact HB.out)⟩⟩
 case rest =>
  clear HC6
  try clear p2
  try clear c7
  try clear c8
  obtain ⟨kq, x25_5, rfl, HA, HJ5, HB⟩ := hcut
  cases kq with
  | zero => exact absurd HA.out (by simp [hatstandlaw14_HistoryOrder.j0])
  | succ kj5 =>
   have H := HA.out
   clear HA
   simp only [hatstandlaw14_HistoryOrder.j0] at H
   by_cases c9 : x25_5 = true
   ·subst c9
    have H1 : (some t270) = some r := by rw [if_pos rfl] at H; exact H
    clear H
    have H := H1
    clear H1
    obtain rfl := Option.some.inj H
    go_wp2
    go_ret
    exact ⟨by first | rfl | (simp [errW_none, errW_some] <;> rfl) | (simp [*, errW_none, errW_some] <;> rfl), by repeat (first | (with_reducible first | exact HB.out | apply below_alloc | apply pw_below_drewN | apply below_drew1) | exact HB.out)⟩
   ·replace c9 := Bool.eq_false_iff.mpr c9
    subst c9
    have H1 : ((hatstandlaw14_events.f kj5 l0).bind fun t271 => ((history_Calls.f t271).bind fun bt274 => (if bt274.2 = 0 then (hatstandlaw14_HistoryOrder.l0 kj5 a1 a2 a3 bt274.1 true 0) else (some false)))) = some r := by rw [if_neg (show ¬ (false = true) by decide)] at H; exact H
    clear H
    have H := H1
    clear H1
    replace H := Option.bind_eq_some_iff.mp H
    obtain ⟨t271, A100, H⟩ := H
    replace H : ((history_Calls.f t271).bind fun bt274 => (if bt274.2 = 0 then (hatstandlaw14_HistoryOrder.l0 kj5 a1 a2 a3 bt274.1 true 0) else (some false))) = some r := H
    have A10 := Aside0.mk A100
    clear A100
    replace H := Option.bind_eq_some_iff.mp H
    obtain ⟨⟨t274, t275⟩, A110, H⟩ := H
    replace H : (if t275 = 0 then (hatstandlaw14_HistoryOrder.l0 kj5 a1 a2 a3 t274 true 0) else (some false)) = some r := H
    have A11 := Aside0.mk A110
    clear A110
    by_cases c12 : t275 = 0
    ·rw [if_pos c12] at H
     have c12b0 : (t275 == 0) = true := beq_iff_eq.mpr c12
     have c12b1 : (t275 != 0) = false := bne_eq_false_iff_eq.mpr c12
     clear c12
     have H' := Aside0.mk H
     clear H
     go_wp2_with (first | ((with_reducible refine gate_callee (f := 17) rfl ?_); refine goesL_ (some 29) rfl rfl Try.func17 (by kernel_rfl) rfl #[.slice A0 l0.length c0] rfl (by first | rfl | ((try simp only [List.map_toArray, List.map_cons, List.map_nil]); first | done | rfl)) ?_; (with_reducible refine (hatstandlaw14_events.calls kj5 _ _ l0 t271 _ ?side1 ?side2 A10.out).mono ?_); (case side1 => repeat (first | exact (Kd.C_below HR0.out HB.out) | (with_reducible refine Kd.C_alloc ?_ _) | (with_reducible refine Kd.C_drewN ?_ _) | (with_reducible refine Kd.C_drew ?_))); (case side2 => exact HC0.out); rintro e w13 ⟨v272, rfl, ho0, hb⟩; refine ⟨_, rfl, ?_⟩; have n0_ := Aside0.mk (Kd.R_lower ho0 (below_size (by with_reducible repeat (first | exact HB.out | apply below_alloc | apply pw_below_drewN | apply below_drew1)))); have n1_ := Aside0.mk (below_step (by with_reducible repeat (first | exact HB.out | apply below_alloc | apply pw_below_drewN | apply below_drew1)) hb); clear HB; have HO273 := n0_; have HB := n1_; clear n0_ n1_; (try clear hb); (try clear ho0); obtain ⟨Ao14, co14, eo14⟩ := Kd.R_slice HO273.out; subst eo14) | ((with_reducible refine gate_callee (f := 13) rfl ?_); refine goesL_ (some 30) rfl rfl Try.func13 (by kernel_rfl) rfl #[.slice Ao14 t271.length co14] rfl (by first | rfl | ((try simp only [List.map_toArray, List.map_cons, List.map_nil]); first | done | rfl)) ?_; (with_reducible refine (history_Calls.calls _ _ t271 t274 t275 _ ?side1 ?side2 A11.out).mono ?_); (case side1 => repeat (first | exact (Kd.R_reads' HO273.out).2.2 | (with_reducible refine Kd.C_alloc ?_ _) | (with_reducible refine Kd.C_drewN ?_ _) | (with_reducible refine Kd.C_drew ?_))); (case side2 => exact (Kd.R_reads' HO273.out).2.1); rintro e w15 ⟨v276, rfl, ho0, hb⟩; refine ⟨_, rfl, ?_⟩; have n0_ := Aside0.mk (Kd.R_below (by (with_reducible repeat (first | apply Kd.R_alloc | apply Kd.R_drewN | apply Kd.R_drew)); exact HO273.out) hb); have n1_ := Aside0.mk (Kd.R_lower ho0 (below_size (by with_reducible repeat (first | exact HB.out | apply below_alloc | apply pw_below_drewN | apply below_drew1)))); have n2_ := Aside0.mk (below_step (by with_reducible repeat (first | exact HB.out | apply below_alloc | apply pw_below_drewN | apply below_drew1)) hb); clear HO273; clear HB; have HO273 := n0_; have HO277 := n1_; have HB := n2_; clear n0_ n1_ n2_; (try clear hb); (try clear ho0)))
     go_loopg [12, 13] kj5 (fun kq v12 v13 w' => ∃ (x12_2 : Bool) (x13_2 : Int), v12 = .bool x12_2 ∧ v13 = .int .i64 x13_2 ∧ Aside0 (hatstandlaw14_HistoryOrder.l0 kq a1 a2 a3 t274 x12_2 x13_2 = some r) ∧ Aside0 (kq ≤ kj5) ∧ Aside0 (Kd.R k45 45 w' w.heap.size (fun _ => True) v276 t274) ∧ Aside0 (Below w.heap.size w w'))
     case atStart => exact ⟨(true), (0), (by first | rfl | (simp; done) | (simp [*]; done)), (by first | rfl | (simp; done) | (simp [*]; done)), H', ⟨Nat.le_refl _⟩, ⟨by (with_reducible repeat (first | apply Kd.R_alloc | apply Kd.R_drewN | apply Kd.R_drew)); exact HO277.out⟩, ⟨by repeat (first | (with_reducible first | exact HB.out | apply below_alloc | apply pw_below_drewN | apply below_drew1) | exact HB.out)⟩⟩
     case round =>
      clear H'
      try clear c1
      try clear p2
      try clear c7
      try clear c8
      try clear c9
      try clear c12
      try clear c12b0
      try clear c12b1
      try clear c13
      try clear p2
      obtain ⟨x12_2, x13_2, rfl, rfl, HA, HK2, HO_10, HB⟩ := hrel
      cases gk with
      | zero => exact absurd HA.out (by simp [hatstandlaw14_HistoryOrder.l0])
      | succ k2 =>
       have H := HA.out
       clear HA
       simp only [hatstandlaw14_HistoryOrder.l0] at H
       by_cases c16 : x13_2 < (t274.length : Int)
       ·rw [if_pos c16] at H
        have c16b0 : decide (x13_2 < (t274.length : Int)) = true := decide_eq_true c16
        clear c16
        have H' := Aside0.mk H
        clear H
        obtain ⟨Ao17, co17, eo17⟩ := Kd.R_slice HO_10.out
        subst eo17
        go_wp2
        go_loopg [12, 14] k2 (fun kq v12 v14 w' => ∃ (x12_3 : Bool) (x14_3 : Int), v12 = .bool x12_3 ∧ v14 = .int .i64 x14_3 ∧ Aside0 (hatstandlaw14_HistoryOrder.l1 kq a1 a2 a3 t274 x12_3 x13_2 x14_3 = some r) ∧ Aside0 (kq ≤ k2) ∧ Aside0 (Kd.R k45 45 w' w.heap.size (fun _ => True) (.slice Ao17 t274.length co17) t274) ∧ Aside0 (Below w.heap.size w w'))
        case atStart => exact ⟨(x12_2), (wrap64 (x13_2 + 1)), (by first | rfl | (simp; done) | (simp [*]; done)), (by first | rfl | (simp; done) | (simp [*]; done)), H', ⟨Nat.le_refl _⟩, ⟨by (with_reducible repeat (first | apply Kd.R_alloc | apply Kd.R_drewN | apply Kd.R_drew)); exact HO_10.out⟩, ⟨by repeat (first | (with_reducible first | exact HB.out | apply below_alloc | apply pw_below_drewN | apply below_drew1) | exact HB.out)⟩⟩
        case round =>
         clear H'
         try clear c1
         try clear p2
         try clear p6
         try clear c7
         try clear c8
         try clear c9
         try clear c12
         try clear c12b0
         try clear c12b1
         try clear c13
         try clear c16
         try clear c16b0
         try clear c17
         try clear p2
         obtain ⟨x12_3, x14_3, rfl, rfl, HA, HK3, HO_10, HB⟩ := hrel
         cases gk with
         | zero => exact absurd HA.out (by simp [hatstandlaw14_HistoryOrder.l1])
         | succ k3 =>
          have H := HA.out
          clear HA
          simp only [hatstandlaw14_HistoryOrder.l1] at H
          by_cases c18 : x14_3 < (t274.length : Int)
          ·rw [if_pos c18] at H
           have c18b0 : decide (x14_3 < (t274.length : Int)) = true := decide_eq_true c18
           clear c18
           have HC19 := Aside0.mk H
           clear H
           go_upto_region 14 with (fail)
           go_cut [12] (fun v12 wc => ∃ (kq : Nat) (x12_18 : Bool), v12 = .bool x12_18 ∧ Aside0 (hatstandlaw14_HistoryOrder.j3 kq a1 a2 a3 t274 x12_18 x13_2 x14_3 = some r) ∧ Aside0 (kq ≤ k3) ∧ Aside0 (Kd.R k45 45 wc w.heap.size (fun _ => True) (.slice Ao17 t274.length co17) t274) ∧ Aside0 (Below w.heap.size w wc))
           case first =>
            have H := HC19.out
            clear HC19
            by_cases c20 : x12_3 = true
            ·subst c20
             have H1 : (if 0 ≤ x13_2 then (if x13_2 < (t274.length : Int) then (if 0 ≤ x14_3 then ((history_Ahead.f ((rd_T45 t274 x13_2).f0) ((rd_T45 t274 x13_2).f1) ((rd_T45 t274 x13_2).f2) ((rd_T45 t274 x13_2).f3) ((rd_T45 t274 x13_2).f4) ((rd_T45 t274 x13_2).f5) ((rd_T45 t274 x14_3).f0) ((rd_T45 t274 x14_3).f1) ((rd_T45 t274 x14_3).f2) ((rd_T45 t274 x14_3).f3) ((rd_T45 t274 x14_3).f4) ((rd_T45 t274 x14_3).f5)).bind fun t280 => (hatstandlaw14_HistoryOrder.j3 k3 a1 a2 a3 t274 t280 x13_2 x14_3)) else (none)) else (none)) else (none)) = some r := by rw [if_pos rfl] at H; exact H
             clear H
             have H := H1
             clear H1
             by_cases c21 : 0 ≤ x13_2
             ·rw [if_pos c21] at H
              have c21b0 : decide (0 ≤ x13_2) = true := decide_eq_true c21
              clear c21
              (first | rw [c21b0] | (simp only [i64_w, i32_w, Go.IntKind.wrap_u32]; rw [c21b0]) | skip)
              by_cases c22 : x13_2 < (t274.length : Int)
              ·rw [if_pos c22] at H
               have c22b0 : decide (x13_2 < (t274.length : Int)) = true := decide_eq_true c22
               clear c22
               by_cases c23 : 0 ≤ x14_3
               ·rw [if_pos c23] at H
                have c23b0 : decide (0 ≤ x14_3) = true := decide_eq_true c23
                clear c23
                replace H := Option.bind_eq_some_iff.mp H
                obtain ⟨t280, A240, H⟩ := H
                replace H : (hatstandlaw14_HistoryOrder.j3 k3 a1 a2 a3 t274 t280 x13_2 x14_3) = some r := H
                have A24 := Aside0.mk A240
                clear A240
                have H' := Aside0.mk H
                clear H
                try go_wp2
                have n0_ := Aside0.mk (Kd.R_drew HO_10.out)
                have n1_ := Aside0.mk (below_drew1 HB.out)
                clear HO_10
                clear HB
                have HO_10 := n0_
                have HB := n1_
                clear n0_ n1_
                have p278 : 0 ≤ (x13_2 : Int) := of_decide_eq_true (by first | (with_reducible assumption) | assumption)
                have q278 : x13_2 < (t274.length : Int) := of_decide_eq_true (by first | (with_reducible assumption) | assumption)
                obtain ⟨ad278, e278, hx278_0, hx278_1, hx278_2, hx278_3, hx278_4, hx278_5⟩ := at_T45 (Kd.R_reads' HO_10.out).2.2 x13_2 p278 q278
                cases e278
                replace p278 := eq_true p278
                replace q278 := eq_true q278
                have p279 : 0 ≤ (x14_3 : Int) := of_decide_eq_true (by first | (with_reducible assumption) | assumption)
                have q279 : x14_3 < (t274.length : Int) := of_decide_eq_true (by first | (with_reducible assumption) | assumption)
                obtain ⟨ad279, e279, hx279_0, hx279_1, hx279_2, hx279_3, hx279_4, hx279_5⟩ := at_T45 (Kd.R_reads' HO_10.out).2.2 x14_3 p279 q279
                obtain rfl : ad278 = ad279 := (by injection e279)
                replace p279 := eq_true p279
                replace q279 := eq_true q279
                refine start_ (n := 13) (S := fun w' => w'.cell? (ad278.add ((x13_2).toNat * 6)) = some (.int .i64 ((rd_T45 t274 x13_2).f0)) ∧ w'.cell? ⟨(ad278.add ((x13_2).toNat * 6)).block, (ad278.add ((x13_2).toNat * 6)).off + 1, none⟩ = some (.bool ((rd_T45 t274 x13_2).f1)) ∧ w'.cell? ⟨(ad278.add ((x13_2).toNat * 6)).block, (ad278.add ((x13_2).toNat * 6)).off + 2, none⟩ = some (.int .u64 ((rd_T45 t274 x13_2).f2)) ∧ w'.cell? ⟨(ad278.add ((x13_2).toNat * 6)).block, (ad278.add ((x13_2).toNat * 6)).off + 3, none⟩ = some (.int .i64 ((rd_T45 t274 x13_2).f3)) ∧ w'.cell? ⟨(ad278.add ((x13_2).toNat * 6)).block, (ad278.add ((x13_2).toNat * 6)).off + 4, none⟩ = some (.int .i64 ((rd_T45 t274 x13_2).f4)) ∧ w'.cell? ⟨(ad278.add ((x13_2).toNat * 6)).block, (ad278.add ((x13_2).toNat * 6)).off + 5, none⟩ = some (.int .i64 ((rd_T45 t274 x13_2).f5)) ∧ w'.cell? (ad278.add ((x14_3).toNat * 6)) = some (.int .i64 ((rd_T45 t274 x14_3).f0)) ∧ w'.cell? ⟨(ad278.add ((x14_3).toNat * 6)).block, (ad278.add ((x14_3).toNat * 6)).off + 1, none⟩ = some (.bool ((rd_T45 t274 x14_3).f1)) ∧ w'.cell? ⟨(ad278.add ((x14_3).toNat * 6)).block, (ad278.add ((x14_3).toNat * 6)).off + 2, none⟩ = some (.int .u64 ((rd_T45 t274 x14_3).f2)) ∧ w'.cell? ⟨(ad278.add ((x14_3).toNat * 6)).block, (ad278.add ((x14_3).toNat * 6)).off + 3, none⟩ = some (.int .i64 ((rd_T45 t274 x14_3).f3)) ∧ w'.cell? ⟨(ad278.add ((x14_3).toNat * 6)).block, (ad278.add ((x14_3).toNat * 6)).off + 4, none⟩ = some (.int .i64 ((rd_T45 t274 x14_3).f4)) ∧ w'.cell? ⟨(ad278.add ((x14_3).toNat * 6)).block, (ad278.add ((x14_3).toNat * 6)).off + 5, none⟩ = some (.int .i64 ((rd_T45 t274 x14_3).f5))) (ds := []) #[false, false, false, false, false, false, false, false, false, false, false, false, false] (by kernel_rfl) rfl rfl ⟨hx278_0, hx278_1, hx278_2, hx278_3, hx278_4, hx278_5, hx279_0, hx279_1, hx279_2, hx279_3, hx279_4, hx279_5⟩ (fun hHeld => ?_); refine with_tabW hatstandlaw14_HistoryOrder.tab14 hatstandlaw14_HistoryOrder.bits14 (fun HT_ HW_ => ?_)
                generalize wr.drew = w25 at HO_10 HB hx278_0 hx278_1 hx278_2 hx278_3 hx278_4 hx278_5 hx279_0 hx279_1 hx279_2 hx279_3 hx279_4 hx279_5 hHeld ⊢
                refine pure_ (i := 0) (N := some 49) (v := ?_) (a' := ?_) #[true, false, false, false, false, false, false, false, false, false, false, false, false] rfl rfl (any_of HT_.out (by kernel_rfl)) (fun _ _ _ h => h) (Or.inl ⟨by rfl, ?_⟩) ?_ ?_
                rotate_left
                ·intro w'
                 go_simp
                 with_reducible rfl
                rotate_left
                ·simp only [Act.put, List.setIfInBounds_toArray, List.set_cons_zero, List.set_cons_succ, i64_w, i32_w, Go.IntKind.wrap_u32]
                 rfl
                refine pure_ (i := 1) (N := some 50) (v := ?_) (a' := ?_) #[true, true, false, false, false, false, false, false, false, false, false, false, false] rfl rfl (any_of HT_.out (by kernel_rfl)) (fun _ _ _ h => h) (Or.inl ⟨by rfl, ?_⟩) ?_ ?_
                rotate_left
                ·intro w'
                 go_simp
                 with_reducible rfl
                rotate_left
                ·simp only [Act.put, List.setIfInBounds_toArray, List.set_cons_zero, List.set_cons_succ, i64_w, i32_w, Go.IntKind.wrap_u32]
                 rfl
                refine pure_ (i := 2) (N := some 51) (v := ?_) (a' := ?_) #[true, true, true, false, false, false, false, false, false, false, false, false, false] rfl rfl (any_of HT_.out (by kernel_rfl)) (fun _ _ _ h => h) (Or.inl ⟨by rfl, ?_⟩) ?_ ?_
                rotate_left
                ·intro w'
                 go_simp
                 with_reducible rfl
                rotate_left
                ·simp only [Act.put, List.setIfInBounds_toArray, List.set_cons_zero, List.set_cons_succ, i64_w, i32_w, Go.IntKind.wrap_u32]
                 rfl
                refine pure_ (i := 3) (N := some 52) (v := ?_) (a' := ?_) #[true, true, true, true, false, false, false, false, false, false, false, false, false] rfl rfl (any_of HT_.out (by kernel_rfl)) (fun _ _ _ h => h) (Or.inl ⟨by rfl, ?_⟩) ?_ ?_
                rotate_left
                ·intro w'
                 go_simp
                 with_reducible rfl
                rotate_left
                ·simp only [Act.put, List.setIfInBounds_toArray, List.set_cons_zero, List.set_cons_succ, i64_w, i32_w, Go.IntKind.wrap_u32]
                 rfl
                refine pure_ (i := 4) (N := some 53) (v := ?_) (a' := ?_) #[true, true, true, true, true, false, false, false, false, false, false, false, false] rfl rfl (any_of HT_.out (by kernel_rfl)) (fun _ _ _ h => h) (Or.inl ⟨by rfl, ?_⟩) ?_ ?_
                rotate_left
                ·intro w'
                 go_simp
                 with_reducible rfl
                rotate_left
                ·simp only [Act.put, List.setIfInBounds_toArray, List.set_cons_zero, List.set_cons_succ, i64_w, i32_w, Go.IntKind.wrap_u32]
                 rfl
                refine pure_ (i := 6) (N := some 55) (v := ?_) (a' := ?_) #[true, true, true, true, true, false, true, false, false, false, false, false, false] rfl rfl (any_of HT_.out (by kernel_rfl)) (fun _ _ _ h => h) (Or.inl ⟨by rfl, ?_⟩) ?_ ?_
                rotate_left
                ·intro w'
                 go_simp
                 with_reducible rfl
                rotate_left
                ·simp only [Act.put, List.setIfInBounds_toArray, List.set_cons_zero, List.set_cons_succ, i64_w, i32_w, Go.IntKind.wrap_u32]
                 rfl
                refine pure_ (i := 7) (N := some 56) (v := ?_) (a' := ?_) #[true, true, true, true, true, false, true, true, false, false, false, false, false] rfl rfl (any_of HT_.out (by kernel_rfl)) (fun _ _ _ h => h) (Or.inl ⟨by rfl, ?_⟩) ?_ ?_
                rotate_left
                ·intro w'
                 go_simp
                 with_reducible rfl
                rotate_left
                ·simp only [Act.put, List.setIfInBounds_toArray, List.set_cons_zero, List.set_cons_succ, i64_w, i32_w, Go.IntKind.wrap_u32]
                 rfl
                refine pure_ (i := 8) (N := some 57) (v := ?_) (a' := ?_) #[true, true, true, true, true, false, true, true, true, false, false, false, false] rfl rfl (any_of HT_.out (by kernel_rfl)) (fun _ _ _ h => h) (Or.inl ⟨by rfl, ?_⟩) ?_ ?_
                rotate_left
                ·intro w'
                 go_simp
                 with_reducible rfl
                rotate_left
                ·simp only [Act.put, List.setIfInBounds_toArray, List.set_cons_zero, List.set_cons_succ, i64_w, i32_w, Go.IntKind.wrap_u32]
                 rfl
                refine take_ (i := 5) (N := some 54) (v := ?_) (a' := ?_) #[true, true, true, true, true, true, true, true, true, false, false, false, false] rfl rfl (take_ofW HT_.out HW_.out (by kernel_rfl)) (fun _ _ _ h => h) (Or.inl ⟨by rfl, ?_⟩) hHeld ?_ ?_
                rotate_left
                ·rintro w' ⟨s0, s1, s2, s3, s4, s5, s6, s7, s8, s9, s10, s11⟩
                 go_simp
                 with_reducible rfl
                rotate_left
                ·simp only [Act.put, List.setIfInBounds_toArray, List.set_cons_zero, List.set_cons_succ, i64_w, i32_w, Go.IntKind.wrap_u32]
                 rfl
                refine take_ (i := 9) (N := some 58) (v := ?_) (a' := ?_) #[true, true, true, true, true, true, true, true, true, true, false, false, false] rfl rfl (take_ofW HT_.out HW_.out (by kernel_rfl)) (fun _ _ _ h => h) (Or.inl ⟨by rfl, ?_⟩) hHeld ?_ ?_
                rotate_left
                ·rintro w' ⟨s0, s1, s2, s3, s4, s5, s6, s7, s8, s9, s10, s11⟩
                 go_simp
                 with_reducible rfl
                rotate_left
                ·simp only [Act.put, List.setIfInBounds_toArray, List.set_cons_zero, List.set_cons_succ, i64_w, i32_w, Go.IntKind.wrap_u32]
                 rfl
                refine one_ (i := 10) (N := some 59) #[true, true, true, true, true, true, true, true, true, true, true, false, false] rfl rfl (one_of HT_.out (by kernel_rfl)) (by decide) (fun K hK => ?_)
                refine goes_ Try.func19 (by kernel_rfl) rfl #[.agg #[.int .i64 ((rd_T45 t274 x13_2).f0), .bool ((rd_T45 t274 x13_2).f1), .int .u64 ((rd_T45 t274 x13_2).f2), .int .i64 ((rd_T45 t274 x13_2).f3), .int .i64 ((rd_T45 t274 x13_2).f4), .int .i64 ((rd_T45 t274 x13_2).f5)], .agg #[.int .i64 ((rd_T45 t274 x14_3).f0), .bool ((rd_T45 t274 x14_3).f1), .int .u64 ((rd_T45 t274 x14_3).f2), .int .i64 ((rd_T45 t274 x14_3).f3), .int .i64 ((rd_T45 t274 x14_3).f4), .int .i64 ((rd_T45 t274 x14_3).f5)]] (by rfl) rfl rfl (by first | rfl | ((try simp only [List.map_toArray, List.map_cons, List.map_nil]); first | done | rfl)) ?_
                with_reducible refine (history_Ahead.calls ((rd_T45 t274 x13_2).f0) ((rd_T45 t274 x13_2).f1) ((rd_T45 t274 x13_2).f2) ((rd_T45 t274 x13_2).f3) ((rd_T45 t274 x13_2).f4) ((rd_T45 t274 x13_2).f5) ((rd_T45 t274 x14_3).f0) ((rd_T45 t274 x14_3).f1) ((rd_T45 t274 x14_3).f2) ((rd_T45 t274 x14_3).f3) ((rd_T45 t274 x14_3).f4) ((rd_T45 t274 x14_3).f5) t280 _ A24.out).mono ?_
                rintro e w26 ⟨rfl, hb⟩
                have HS0_ := (hb.cell (World.block_lt_of_cell? _ _ (hHeld.1))).trans (hHeld.1)
                have HS1_ := (hb.cell (World.block_lt_of_cell? _ _ (hHeld.2.1))).trans (hHeld.2.1)
                have HS2_ := (hb.cell (World.block_lt_of_cell? _ _ (hHeld.2.2.1))).trans (hHeld.2.2.1)
                have HS3_ := (hb.cell (World.block_lt_of_cell? _ _ (hHeld.2.2.2.1))).trans (hHeld.2.2.2.1)
                have HS4_ := (hb.cell (World.block_lt_of_cell? _ _ (hHeld.2.2.2.2.1))).trans (hHeld.2.2.2.2.1)
                have HS5_ := (hb.cell (World.block_lt_of_cell? _ _ (hHeld.2.2.2.2.2.1))).trans (hHeld.2.2.2.2.2.1)
                have HS6_ := (hb.cell (World.block_lt_of_cell? _ _ (hHeld.2.2.2.2.2.2.1))).trans (hHeld.2.2.2.2.2.2.1)
                have HS7_ := (hb.cell (World.block_lt_of_cell? _ _ (hHeld.2.2.2.2.2.2.2.1))).trans (hHeld.2.2.2.2.2.2.2.1)
                have HS8_ := (hb.cell (World.block_lt_of_cell? _ _ (hHeld.2.2.2.2.2.2.2.2.1))).trans (hHeld.2.2.2.2.2.2.2.2.1)
                have HS9_ := (hb.cell (World.block_lt_of_cell? _ _ (hHeld.2.2.2.2.2.2.2.2.2.1))).trans (hHeld.2.2.2.2.2.2.2.2.2.1)
                have HS10_ := (hb.cell (World.block_lt_of_cell? _ _ (hHeld.2.2.2.2.2.2.2.2.2.2.1))).trans (hHeld.2.2.2.2.2.2.2.2.2.2.1)
                have HS11_ := (hb.cell (World.block_lt_of_cell? _ _ (hHeld.2.2.2.2.2.2.2.2.2.2.2))).trans (hHeld.2.2.2.2.2.2.2.2.2.2.2)
                refine ⟨_, rfl, ?_⟩
                have n0_ := Aside0.mk (Kd.R_below (by (with_reducible repeat (first | apply Kd.R_alloc | apply Kd.R_drewN | apply Kd.R_drew)); exact HO_10.out) hb)
                have n1_ := Aside0.mk (below_step (by with_reducible repeat (first | exact HB.out | apply below_alloc | apply pw_below_drewN | apply below_drew1)) hb)
                clear HO_10
                clear HB
                have HO_10 := n0_
                have HB := n1_
                clear n0_ n1_
                (try clear hb)
                (try clear hb2)
                (try clear hk)
                (try clear hi)
                refine hK.out _ _ ⟨HS0_, HS1_, HS2_, HS3_, HS4_, HS5_, HS6_, HS7_, HS8_, HS9_, HS10_, HS11_⟩ (fun hHeld => ?_)
                clear hK K
                refine norm_ (a' := ?_) ?_ ?_
                rotate_left
                ·show Act.put _ (some 59) _ = _
                 simp only [Act.put, List.setIfInBounds_toArray, List.set_cons_zero, List.set_cons_succ, i64_w, i32_w, Go.IntKind.wrap_u32]
                 rfl
                refine pure_ (i := 11) (N := some 60) (v := ?_) (a' := ?_) #[true, true, true, true, true, true, true, true, true, true, true, true, false] rfl rfl (any_of HT_.out (by kernel_rfl)) (fun _ _ _ h => h) (Or.inl ⟨by rfl, ?_⟩) ?_ ?_
                rotate_left
                ·intro w'
                 go_simp
                 with_reducible rfl
                rotate_left
                ·simp only [Act.put, List.setIfInBounds_toArray, List.set_cons_zero, List.set_cons_succ, i64_w, i32_w, Go.IntKind.wrap_u32]
                 rfl
                refine pure_ (i := 12) (N := some 12) (v := ?_) (a' := ?_) #[true, true, true, true, true, true, true, true, true, true, true, true, true] rfl rfl (any_of HT_.out (by kernel_rfl)) (fun _ _ _ h => h) (Or.inl ⟨by rfl, ?_⟩) ?_ ?_
                rotate_left
                ·intro w'
                 go_simp
                 with_reducible rfl
                rotate_left
                ·simp only [Act.put, List.setIfInBounds_toArray, List.set_cons_zero, List.set_cons_succ, i64_w, i32_w, Go.IntKind.wrap_u32]
                 rfl
                refine done_ (done_of HT_.out (by kernel_rfl)) ?_
                try go_wp2
                go_meet
                case rel => exact ⟨_, (t280), (by first | rfl | (simp; done) | (simp [*]; done)), H', ⟨by have := HJ5.out; have := HK2.out; have := HK3.out; first | omega | exact Nat.le_refl _⟩, ⟨by (with_reducible repeat (first | apply Kd.R_alloc | apply Kd.R_drewN | apply Kd.R_drew)); exact HO_10.out⟩, ⟨by repeat (first | (with_reducible first | exact HB.out | apply below_alloc | apply pw_below_drewN | apply below_drew1) | exact HB.out)⟩⟩
               ·rw [if_neg c23] at H
                exact absurd H (by simp)
              ·rw [if_neg c22] at H
               exact absurd H (by simp)
             ·rw [if_neg c21] at H
              exact absurd H (by simp)
            ·replace c20 := Bool.eq_false_iff.mpr c20
             subst c20
             have H1 : (hatstandlaw14_HistoryOrder.j3 k3 a1 a2 a3 t274 false x13_2 x14_3) = some r := by rw [if_neg (show ¬ (false = true) by decide)] at H; exact H
             clear H
             have H := H1
             clear H1
             have H' := Aside0.mk H
             clear H
             try go_wp2
             have n0_ := Aside0.mk (Kd.R_drew HO_10.out)
             have n1_ := Aside0.mk (below_drew1 HB.out)
             clear HO_10
             clear HB
             have HO_10 := n0_
             have HB := n1_
             clear n0_ n1_
             refine start_ (n := 13) (S := fun w' => True) (ds := []) #[false, false, false, false, false, false, false, false, false, false, false, false, false] (by kernel_rfl) rfl rfl trivial (fun hHeld => ?_); refine with_tabW hatstandlaw14_HistoryOrder.tab14 hatstandlaw14_HistoryOrder.bits14 (fun HT_ HW_ => ?_)
             generalize wr.drew = w27 at HO_10 HB hHeld ⊢
             refine pure_ (i := 0) (N := some 49) (v := ?_) (a' := ?_) #[true, false, false, false, false, false, false, false, false, false, false, false, false] rfl rfl (any_of HT_.out (by kernel_rfl)) (fun _ _ _ h => h) (Or.inl ⟨by rfl, ?_⟩) ?_ ?_
             rotate_left
             ·intro w'
              go_simp
              with_reducible rfl
             rotate_left
             ·simp only [Act.put, List.setIfInBounds_toArray, List.set_cons_zero, List.set_cons_succ, i64_w, i32_w, Go.IntKind.wrap_u32]
              rfl
             refine pure_ (i := 1) (N := some 50) (v := ?_) (a' := ?_) #[true, true, false, false, false, false, false, false, false, false, false, false, false] rfl rfl (any_of HT_.out (by kernel_rfl)) (fun _ _ _ h => h) (Or.inl ⟨by rfl, ?_⟩) ?_ ?_
             rotate_left
             ·intro w'
              go_simp
              with_reducible rfl
             rotate_left
             ·simp only [Act.put, List.setIfInBounds_toArray, List.set_cons_zero, List.set_cons_succ, i64_w, i32_w, Go.IntKind.wrap_u32]
              rfl
             refine pure_ (i := 2) (N := some 51) (v := undef) (a' := ?_) #[true, true, true, false, false, false, false, false, false, false, false, false, false] rfl rfl (any_of HT_.out (by kernel_rfl)) (fun _ _ _ h => h) (Or.inr ⟨by rfl, rfl⟩) ?_ ?_
             rotate_left
             ·simp only [Act.put, List.setIfInBounds_toArray, List.set_cons_zero, List.set_cons_succ, i64_w, i32_w, Go.IntKind.wrap_u32]
              rfl
             refine pure_ (i := 3) (N := some 52) (v := undef) (a' := ?_) #[true, true, true, true, false, false, false, false, false, false, false, false, false] rfl rfl (any_of HT_.out (by kernel_rfl)) (fun _ _ _ h => h) (Or.inr ⟨by rfl, rfl⟩) ?_ ?_
             rotate_left
             ·simp only [Act.put, List.setIfInBounds_toArray, List.set_cons_zero, List.set_cons_succ, i64_w, i32_w, Go.IntKind.wrap_u32]
              rfl
             refine pure_ (i := 4) (N := some 53) (v := undef) (a' := ?_) #[true, true, true, true, true, false, false, false, false, false, false, false, false] rfl rfl (any_of HT_.out (by kernel_rfl)) (fun _ _ _ h => h) (Or.inr ⟨by rfl, rfl⟩) ?_ ?_
             rotate_left
             ·simp only [Act.put, List.setIfInBounds_toArray, List.set_cons_zero, List.set_cons_succ, i64_w, i32_w, Go.IntKind.wrap_u32]
              rfl
             refine pure_ (i := 5) (N := some 54) (v := undef) (a' := ?_) #[true, true, true, true, true, true, false, false, false, false, false, false, false] rfl rfl (any_of HT_.out (by kernel_rfl)) (fun _ _ _ h => h) (Or.inr ⟨by rfl, rfl⟩) ?_ ?_
             rotate_left
             ·simp only [Act.put, List.setIfInBounds_toArray, List.set_cons_zero, List.set_cons_succ, i64_w, i32_w, Go.IntKind.wrap_u32]
              rfl
             refine pure_ (i := 6) (N := some 55) (v := undef) (a' := ?_) #[true, true, true, true, true, true, true, false, false, false, false, false, false] rfl rfl (any_of HT_.out (by kernel_rfl)) (fun _ _ _ h => h) (Or.inr ⟨by rfl, rfl⟩) ?_ ?_
             rotate_left
             ·simp only [Act.put, List.setIfInBounds_toArray, List.set_cons_zero, List.set_cons_succ, i64_w, i32_w, Go.IntKind.wrap_u32]
              rfl
             refine pure_ (i := 7) (N := some 56) (v := undef) (a' := ?_) #[true, true, true, true, true, true, true, true, false, false, false, false, false] rfl rfl (any_of HT_.out (by kernel_rfl)) (fun _ _ _ h => h) (Or.inr ⟨by rfl, rfl⟩) ?_ ?_
             rotate_left
             ·simp only [Act.put, List.setIfInBounds_toArray, List.set_cons_zero, List.set_cons_succ, i64_w, i32_w, Go.IntKind.wrap_u32]
              rfl
             refine pure_ (i := 8) (N := some 57) (v := undef) (a' := ?_) #[true, true, true, true, true, true, true, true, true, false, false, false, false] rfl rfl (any_of HT_.out (by kernel_rfl)) (fun _ _ _ h => h) (Or.inr ⟨by rfl, rfl⟩) ?_ ?_
             rotate_left
             ·simp only [Act.put, List.setIfInBounds_toArray, List.set_cons_zero, List.set_cons_succ, i64_w, i32_w, Go.IntKind.wrap_u32]
              rfl
             refine pure_ (i := 9) (N := some 58) (v := undef) (a' := ?_) #[true, true, true, true, true, true, true, true, true, true, false, false, false] rfl rfl (any_of HT_.out (by kernel_rfl)) (fun _ _ _ h => h) (Or.inr ⟨by rfl, rfl⟩) ?_ ?_
             rotate_left
             ·simp only [Act.put, List.setIfInBounds_toArray, List.set_cons_zero, List.set_cons_succ, i64_w, i32_w, Go.IntKind.wrap_u32]
              rfl
             refine pure_ (i := 10) (N := some 59) (v := undef) (a' := ?_) #[true, true, true, true, true, true, true, true, true, true, true, false, false] rfl rfl (any_of HT_.out (by kernel_rfl)) (fun _ _ _ h => h) (Or.inr ⟨by rfl, rfl⟩) ?_ ?_
             rotate_left
             ·simp only [Act.put, List.setIfInBounds_toArray, List.set_cons_zero, List.set_cons_succ, i64_w, i32_w, Go.IntKind.wrap_u32]
              rfl
             refine pure_ (i := 11) (N := some 60) (v := ?_) (a' := ?_) #[true, true, true, true, true, true, true, true, true, true, true, true, false] rfl rfl (any_of HT_.out (by kernel_rfl)) (fun _ _ _ h => h) (Or.inl ⟨by rfl, ?_⟩) ?_ ?_
             rotate_left
             ·intro w'
              go_simp
              with_reducible rfl
             rotate_left
             ·simp only [Act.put, List.setIfInBounds_toArray, List.set_cons_zero, List.set_cons_succ, i64_w, i32_w, Go.IntKind.wrap_u32]
              rfl
             refine pure_ (i := 12) (N := some 12) (v := ?_) (a' := ?_) #[true, true, true, true, true, true, true, true, true, true, true, true, true] rfl rfl (any_of HT_.out (by kernel_rfl)) (fun _ _ _ h => h) (Or.inl ⟨by rfl, ?_⟩) ?_ ?_
             rotate_left
             ·intro w'
              go_simp
              with_reducible rfl
             rotate_left
             ·simp only [Act.put, List.setIfInBounds_toArray, List.set_cons_zero, List.set_cons_succ, i64_w, i32_w, Go.IntKind.wrap_u32]
              rfl
             refine done_ (done_of HT_.out (by kernel_rfl)) ?_
             try go_wp2
             go_meet
             case rel => exact ⟨_, (false), (by first | rfl | (simp; done) | (simp [*]; done)), H', ⟨by have := HJ5.out; have := HK2.out; have := HK3.out; first | omega | exact Nat.le_refl _⟩, ⟨by (with_reducible repeat (first | apply Kd.R_alloc | apply Kd.R_drewN | apply Kd.R_drew)); exact HO_10.out⟩, ⟨by repeat (first | (with_reducible first | exact HB.out | apply below_alloc | apply pw_below_drewN | apply below_drew1) | exact HB.out)⟩⟩
           case rest =>
            clear HC19
            try clear c1
            try clear c2
            try clear p2
            try clear q2
            try clear hx2
            try clear p6
            try clear c7
            try clear c8
            try clear c9
            try clear c12
            try clear c12b0
            try clear c12b1
            try clear c13
            try clear c16
            try clear c16b0
            try clear c17
            try clear c18
            try clear c18b0
            try clear c19
            try clear c20
            try clear c21
            try clear c21b0
            try clear c22
            try clear c22b0
            try clear c23
            try clear c23b0
            try clear p27
            try clear q27
            try clear hx27
            try clear hx278_0
            try clear hx278_1
            try clear hx278_2
            try clear hx278_3
            try clear hx278_4
            try clear hx278_5
            try clear hx279_0
            try clear hx279_1
            try clear hx279_2
            try clear hx279_3
            try clear hx279_4
            try clear hx279_5
            try clear p2
            try clear p278
            try clear p279
            try clear p6
            try clear q278
            try clear q279
            obtain ⟨kq, x12_18, rfl, HA, HJ18, HO_10, HB⟩ := hcut
            cases kq with
            | zero => exact absurd HA.out (by simp [hatstandlaw14_HistoryOrder.j3])
            | succ kj18 =>
             have H := HA.out
             clear HA
             simp only [hatstandlaw14_HistoryOrder.j3] at H
             have HC28 := Aside0.mk H
             clear H
             go_upto_region 15 with (fail)
             go_cut [94] (fun v94 wc => ∃ (kq : Nat) (x94_27 : Bool), v94 = .bool x94_27 ∧ Aside0 (hatstandlaw14_HistoryOrder.j4 kq a1 a2 a3 t274 x12_18 x13_2 x14_3 x94_27 = some r) ∧ Aside0 (kq ≤ kj18) ∧ Aside0 (Kd.R k45 45 wc w.heap.size (fun _ => True) (.slice Ao17 t274.length co17) t274) ∧ Aside0 (Below w.heap.size w wc))
             case first =>
              have H := HC28.out
              clear HC28
              by_cases c29 : 0 ≤ x14_3
              ·rw [if_pos c29] at H
               have c29b0 : decide (0 ≤ x14_3) = true := decide_eq_true c29
               clear c29
               (first | rw [c29b0] | (simp only [i64_w, i32_w, Go.IntKind.wrap_u32]; rw [c29b0]) | skip)
               by_cases c30 : x14_3 < (t274.length : Int)
               ·rw [if_pos c30] at H
                have c30b0 : decide (x14_3 < (t274.length : Int)) = true := decide_eq_true c30
                clear c30
                by_cases c31 : 0 ≤ x13_2
                ·rw [if_pos c31] at H
                 have c31b0 : decide (0 ≤ x13_2) = true := decide_eq_true c31
                 clear c31
                 by_cases c32 : x13_2 < (t274.length : Int)
                 ·rw [if_pos c32] at H
                  have c32b0 : decide (x13_2 < (t274.length : Int)) = true := decide_eq_true c32
                  clear c32
                  replace H := Option.bind_eq_some_iff.mp H
                  obtain ⟨t283, A330, H⟩ := H
                  replace H : (if t283 = true then (hatstandlaw14_HistoryOrder.j4 kj18 a1 a2 a3 t274 x12_18 x13_2 x14_3 true) else (if ((rd_T45 t274 x13_2).f0) = ((rd_T45 t274 x14_3).f0) then ((history_Ahead.f ((rd_T45 t274 x13_2).f0) ((rd_T45 t274 x13_2).f1) ((rd_T45 t274 x13_2).f2) ((rd_T45 t274 x13_2).f3) ((rd_T45 t274 x13_2).f4) ((rd_T45 t274 x13_2).f5) ((rd_T45 t274 x14_3).f0) ((rd_T45 t274 x14_3).f1) ((rd_T45 t274 x14_3).f2) ((rd_T45 t274 x14_3).f3) ((rd_T45 t274 x14_3).f4) ((rd_T45 t274 x14_3).f5)).bind fun t288 => (hatstandlaw14_HistoryOrder.j4 kj18 a1 a2 a3 t274 x12_18 x13_2 x14_3 (!t288))) else (hatstandlaw14_HistoryOrder.j4 kj18 a1 a2 a3 t274 x12_18 x13_2 x14_3 false))) = some r := H
                  have A33 := Aside0.mk A330
                  clear A330
                  by_cases c34 : t283 = true
                  ·subst c34
                   have H1 : (hatstandlaw14_HistoryOrder.j4 kj18 a1 a2 a3 t274 x12_18 x13_2 x14_3 true) = some r := by rw [if_pos rfl] at H; exact H
                   clear H
                   have H := H1
                   clear H1
                   exact hatstandlaw14_HistoryOrder.j4_dead H HT0.out
                  ·replace c34 := Bool.eq_false_iff.mpr c34
                   subst c34
                   have H1 : (if ((rd_T45 t274 x13_2).f0) = ((rd_T45 t274 x14_3).f0) then ((history_Ahead.f ((rd_T45 t274 x13_2).f0) ((rd_T45 t274 x13_2).f1) ((rd_T45 t274 x13_2).f2) ((rd_T45 t274 x13_2).f3) ((rd_T45 t274 x13_2).f4) ((rd_T45 t274 x13_2).f5) ((rd_T45 t274 x14_3).f0) ((rd_T45 t274 x14_3).f1) ((rd_T45 t274 x14_3).f2) ((rd_T45 t274 x14_3).f3) ((rd_T45 t274 x14_3).f4) ((rd_T45 t274 x14_3).f5)).bind fun t288 => (hatstandlaw14_HistoryOrder.j4 kj18 a1 a2 a3 t274 x12_18 x13_2 x14_3 (!t288))) else (hatstandlaw14_HistoryOrder.j4 kj18 a1 a2 a3 t274 x12_18 x13_2 x14_3 false)) = some r := by rw [if_neg (show ¬ (false = true) by decide)] at H; exact H
                   clear H
                   have H := H1
                   clear H1
                   by_cases c37 : ((rd_T45 t274 x13_2).f0) = ((rd_T45 t274 x14_3).f0)
                   ·rw [if_pos c37] at H
                    have c37b0 : (((rd_T45 t274 x13_2).f0) == ((rd_T45 t274 x14_3).f0)) = true := beq_iff_eq.mpr c37
                    have c37b1 : (((rd_T45 t274 x13_2).f0) != ((rd_T45 t274 x14_3).f0)) = false := bne_eq_false_iff_eq.mpr c37
                    clear c37
                    replace H := Option.bind_eq_some_iff.mp H
                    obtain ⟨t288, A380, H⟩ := H
                    replace H : (hatstandlaw14_HistoryOrder.j4 kj18 a1 a2 a3 t274 x12_18 x13_2 x14_3 (!t288)) = some r := H
                    have A38 := Aside0.mk A380
                    clear A380
                    have H' := Aside0.mk H
                    clear H
                    try go_wp2
                    have n0_ := Aside0.mk (Kd.R_drew HO_10.out)
                    have n1_ := Aside0.mk (below_drew1 HB.out)
                    clear HO_10
                    clear HB
                    have HO_10 := n0_
                    have HB := n1_
                    clear n0_ n1_
                    have p281 : 0 ≤ (x14_3 : Int) := of_decide_eq_true (by first | (with_reducible assumption) | assumption)
                    have q281 : x14_3 < (t274.length : Int) := of_decide_eq_true (by first | (with_reducible assumption) | assumption)
                    obtain ⟨ad281, e281, hx281_0, hx281_1, hx281_2, hx281_3, hx281_4, hx281_5⟩ := at_T45 (Kd.R_reads' HO_10.out).2.2 x14_3 p281 q281
                    cases e281
                    replace p281 := eq_true p281
                    replace q281 := eq_true q281
                    have p282 : 0 ≤ (x13_2 : Int) := of_decide_eq_true (by first | (with_reducible assumption) | assumption)
                    have q282 : x13_2 < (t274.length : Int) := of_decide_eq_true (by first | (with_reducible assumption) | assumption)
                    obtain ⟨ad282, e282, hx282_0, hx282_1, hx282_2, hx282_3, hx282_4, hx282_5⟩ := at_T45 (Kd.R_reads' HO_10.out).2.2 x13_2 p282 q282
                    obtain rfl : ad281 = ad282 := (by injection e282)
                    replace p282 := eq_true p282
                    replace q282 := eq_true q282
                    have p284 : 0 ≤ (x13_2 : Int) := of_decide_eq_true (by first | (with_reducible assumption) | assumption)
                    have q284 : x13_2 < (t274.length : Int) := of_decide_eq_true (by first | (with_reducible assumption) | assumption)
                    obtain ⟨ad284, e284, hx284_0, hx284_1, hx284_2, hx284_3, hx284_4, hx284_5⟩ := at_T45 (Kd.R_reads' HO_10.out).2.2 x13_2 p284 q284
                    obtain rfl : ad281 = ad284 := (by injection e284)
                    replace p284 := eq_true p284
                    replace q284 := eq_true q284
                    have p285 : 0 ≤ (x14_3 : Int) := of_decide_eq_true (by first | (with_reducible assumption) | assumption)
                    have q285 : x14_3 < (t274.length : Int) := of_decide_eq_true (by first | (with_reducible assumption) | assumption)
                    obtain ⟨ad285, e285, hx285_0, hx285_1, hx285_2, hx285_3, hx285_4, hx285_5⟩ := at_T45 (Kd.R_reads' HO_10.out).2.2 x14_3 p285 q285
                    obtain rfl : ad281 = ad285 := (by injection e285)
                    replace p285 := eq_true p285
                    replace q285 := eq_true q285
                    have p286 : 0 ≤ (x13_2 : Int) := of_decide_eq_true (by first | (with_reducible assumption) | assumption)
                    have q286 : x13_2 < (t274.length : Int) := of_decide_eq_true (by first | (with_reducible assumption) | assumption)
                    obtain ⟨ad286, e286, hx286_0, hx286_1, hx286_2, hx286_3, hx286_4, hx286_5⟩ := at_T45 (Kd.R_reads' HO_10.out).2.2 x13_2 p286 q286
                    obtain rfl : ad281 = ad286 := (by injection e286)
                    replace p286 := eq_true p286
                    replace q286 := eq_true q286
                    have p287 : 0 ≤ (x14_3 : Int) := of_decide_eq_true (by first | (with_reducible assumption) | assumption)
                    have q287 : x14_3 < (t274.length : Int) := of_decide_eq_true (by first | (with_reducible assumption) | assumption)
                    obtain ⟨ad287, e287, hx287_0, hx287_1, hx287_2, hx287_3, hx287_4, hx287_5⟩ := at_T45 (Kd.R_reads' HO_10.out).2.2 x14_3 p287 q287
                    obtain rfl : ad281 = ad287 := (by injection e287)
                    replace p287 := eq_true p287
                    replace q287 := eq_true q287
                    refine start_ (n := 34) (S := fun w' => w'.cell? (ad281.add ((x14_3).toNat * 6)) = some (.int .i64 ((rd_T45 t274 x14_3).f0)) ∧ w'.cell? ⟨(ad281.add ((x14_3).toNat * 6)).block, (ad281.add ((x14_3).toNat * 6)).off + 1, none⟩ = some (.bool ((rd_T45 t274 x14_3).f1)) ∧ w'.cell? ⟨(ad281.add ((x14_3).toNat * 6)).block, (ad281.add ((x14_3).toNat * 6)).off + 2, none⟩ = some (.int .u64 ((rd_T45 t274 x14_3).f2)) ∧ w'.cell? ⟨(ad281.add ((x14_3).toNat * 6)).block, (ad281.add ((x14_3).toNat * 6)).off + 3, none⟩ = some (.int .i64 ((rd_T45 t274 x14_3).f3)) ∧ w'.cell? ⟨(ad281.add ((x14_3).toNat * 6)).block, (ad281.add ((x14_3).toNat * 6)).off + 4, none⟩ = some (.int .i64 ((rd_T45 t274 x14_3).f4)) ∧ w'.cell? ⟨(ad281.add ((x14_3).toNat * 6)).block, (ad281.add ((x14_3).toNat * 6)).off + 5, none⟩ = some (.int .i64 ((rd_T45 t274 x14_3).f5)) ∧ w'.cell? (ad281.add ((x13_2).toNat * 6)) = some (.int .i64 ((rd_T45 t274 x13_2).f0)) ∧ w'.cell? ⟨(ad281.add ((x13_2).toNat * 6)).block, (ad281.add ((x13_2).toNat * 6)).off + 1, none⟩ = some (.bool ((rd_T45 t274 x13_2).f1)) ∧ w'.cell? ⟨(ad281.add ((x13_2).toNat * 6)).block, (ad281.add ((x13_2).toNat * 6)).off + 2, none⟩ = some (.int .u64 ((rd_T45 t274 x13_2).f2)) ∧ w'.cell? ⟨(ad281.add ((x13_2).toNat * 6)).block, (ad281.add ((x13_2).toNat * 6)).off + 3, none⟩ = some (.int .i64 ((rd_T45 t274 x13_2).f3)) ∧ w'.cell? ⟨(ad281.add ((x13_2).toNat * 6)).block, (ad281.add ((x13_2).toNat * 6)).off + 4, none⟩ = some (.int .i64 ((rd_T45 t274 x13_2).f4)) ∧ w'.cell? ⟨(ad281.add ((x13_2).toNat * 6)).block, (ad281.add ((x13_2).toNat * 6)).off + 5, none⟩ = some (.int .i64 ((rd_T45 t274 x13_2).f5)) ∧ w'.cell? (ad281.add ((x13_2).toNat * 6)) = some (.int .i64 ((rd_T45 t274 x13_2).f0)) ∧ w'.cell? ⟨(ad281.add ((x13_2).toNat * 6)).block, (ad281.add ((x13_2).toNat * 6)).off + 1, none⟩ = some (.bool ((rd_T45 t274 x13_2).f1)) ∧ w'.cell? ⟨(ad281.add ((x13_2).toNat * 6)).block, (ad281.add ((x13_2).toNat * 6)).off + 2, none⟩ = some (.int .u64 ((rd_T45 t274 x13_2).f2)) ∧ w'.cell? ⟨(ad281.add ((x13_2).toNat * 6)).block, (ad281.add ((x13_2).toNat * 6)).off + 3, none⟩ = some (.int .i64 ((rd_T45 t274 x13_2).f3)) ∧ w'.cell? ⟨(ad281.add ((x13_2).toNat * 6)).block, (ad281.add ((x13_2).toNat * 6)).off + 4, none⟩ = some (.int .i64 ((rd_T45 t274 x13_2).f4)) ∧ w'.cell? ⟨(ad281.add ((x13_2).toNat * 6)).block, (ad281.add ((x13_2).toNat * 6)).off + 5, none⟩ = some (.int .i64 ((rd_T45 t274 x13_2).f5)) ∧ w'.cell? (ad281.add ((x14_3).toNat * 6)) = some (.int .i64 ((rd_T45 t274 x14_3).f0)) ∧ w'.cell? ⟨(ad281.add ((x14_3).toNat * 6)).block, (ad281.add ((x14_3).toNat * 6)).off + 1, none⟩ = some (.bool ((rd_T45 t274 x14_3).f1)) ∧ w'.cell? ⟨(ad281.add ((x14_3).toNat * 6)).block, (ad281.add ((x14_3).toNat * 6)).off + 2, none⟩ = some (.int .u64 ((rd_T45 t274 x14_3).f2)) ∧ w'.cell? ⟨(ad281.add ((x14_3).toNat * 6)).block, (ad281.add ((x14_3).toNat * 6)).off + 3, none⟩ = some (.int .i64 ((rd_T45 t274 x14_3).f3)) ∧ w'.cell? ⟨(ad281.add ((x14_3).toNat * 6)).block, (ad281.add ((x14_3).toNat * 6)).off + 4, none⟩ = some (.int .i64 ((rd_T45 t274 x14_3).f4)) ∧ w'.cell? ⟨(ad281.add ((x14_3).toNat * 6)).block, (ad281.add ((x14_3).toNat * 6)).off + 5, none⟩ = some (.int .i64 ((rd_T45 t274 x14_3).f5)) ∧ w'.cell? (ad281.add ((x13_2).toNat * 6)) = some (.int .i64 ((rd_T45 t274 x13_2).f0)) ∧ w'.cell? ⟨(ad281.add ((x13_2).toNat * 6)).block, (ad281.add ((x13_2).toNat * 6)).off + 1, none⟩ = some (.bool ((rd_T45 t274 x13_2).f1)) ∧ w'.cell? ⟨(ad281.add ((x13_2).toNat * 6)).block, (ad281.add ((x13_2).toNat * 6)).off + 2, none⟩ = some (.int .u64 ((rd_T45 t274 x13_2).f2)) ∧ w'.cell? ⟨(ad281.add ((x13_2).toNat * 6)).block, (ad281.add ((x13_2).toNat * 6)).off + 3, none⟩ = some (.int .i64 ((rd_T45 t274 x13_2).f3)) ∧ w'.cell? ⟨(ad281.add ((x13_2).toNat * 6)).block, (ad281.add ((x13_2).toNat * 6)).off + 4, none⟩ = some (.int .i64 ((rd_T45 t274 x13_2).f4)) ∧ w'.cell? ⟨(ad281.add ((x13_2).toNat * 6)).block, (ad281.add ((x13_2).toNat * 6)).off + 5, none⟩ = some (.int .i64 ((rd_T45 t274 x13_2).f5)) ∧ w'.cell? (ad281.add ((x14_3).toNat * 6)) = some (.int .i64 ((rd_T45 t274 x14_3).f0)) ∧ w'.cell? ⟨(ad281.add ((x14_3).toNat * 6)).block, (ad281.add ((x14_3).toNat * 6)).off + 1, none⟩ = some (.bool ((rd_T45 t274 x14_3).f1)) ∧ w'.cell? ⟨(ad281.add ((x14_3).toNat * 6)).block, (ad281.add ((x14_3).toNat * 6)).off + 2, none⟩ = some (.int .u64 ((rd_T45 t274 x14_3).f2)) ∧ w'.cell? ⟨(ad281.add ((x14_3).toNat * 6)).block, (ad281.add ((x14_3).toNat * 6)).off + 3, none⟩ = some (.int .i64 ((rd_T45 t274 x14_3).f3)) ∧ w'.cell? ⟨(ad281.add ((x14_3).toNat * 6)).block, (ad281.add ((x14_3).toNat * 6)).off + 4, none⟩ = some (.int .i64 ((rd_T45 t274 x14_3).f4)) ∧ w'.cell? ⟨(ad281.add ((x14_3).toNat * 6)).block, (ad281.add ((x14_3).toNat * 6)).off + 5, none⟩ = some (.int .i64 ((rd_T45 t274 x14_3).f5))) (ds := []) #[false, false, false, false, false, false, false, false, false, false, false, false, false, false, false, false, false, false, false, false, false, false, false, false, false, false, false, false, false, false, false, false, false, false] (by kernel_rfl) rfl rfl ⟨hx281_0, hx281_1, hx281_2, hx281_3, hx281_4, hx281_5, hx282_0, hx282_1, hx282_2, hx282_3, hx282_4, hx282_5, hx284_0, hx284_1, hx284_2, hx284_3, hx284_4, hx284_5, hx285_0, hx285_1, hx285_2, hx285_3, hx285_4, hx285_5, hx286_0, hx286_1, hx286_2, hx286_3, hx286_4, hx286_5, hx287_0, hx287_1, hx287_2, hx287_3, hx287_4, hx287_5⟩ (fun hHeld => ?_); refine with_tabW hatstandlaw14_HistoryOrder.tab15 hatstandlaw14_HistoryOrder.bits15 (fun HT_ HW_ => ?_)
                    generalize wc.drew = w39 at HO_10 HB hx281_0 hx281_1 hx281_2 hx281_3 hx281_4 hx281_5 hx282_0 hx282_1 hx282_2 hx282_3 hx282_4 hx282_5 hx284_0 hx284_1 hx284_2 hx284_3 hx284_4 hx284_5 hx285_0 hx285_1 hx285_2 hx285_3 hx285_4 hx285_5 hx286_0 hx286_1 hx286_2 hx286_3 hx286_4 hx286_5 hx287_0 hx287_1 hx287_2 hx287_3 hx287_4 hx287_5 hHeld ⊢
                    refine pure_ (i := 0) (N := some 61) (v := ?_) (a' := ?_) #[true, false, false, false, false, false, false, false, false, false, false, false, false, false, false, false, false, false, false, false, false, false, false, false, false, false, false, false, false, false, false, false, false, false] rfl rfl (any_of HT_.out (by kernel_rfl)) (fun _ _ _ h => h) (Or.inl ⟨by rfl, ?_⟩) ?_ ?_
                    rotate_left
                    ·intro w'
                     go_simp
                     with_reducible rfl
                    rotate_left
                    ·simp only [Act.put, List.setIfInBounds_toArray, List.set_cons_zero, List.set_cons_succ, i64_w, i32_w, Go.IntKind.wrap_u32]
                     rfl
                    refine pure_ (i := 1) (N := some 62) (v := ?_) (a' := ?_) #[true, true, false, false, false, false, false, false, false, false, false, false, false, false, false, false, false, false, false, false, false, false, false, false, false, false, false, false, false, false, false, false, false, false] rfl rfl (any_of HT_.out (by kernel_rfl)) (fun _ _ _ h => h) (Or.inl ⟨by rfl, ?_⟩) ?_ ?_
                    rotate_left
                    ·intro w'
                     go_simp
                     with_reducible rfl
                    rotate_left
                    ·simp only [Act.put, List.setIfInBounds_toArray, List.set_cons_zero, List.set_cons_succ, i64_w, i32_w, Go.IntKind.wrap_u32]
                     rfl
                    refine pure_ (i := 2) (N := some 63) (v := ?_) (a' := ?_) #[true, true, true, false, false, false, false, false, false, false, false, false, false, false, false, false, false, false, false, false, false, false, false, false, false, false, false, false, false, false, false, false, false, false] rfl rfl (any_of HT_.out (by kernel_rfl)) (fun _ _ _ h => h) (Or.inl ⟨by rfl, ?_⟩) ?_ ?_
                    rotate_left
                    ·intro w'
                     go_simp
                     with_reducible rfl
                    rotate_left
                    ·simp only [Act.put, List.setIfInBounds_toArray, List.set_cons_zero, List.set_cons_succ, i64_w, i32_w, Go.IntKind.wrap_u32]
                     rfl
                    refine pure_ (i := 4) (N := some 65) (v := ?_) (a' := ?_) #[true, true, true, false, true, false, false, false, false, false, false, false, false, false, false, false, false, false, false, false, false, false, false, false, false, false, false, false, false, false, false, false, false, false] rfl rfl (any_of HT_.out (by kernel_rfl)) (fun _ _ _ h => h) (Or.inl ⟨by rfl, ?_⟩) ?_ ?_
                    rotate_left
                    ·intro w'
                     go_simp
                     with_reducible rfl
                    rotate_left
                    ·simp only [Act.put, List.setIfInBounds_toArray, List.set_cons_zero, List.set_cons_succ, i64_w, i32_w, Go.IntKind.wrap_u32]
                     rfl
                    refine pure_ (i := 5) (N := some 66) (v := ?_) (a' := ?_) #[true, true, true, false, true, true, false, false, false, false, false, false, false, false, false, false, false, false, false, false, false, false, false, false, false, false, false, false, false, false, false, false, false, false] rfl rfl (any_of HT_.out (by kernel_rfl)) (fun _ _ _ h => h) (Or.inl ⟨by rfl, ?_⟩) ?_ ?_
                    rotate_left
                    ·intro w'
                     go_simp
                     with_reducible rfl
                    rotate_left
                    ·simp only [Act.put, List.setIfInBounds_toArray, List.set_cons_zero, List.set_cons_succ, i64_w, i32_w, Go.IntKind.wrap_u32]
                     rfl
                    refine pure_ (i := 6) (N := some 67) (v := ?_) (a' := ?_) #[true, true, true, false, true, true, true, false, false, false, false, false, false, false, false, false, false, false, false, false, false, false, false, false, false, false, false, false, false, false, false, false, false, false] rfl rfl (any_of HT_.out (by kernel_rfl)) (fun _ _ _ h => h) (Or.inl ⟨by rfl, ?_⟩) ?_ ?_
                    rotate_left
                    ·intro w'
                     go_simp
                     with_reducible rfl
                    rotate_left
                    ·simp only [Act.put, List.setIfInBounds_toArray, List.set_cons_zero, List.set_cons_succ, i64_w, i32_w, Go.IntKind.wrap_u32]
                     rfl
                    refine take_ (i := 3) (N := some 64) (v := ?_) (a' := ?_) #[true, true, true, true, true, true, true, false, false, false, false, false, false, false, false, false, false, false, false, false, false, false, false, false, false, false, false, false, false, false, false, false, false, false] rfl rfl (take_ofW HT_.out HW_.out (by kernel_rfl)) (fun _ _ _ h => h) (Or.inl ⟨by rfl, ?_⟩) hHeld ?_ ?_
                    rotate_left
                    ·rintro w' ⟨s0, s1, s2, s3, s4, s5, s6, s7, s8, s9, s10, s11, s12, s13, s14, s15, s16, s17, s18, s19, s20, s21, s22, s23, s24, s25, s26, s27, s28, s29, s30, s31, s32, s33, s34, s35⟩
                     go_simp
                     with_reducible rfl
                    rotate_left
                    ·simp only [Act.put, List.setIfInBounds_toArray, List.set_cons_zero, List.set_cons_succ, i64_w, i32_w, Go.IntKind.wrap_u32]
                     rfl
                    refine take_ (i := 7) (N := some 68) (v := ?_) (a' := ?_) #[true, true, true, true, true, true, true, true, false, false, false, false, false, false, false, false, false, false, false, false, false, false, false, false, false, false, false, false, false, false, false, false, false, false] rfl rfl (take_ofW HT_.out HW_.out (by kernel_rfl)) (fun _ _ _ h => h) (Or.inl ⟨by rfl, ?_⟩) hHeld ?_ ?_
                    rotate_left
                    ·rintro w' ⟨s0, s1, s2, s3, s4, s5, s6, s7, s8, s9, s10, s11, s12, s13, s14, s15, s16, s17, s18, s19, s20, s21, s22, s23, s24, s25, s26, s27, s28, s29, s30, s31, s32, s33, s34, s35⟩
                     go_simp
                     with_reducible rfl
                    rotate_left
                    ·simp only [Act.put, List.setIfInBounds_toArray, List.set_cons_zero, List.set_cons_succ, i64_w, i32_w, Go.IntKind.wrap_u32]
                     rfl
                    refine one_ (i := 8) (N := some 69) #[true, true, true, true, true, true, true, true, true, false, false, false, false, false, false, false, false, false, false, false, false, false, false, false, false, false, false, false, false, false, false, false, false, false] rfl rfl (one_of HT_.out (by kernel_rfl)) (by decide) (fun K hK => ?_)
                    refine goes_ Try.func19 (by kernel_rfl) rfl #[.agg #[.int .i64 ((rd_T45 t274 x14_3).f0), .bool ((rd_T45 t274 x14_3).f1), .int .u64 ((rd_T45 t274 x14_3).f2), .int .i64 ((rd_T45 t274 x14_3).f3), .int .i64 ((rd_T45 t274 x14_3).f4), .int .i64 ((rd_T45 t274 x14_3).f5)], .agg #[.int .i64 ((rd_T45 t274 x13_2).f0), .bool ((rd_T45 t274 x13_2).f1), .int .u64 ((rd_T45 t274 x13_2).f2), .int .i64 ((rd_T45 t274 x13_2).f3), .int .i64 ((rd_T45 t274 x13_2).f4), .int .i64 ((rd_T45 t274 x13_2).f5)]] (by rfl) rfl rfl (by first | rfl | ((try simp only [List.map_toArray, List.map_cons, List.map_nil]); first | done | rfl)) ?_
                    with_reducible refine (history_Ahead.calls ((rd_T45 t274 x14_3).f0) ((rd_T45 t274 x14_3).f1) ((rd_T45 t274 x14_3).f2) ((rd_T45 t274 x14_3).f3) ((rd_T45 t274 x14_3).f4) ((rd_T45 t274 x14_3).f5) ((rd_T45 t274 x13_2).f0) ((rd_T45 t274 x13_2).f1) ((rd_T45 t274 x13_2).f2) ((rd_T45 t274 x13_2).f3) ((rd_T45 t274 x13_2).f4) ((rd_T45 t274 x13_2).f5) false _ A33.out).mono ?_
                    rintro e w40 ⟨rfl, hb⟩
                    have HS0_ := (hb.cell (World.block_lt_of_cell? _ _ (hHeld.1))).trans (hHeld.1)
                    have HS1_ := (hb.cell (World.block_lt_of_cell? _ _ (hHeld.2.1))).trans (hHeld.2.1)
                    have HS2_ := (hb.cell (World.block_lt_of_cell? _ _ (hHeld.2.2.1))).trans (hHeld.2.2.1)
                    have HS3_ := (hb.cell (World.block_lt_of_cell? _ _ (hHeld.2.2.2.1))).trans (hHeld.2.2.2.1)
                    have HS4_ := (hb.cell (World.block_lt_of_cell? _ _ (hHeld.2.2.2.2.1))).trans (hHeld.2.2.2.2.1)
                    have HS5_ := (hb.cell (World.block_lt_of_cell? _ _ (hHeld.2.2.2.2.2.1))).trans (hHeld.2.2.2.2.2.1)
                    have HS6_ := (hb.cell (World.block_lt_of_cell? _ _ (hHeld.2.2.2.2.2.2.1))).trans (hHeld.2.2.2.2.2.2.1)
                    have HS7_ := (hb.cell (World.block_lt_of_cell? _ _ (hHeld.2.2.2.2.2.2.2.1))).trans (hHeld.2.2.2.2.2.2.2.1)
                    have HS8_ := (hb.cell (World.block_lt_of_cell? _ _ (hHeld.2.2.2.2.2.2.2.2.1))).trans (hHeld.2.2.2.2.2.2.2.2.1)
                    have HS9_ := (hb.cell (World.block_lt_of_cell? _ _ (hHeld.2.2.2.2.2.2.2.2.2.1))).trans (hHeld.2.2.2.2.2.2.2.2.2.1)
                    have HS10_ := (hb.cell (World.block_lt_of_cell? _ _ (hHeld.2.2.2.2.2.2.2.2.2.2.1))).trans (hHeld.2.2.2.2.2.2.2.2.2.2.1)
                    have HS11_ := (hb.cell (World.block_lt_of_cell? _ _ (hHeld.2.2.2.2.2.2.2.2.2.2.2.1))).trans (hHeld.2.2.2.2.2.2.2.2.2.2.2.1)
                    have HS12_ := (hb.cell (World.block_lt_of_cell? _ _ (hHeld.2.2.2.2.2.2.2.2.2.2.2.2.1))).trans (hHeld.2.2.2.2.2.2.2.2.2.2.2.2.1)
                    have HS13_ := (hb.cell (World.block_lt_of_cell? _ _ (hHeld.2.2.2.2.2.2.2.2.2.2.2.2.2.1))).trans (hHeld.2.2.2.2.2.2.2.2.2.2.2.2.2.1)
                    have HS14_ := (hb.cell (World.block_lt_of_cell? _ _ (hHeld.2.2.2.2.2.2.2.2.2.2.2.2.2.2.1))).trans (hHeld.2.2.2.2.2.2.2.2.2.2.2.2.2.2.1)
                    have HS15_ := (hb.cell (World.block_lt_of_cell? _ _ (hHeld.2.2.2.2.2.2.2.2.2.2.2.2.2.2.2.1))).trans (hHeld.2.2.2.2.2.2.2.2.2.2.2.2.2.2.2.1)
                    have HS16_ := (hb.cell (World.block_lt_of_cell? _ _ (hHeld.2.2.2.2.2.2.2.2.2.2.2.2.2.2.2.2.1))).trans (hHeld.2.2.2.2.2.2.2.2.2.2.2.2.2.2.2.2.1)
                    have HS17_ := (hb.cell (World.block_lt_of_cell? _ _ (hHeld.2.2.2.2.2.2.2.2.2.2.2.2.2.2.2.2.2.1))).trans (hHeld.2.2.2.2.2.2.2.2.2.2.2.2.2.2.2.2.2.1)
                    have HS18_ := (hb.cell (World.block_lt_of_cell? _ _ (hHeld.2.2.2.2.2.2.2.2.2.2.2.2.2.2.2.2.2.2.1))).trans (hHeld.2.2.2.2.2.2.2.2.2.2.2.2.2.2.2.2.2.2.1)
                    have HS19_ := (hb.cell (World.block_lt_of_cell? _ _ (hHeld.2.2.2.2.2.2.2.2.2.2.2.2.2.2.2.2.2.2.2.1))).trans (hHeld.2.2.2.2.2.2.2.2.2.2.2.2.2.2.2.2.2.2.2.1)
                    have HS20_ := (hb.cell (World.block_lt_of_cell? _ _ (hHeld.2.2.2.2.2.2.2.2.2.2.2.2.2.2.2.2.2.2.2.2.1))).trans (hHeld.2.2.2.2.2.2.2.2.2.2.2.2.2.2.2.2.2.2.2.2.1)
                    have HS21_ := (hb.cell (World.block_lt_of_cell? _ _ (hHeld.2.2.2.2.2.2.2.2.2.2.2.2.2.2.2.2.2.2.2.2.2.1))).trans (hHeld.2.2.2.2.2.2.2.2.2.2.2.2.2.2.2.2.2.2.2.2.2.1)
                    have HS22_ := (hb.cell (World.block_lt_of_cell? _ _ (hHeld.2.2.2.2.2.2.2.2.2.2.2.2.2.2.2.2.2.2.2.2.2.2.1))).trans (hHeld.2.2.2.2.2.2.2.2.2.2.2.2.2.2.2.2.2.2.2.2.2.2.1)
                    have HS23_ := (hb.cell (World.block_lt_of_cell? _ _ (hHeld.2.2.2.2.2.2.2.2.2.2.2.2.2.2.2.2.2.2.2.2.2.2.2.1))).trans (hHeld.2.2.2.2.2.2.2.2.2.2.2.2.2.2.2.2.2.2.2.2.2.2.2.1)
                    have HS24_ := (hb.cell (World.block_lt_of_cell? _ _ (hHeld.2.2.2.2.2.2.2.2.2.2.2.2.2.2.2.2.2.2.2.2.2.2.2.2.1))).trans (hHeld.2.2.2.2.2.2.2.2.2.2.2.2.2.2.2.2.2.2.2.2.2.2.2.2.1)
                    have HS25_ := (hb.cell (World.block_lt_of_cell? _ _ (hHeld.2.2.2.2.2.2.2.2.2.2.2.2.2.2.2.2.2.2.2.2.2.2.2.2.2.1))).trans (hHeld.2.2.2.2.2.2.2.2.2.2.2.2.2.2.2.2.2.2.2.2.2.2.2.2.2.1)
                    have HS26_ := (hb.cell (World.block_lt_of_cell? _ _ (hHeld.2.2.2.2.2.2.2.2.2.2.2.2.2.2.2.2.2.2.2.2.2.2.2.2.2.2.1))).trans (hHeld.2.2.2.2.2.2.2.2.2.2.2.2.2.2.2.2.2.2.2.2.2.2.2.2.2.2.1)
                    have HS27_ := (hb.cell (World.block_lt_of_cell? _ _ (hHeld.2.2.2.2.2.2.2.2.2.2.2.2.2.2.2.2.2.2.2.2.2.2.2.2.2.2.2.1))).trans (hHeld.2.2.2.2.2.2.2.2.2.2.2.2.2.2.2.2.2.2.2.2.2.2.2.2.2.2.2.1)
                    have HS28_ := (hb.cell (World.block_lt_of_cell? _ _ (hHeld.2.2.2.2.2.2.2.2.2.2.2.2.2.2.2.2.2.2.2.2.2.2.2.2.2.2.2.2.1))).trans (hHeld.2.2.2.2.2.2.2.2.2.2.2.2.2.2.2.2.2.2.2.2.2.2.2.2.2.2.2.2.1)
                    have HS29_ := (hb.cell (World.block_lt_of_cell? _ _ (hHeld.2.2.2.2.2.2.2.2.2.2.2.2.2.2.2.2.2.2.2.2.2.2.2.2.2.2.2.2.2.1))).trans (hHeld.2.2.2.2.2.2.2.2.2.2.2.2.2.2.2.2.2.2.2.2.2.2.2.2.2.2.2.2.2.1)
                    have HS30_ := (hb.cell (World.block_lt_of_cell? _ _ (hHeld.2.2.2.2.2.2.2.2.2.2.2.2.2.2.2.2.2.2.2.2.2.2.2.2.2.2.2.2.2.2.1))).trans (hHeld.2.2.2.2.2.2.2.2.2.2.2.2.2.2.2.2.2.2.2.2.2.2.2.2.2.2.2.2.2.2.1)
                    have HS31_ := (hb.cell (World.block_lt_of_cell? _ _ (hHeld.2.2.2.2.2.2.2.2.2.2.2.2.2.2.2.2.2.2.2.2.2.2.2.2.2.2.2.2.2.2.2.1))).trans (hHeld.2.2.2.2.2.2.2.2.2.2.2.2.2.2.2.2.2.2.2.2.2.2.2.2.2.2.2.2.2.2.2.1)
                    have HS32_ := (hb.cell (World.block_lt_of_cell? _ _ (hHeld.2.2.2.2.2.2.2.2.2.2.2.2.2.2.2.2.2.2.2.2.2.2.2.2.2.2.2.2.2.2.2.2.1))).trans (hHeld.2.2.2.2.2.2.2.2.2.2.2.2.2.2.2.2.2.2.2.2.2.2.2.2.2.2.2.2.2.2.2.2.1)
                    have HS33_ := (hb.cell (World.block_lt_of_cell? _ _ (hHeld.2.2.2.2.2.2.2.2.2.2.2.2.2.2.2.2.2.2.2.2.2.2.2.2.2.2.2.2.2.2.2.2.2.1))).trans (hHeld.2.2.2.2.2.2.2.2.2.2.2.2.2.2.2.2.2.2.2.2.2.2.2.2.2.2.2.2.2.2.2.2.2.1)
                    have HS34_ := (hb.cell (World.block_lt_of_cell? _ _ (hHeld.2.2.2.2.2.2.2.2.2.2.2.2.2.2.2.2.2.2.2.2.2.2.2.2.2.2.2.2.2.2.2.2.2.2.1))).trans (hHeld.2.2.2.2.2.2.2.2.2.2.2.2.2.2.2.2.2.2.2.2.2.2.2.2.2.2.2.2.2.2.2.2.2.2.1)
                    have HS35_ := (hb.cell (World.block_lt_of_cell? _ _ (hHeld.2.2.2.2.2.2.2.2.2.2.2.2.2.2.2.2.2.2.2.2.2.2.2.2.2.2.2.2.2.2.2.2.2.2.2))).trans (hHeld.2.2.2.2.2.2.2.2.2.2.2.2.2.2.2.2.2.2.2.2.2.2.2.2.2.2.2.2.2.2.2.2.2.2.2)
                    refine ⟨_, rfl, ?_⟩
                    have n0_ := Aside0.mk (Kd.R_below (by (with_reducible repeat (first | apply Kd.R_alloc | apply Kd.R_drewN | apply Kd.R_drew)); exact HO_10.out) hb)
                    have n1_ := Aside0.mk (below_step (by with_reducible repeat (first | exact HB.out | apply below_alloc | apply pw_below_drewN | apply below_drew1)) hb)
                    clear HO_10
                    clear HB
                    have HO_10 := n0_
                    have HB := n1_
                    clear n0_ n1_
                    (try clear hb)
                    (try clear hb2)
                    (try clear hk)
                    (try clear hi)
                    refine hK.out _ _ ⟨HS0_, HS1_, HS2_, HS3_, HS4_, HS5_, HS6_, HS7_, HS8_, HS9_, HS10_, HS11_, HS12_, HS13_, HS14_, HS15_, HS16_, HS17_, HS18_, HS19_, HS20_, HS21_, HS22_, HS23_, HS24_, HS25_, HS26_, HS27_, HS28_, HS29_, HS30_, HS31_, HS32_, HS33_, HS34_, HS35_⟩ (fun hHeld => ?_)
                    clear hK K
                    refine norm_ (a' := ?_) ?_ ?_
                    rotate_left
                    ·show Act.put _ (some 69) _ = _
                     simp only [Act.put, List.setIfInBounds_toArray, List.set_cons_zero, List.set_cons_succ, i64_w, i32_w, Go.IntKind.wrap_u32]
                     rfl
                    refine pure_ (i := 9) (N := some 70) (v := ?_) (a' := ?_) #[true, true, true, true, true, true, true, true, true, true, false, false, false, false, false, false, false, false, false, false, false, false, false, false, false, false, false, false, false, false, false, false, false, false] rfl rfl (any_of HT_.out (by kernel_rfl)) (fun _ _ _ h => h) (Or.inl ⟨by rfl, ?_⟩) ?_ ?_
                    rotate_left
                    ·intro w'
                     go_simp
                     with_reducible rfl
                    rotate_left
                    ·simp only [Act.put, List.setIfInBounds_toArray, List.set_cons_zero, List.set_cons_succ, i64_w, i32_w, Go.IntKind.wrap_u32]
                     rfl
                    refine pure_ (i := 10) (N := some 71) (v := ?_) (a' := ?_) #[true, true, true, true, true, true, true, true, true, true, true, false, false, false, false, false, false, false, false, false, false, false, false, false, false, false, false, false, false, false, false, false, false, false] rfl rfl (any_of HT_.out (by kernel_rfl)) (fun _ _ _ h => h) (Or.inl ⟨by rfl, ?_⟩) ?_ ?_
                    rotate_left
                    ·intro w'
                     go_simp
                     with_reducible rfl
                    rotate_left
                    ·simp only [Act.put, List.setIfInBounds_toArray, List.set_cons_zero, List.set_cons_succ, i64_w, i32_w, Go.IntKind.wrap_u32]
                     rfl
                    refine pure_ (i := 11) (N := some 72) (v := ?_) (a' := ?_) #[true, true, true, true, true, true, true, true, true, true, true, true, false, false, false, false, false, false, false, false, false, false, false, false, false, false, false, false, false, false, false, false, false, false] rfl rfl (any_of HT_.out (by kernel_rfl)) (fun _ _ _ h => h) (Or.inl ⟨by rfl, ?_⟩) ?_ ?_
                    rotate_left
                    ·intro w'
                     go_simp
                     with_reducible rfl
                    rotate_left
                    ·simp only [Act.put, List.setIfInBounds_toArray, List.set_cons_zero, List.set_cons_succ, i64_w, i32_w, Go.IntKind.wrap_u32]
                     rfl
                    refine pure_ (i := 12) (N := some 73) (v := ?_) (a' := ?_) #[true, true, true, true, true, true, true, true, true, true, true, true, true, false, false, false, false, false, false, false, false, false, false, false, false, false, false, false, false, false, false, false, false, false] rfl rfl (any_of HT_.out (by kernel_rfl)) (fun _ _ _ h => h) (Or.inl ⟨by rfl, ?_⟩) ?_ ?_
                    rotate_left
                    ·intro w'
                     go_simp
                     with_reducible rfl
                    rotate_left
                    ·simp only [Act.put, List.setIfInBounds_toArray, List.set_cons_zero, List.set_cons_succ, i64_w, i32_w, Go.IntKind.wrap_u32]
                     rfl
                    refine pure_ (i := 13) (N := some 74) (v := ?_) (a' := ?_) #[true, true, true, true, true, true, true, true, true, true, true, true, true, true, false, false, false, false, false, false, false, false, false, false, false, false, false, false, false, false, false, false, false, false] rfl rfl (any_of HT_.out (by kernel_rfl)) (fun _ _ _ h => h) (Or.inl ⟨by rfl, ?_⟩) ?_ ?_
                    rotate_left
                    ·intro w'
                     go_simp
                     with_reducible rfl
                    rotate_left
                    ·simp only [Act.put, List.setIfInBounds_toArray, List.set_cons_zero, List.set_cons_succ, i64_w, i32_w, Go.IntKind.wrap_u32]
                     rfl
                    refine pure_ (i := 15) (N := some 76) (v := ?_) (a' := ?_) #[true, true, true, true, true, true, true, true, true, true, true, true, true, true, false, true, false, false, false, false, false, false, false, false, false, false, false, false, false, false, false, false, false, false] rfl rfl (any_of HT_.out (by kernel_rfl)) (fun _ _ _ h => h) (Or.inl ⟨by rfl, ?_⟩) ?_ ?_
                    rotate_left
                    ·intro w'
                     go_simp
                     with_reducible rfl
                    rotate_left
                    ·simp only [Act.put, List.setIfInBounds_toArray, List.set_cons_zero, List.set_cons_succ, i64_w, i32_w, Go.IntKind.wrap_u32]
                     rfl
                    refine pure_ (i := 16) (N := some 77) (v := ?_) (a' := ?_) #[true, true, true, true, true, true, true, true, true, true, true, true, true, true, false, true, true, false, false, false, false, false, false, false, false, false, false, false, false, false, false, false, false, false] rfl rfl (any_of HT_.out (by kernel_rfl)) (fun _ _ _ h => h) (Or.inl ⟨by rfl, ?_⟩) ?_ ?_
                    rotate_left
                    ·intro w'
                     go_simp
                     with_reducible rfl
                    rotate_left
                    ·simp only [Act.put, List.setIfInBounds_toArray, List.set_cons_zero, List.set_cons_succ, i64_w, i32_w, Go.IntKind.wrap_u32]
                     rfl
                    refine pure_ (i := 17) (N := some 78) (v := ?_) (a' := ?_) #[true, true, true, true, true, true, true, true, true, true, true, true, true, true, false, true, true, true, false, false, false, false, false, false, false, false, false, false, false, false, false, false, false, false] rfl rfl (any_of HT_.out (by kernel_rfl)) (fun _ _ _ h => h) (Or.inl ⟨by rfl, ?_⟩) ?_ ?_
                    rotate_left
                    ·intro w'
                     go_simp
                     with_reducible rfl
                    rotate_left
                    ·simp only [Act.put, List.setIfInBounds_toArray, List.set_cons_zero, List.set_cons_succ, i64_w, i32_w, Go.IntKind.wrap_u32]
                     rfl
                    refine pure_ (i := 18) (N := some 79) (v := ?_) (a' := ?_) #[true, true, true, true, true, true, true, true, true, true, true, true, true, true, false, true, true, true, true, false, false, false, false, false, false, false, false, false, false, false, false, false, false, false] rfl rfl (any_of HT_.out (by kernel_rfl)) (fun _ _ _ h => h) (Or.inl ⟨by rfl, ?_⟩) ?_ ?_
                    rotate_left
                    ·intro w'
                     go_simp
                     with_reducible rfl
                    rotate_left
                    ·simp only [Act.put, List.setIfInBounds_toArray, List.set_cons_zero, List.set_cons_succ, i64_w, i32_w, Go.IntKind.wrap_u32]
                     rfl
                    refine take_ (i := 14) (N := some 75) (v := ?_) (a' := ?_) #[true, true, true, true, true, true, true, true, true, true, true, true, true, true, true, true, true, true, true, false, false, false, false, false, false, false, false, false, false, false, false, false, false, false] rfl rfl (take_ofW HT_.out HW_.out (by kernel_rfl)) (fun _ _ _ h => h) (Or.inl ⟨by rfl, ?_⟩) hHeld ?_ ?_
                    rotate_left
                    ·rintro w' ⟨s0, s1, s2, s3, s4, s5, s6, s7, s8, s9, s10, s11, s12, s13, s14, s15, s16, s17, s18, s19, s20, s21, s22, s23, s24, s25, s26, s27, s28, s29, s30, s31, s32, s33, s34, s35⟩
                     go_simp
                     with_reducible rfl
                    rotate_left
                    ·simp only [Act.put, List.setIfInBounds_toArray, List.set_cons_zero, List.set_cons_succ, i64_w, i32_w, Go.IntKind.wrap_u32]
                     rfl
                    refine take_ (i := 19) (N := some 80) (v := ?_) (a' := ?_) #[true, true, true, true, true, true, true, true, true, true, true, true, true, true, true, true, true, true, true, true, false, false, false, false, false, false, false, false, false, false, false, false, false, false] rfl rfl (take_ofW HT_.out HW_.out (by kernel_rfl)) (fun _ _ _ h => h) (Or.inl ⟨by rfl, ?_⟩) hHeld ?_ ?_
                    rotate_left
                    ·rintro w' ⟨s0, s1, s2, s3, s4, s5, s6, s7, s8, s9, s10, s11, s12, s13, s14, s15, s16, s17, s18, s19, s20, s21, s22, s23, s24, s25, s26, s27, s28, s29, s30, s31, s32, s33, s34, s35⟩
                     go_simp
                     with_reducible rfl
                    rotate_left
                    ·simp only [Act.put, List.setIfInBounds_toArray, List.set_cons_zero, List.set_cons_succ, i64_w, i32_w, Go.IntKind.wrap_u32]
                     rfl
                    refine pure_ (i := 20) (N := some 81) (v := ?_) (a' := ?_) #[true, true, true, true, true, true, true, true, true, true, true, true, true, true, true, true, true, true, true, true, true, false, false, false, false, false, false, false, false, false, false, false, false, false] rfl rfl (any_of HT_.out (by kernel_rfl)) (fun _ _ _ h => h) (Or.inl ⟨by rfl, ?_⟩) ?_ ?_
                    rotate_left
                    ·intro w'
                     go_simp
                     with_reducible rfl
                    rotate_left
                    ·simp only [Act.put, List.setIfInBounds_toArray, List.set_cons_zero, List.set_cons_succ, i64_w, i32_w, Go.IntKind.wrap_u32]
                     rfl
                    refine pure_ (i := 21) (N := some 82) (v := ?_) (a' := ?_) #[true, true, true, true, true, true, true, true, true, true, true, true, true, true, true, true, true, true, true, true, true, true, false, false, false, false, false, false, false, false, false, false, false, false] rfl rfl (any_of HT_.out (by kernel_rfl)) (fun _ _ _ h => h) (Or.inl ⟨by rfl, ?_⟩) ?_ ?_
                    rotate_left
                    ·intro w'
                     go_simp
                     with_reducible rfl
                    rotate_left
                    ·simp only [Act.put, List.setIfInBounds_toArray, List.set_cons_zero, List.set_cons_succ, i64_w, i32_w, Go.IntKind.wrap_u32]
                     rfl
                    refine pure_ (i := 22) (N := some 83) (v := ?_) (a' := ?_) #[true, true, true, true, true, true, true, true, true, true, true, true, true, true, true, true, true, true, true, true, true, true, true, false, false, false, false, false, false, false, false, false, false, false] rfl rfl (any_of HT_.out (by kernel_rfl)) (fun _ _ _ h => h) (Or.inl ⟨by rfl, ?_⟩) ?_ ?_
                    rotate_left
                    ·intro w'
                     go_simp
                     with_reducible rfl
                    rotate_left
                    ·simp only [Act.put, List.setIfInBounds_toArray, List.set_cons_zero, List.set_cons_succ, i64_w, i32_w, Go.IntKind.wrap_u32]
                     rfl
                    refine pure_ (i := 23) (N := some 84) (v := ?_) (a' := ?_) #[true, true, true, true, true, true, true, true, true, true, true, true, true, true, true, true, true, true, true, true, true, true, true, true, false, false, false, false, false, false, false, false, false, false] rfl rfl (any_of HT_.out (by kernel_rfl)) (fun _ _ _ h => h) (Or.inl ⟨by rfl, ?_⟩) ?_ ?_
                    rotate_left
                    ·intro w'
                     go_simp
                     with_reducible rfl
                    rotate_left
                    ·simp only [Act.put, List.setIfInBounds_toArray, List.set_cons_zero, List.set_cons_succ, i64_w, i32_w, Go.IntKind.wrap_u32]
                     rfl
                    refine pure_ (i := 24) (N := some 85) (v := ?_) (a' := ?_) #[true, true, true, true, true, true, true, true, true, true, true, true, true, true, true, true, true, true, true, true, true, true, true, true, true, false, false, false, false, false, false, false, false, false] rfl rfl (any_of HT_.out (by kernel_rfl)) (fun _ _ _ h => h) (Or.inl ⟨by rfl, ?_⟩) ?_ ?_
                    rotate_left
                    ·intro w'
                     go_simp
                     with_reducible rfl
                    rotate_left
                    ·simp only [Act.put, List.setIfInBounds_toArray, List.set_cons_zero, List.set_cons_succ, i64_w, i32_w, Go.IntKind.wrap_u32]
                     rfl
                    refine pure_ (i := 26) (N := some 87) (v := ?_) (a' := ?_) #[true, true, true, true, true, true, true, true, true, true, true, true, true, true, true, true, true, true, true, true, true, true, true, true, true, false, true, false, false, false, false, false, false, false] rfl rfl (any_of HT_.out (by kernel_rfl)) (fun _ _ _ h => h) (Or.inl ⟨by rfl, ?_⟩) ?_ ?_
                    rotate_left
                    ·intro w'
                     go_simp
                     with_reducible rfl
                    rotate_left
                    ·simp only [Act.put, List.setIfInBounds_toArray, List.set_cons_zero, List.set_cons_succ, i64_w, i32_w, Go.IntKind.wrap_u32]
                     rfl
                    refine pure_ (i := 27) (N := some 88) (v := ?_) (a' := ?_) #[true, true, true, true, true, true, true, true, true, true, true, true, true, true, true, true, true, true, true, true, true, true, true, true, true, false, true, true, false, false, false, false, false, false] rfl rfl (any_of HT_.out (by kernel_rfl)) (fun _ _ _ h => h) (Or.inl ⟨by rfl, ?_⟩) ?_ ?_
                    rotate_left
                    ·intro w'
                     go_simp
                     with_reducible rfl
                    rotate_left
                    ·simp only [Act.put, List.setIfInBounds_toArray, List.set_cons_zero, List.set_cons_succ, i64_w, i32_w, Go.IntKind.wrap_u32]
                     rfl
                    refine pure_ (i := 28) (N := some 89) (v := ?_) (a' := ?_) #[true, true, true, true, true, true, true, true, true, true, true, true, true, true, true, true, true, true, true, true, true, true, true, true, true, false, true, true, true, false, false, false, false, false] rfl rfl (any_of HT_.out (by kernel_rfl)) (fun _ _ _ h => h) (Or.inl ⟨by rfl, ?_⟩) ?_ ?_
                    rotate_left
                    ·intro w'
                     go_simp
                     with_reducible rfl
                    rotate_left
                    ·simp only [Act.put, List.setIfInBounds_toArray, List.set_cons_zero, List.set_cons_succ, i64_w, i32_w, Go.IntKind.wrap_u32]
                     rfl
                    refine take_ (i := 25) (N := some 86) (v := ?_) (a' := ?_) #[true, true, true, true, true, true, true, true, true, true, true, true, true, true, true, true, true, true, true, true, true, true, true, true, true, true, true, true, true, false, false, false, false, false] rfl rfl (take_ofW HT_.out HW_.out (by kernel_rfl)) (fun _ _ _ h => h) (Or.inl ⟨by rfl, ?_⟩) hHeld ?_ ?_
                    rotate_left
                    ·rintro w' ⟨s0, s1, s2, s3, s4, s5, s6, s7, s8, s9, s10, s11, s12, s13, s14, s15, s16, s17, s18, s19, s20, s21, s22, s23, s24, s25, s26, s27, s28, s29, s30, s31, s32, s33, s34, s35⟩
                     go_simp
                     with_reducible rfl
                    rotate_left
                    ·simp only [Act.put, List.setIfInBounds_toArray, List.set_cons_zero, List.set_cons_succ, i64_w, i32_w, Go.IntKind.wrap_u32]
                     rfl
                    refine take_ (i := 29) (N := some 90) (v := ?_) (a' := ?_) #[true, true, true, true, true, true, true, true, true, true, true, true, true, true, true, true, true, true, true, true, true, true, true, true, true, true, true, true, true, true, false, false, false, false] rfl rfl (take_ofW HT_.out HW_.out (by kernel_rfl)) (fun _ _ _ h => h) (Or.inl ⟨by rfl, ?_⟩) hHeld ?_ ?_
                    rotate_left
                    ·rintro w' ⟨s0, s1, s2, s3, s4, s5, s6, s7, s8, s9, s10, s11, s12, s13, s14, s15, s16, s17, s18, s19, s20, s21, s22, s23, s24, s25, s26, s27, s28, s29, s30, s31, s32, s33, s34, s35⟩
                     go_simp
                     with_reducible rfl
                    rotate_left
                    ·simp only [Act.put, List.setIfInBounds_toArray, List.set_cons_zero, List.set_cons_succ, i64_w, i32_w, Go.IntKind.wrap_u32]
                     rfl
                    refine one_ (i := 30) (N := some 91) #[true, true, true, true, true, true, true, true, true, true, true, true, true, true, true, true, true, true, true, true, true, true, true, true, true, true, true, true, true, true, true, false, false, false] rfl rfl (one_of HT_.out (by kernel_rfl)) (by decide) (fun K hK => ?_)
                    refine goes_ Try.func19 (by kernel_rfl) rfl #[.agg #[.int .i64 ((rd_T45 t274 x13_2).f0), .bool ((rd_T45 t274 x13_2).f1), .int .u64 ((rd_T45 t274 x13_2).f2), .int .i64 ((rd_T45 t274 x13_2).f3), .int .i64 ((rd_T45 t274 x13_2).f4), .int .i64 ((rd_T45 t274 x13_2).f5)], .agg #[.int .i64 ((rd_T45 t274 x14_3).f0), .bool ((rd_T45 t274 x14_3).f1), .int .u64 ((rd_T45 t274 x14_3).f2), .int .i64 ((rd_T45 t274 x14_3).f3), .int .i64 ((rd_T45 t274 x14_3).f4), .int .i64 ((rd_T45 t274 x14_3).f5)]] (by rfl) rfl rfl (by first | rfl | ((try simp only [List.map_toArray, List.map_cons, List.map_nil]); first | done | rfl)) ?_
                    with_reducible refine (history_Ahead.calls ((rd_T45 t274 x13_2).f0) ((rd_T45 t274 x13_2).f1) ((rd_T45 t274 x13_2).f2) ((rd_T45 t274 x13_2).f3) ((rd_T45 t274 x13_2).f4) ((rd_T45 t274 x13_2).f5) ((rd_T45 t274 x14_3).f0) ((rd_T45 t274 x14_3).f1) ((rd_T45 t274 x14_3).f2) ((rd_T45 t274 x14_3).f3) ((rd_T45 t274 x14_3).f4) ((rd_T45 t274 x14_3).f5) t288 _ A38.out).mono ?_
                    rintro e w41 ⟨rfl, hb⟩
                    have HS0_ := (hb.cell (World.block_lt_of_cell? _ _ (hHeld.1))).trans (hHeld.1)
                    have HS1_ := (hb.cell (World.block_lt_of_cell? _ _ (hHeld.2.1))).trans (hHeld.2.1)
                    have HS2_ := (hb.cell (World.block_lt_of_cell? _ _ (hHeld.2.2.1))).trans (hHeld.2.2.1)
                    have HS3_ := (hb.cell (World.block_lt_of_cell? _ _ (hHeld.2.2.2.1))).trans (hHeld.2.2.2.1)
                    have HS4_ := (hb.cell (World.block_lt_of_cell? _ _ (hHeld.2.2.2.2.1))).trans (hHeld.2.2.2.2.1)
                    have HS5_ := (hb.cell (World.block_lt_of_cell? _ _ (hHeld.2.2.2.2.2.1))).trans (hHeld.2.2.2.2.2.1)
                    have HS6_ := (hb.cell (World.block_lt_of_cell? _ _ (hHeld.2.2.2.2.2.2.1))).trans (hHeld.2.2.2.2.2.2.1)
                    have HS7_ := (hb.cell (World.block_lt_of_cell? _ _ (hHeld.2.2.2.2.2.2.2.1))).trans (hHeld.2.2.2.2.2.2.2.1)
                    have HS8_ := (hb.cell (World.block_lt_of_cell? _ _ (hHeld.2.2.2.2.2.2.2.2.1))).trans (hHeld.2.2.2.2.2.2.2.2.1)
                    have HS9_ := (hb.cell (World.block_lt_of_cell? _ _ (hHeld.2.2.2.2.2.2.2.2.2.1))).trans (hHeld.2.2.2.2.2.2.2.2.2.1)
                    have HS10_ := (hb.cell (World.block_lt_of_cell? _ _ (hHeld.2.2.2.2.2.2.2.2.2.2.1))).trans (hHeld.2.2.2.2.2.2.2.2.2.2.1)
                    have HS11_ := (hb.cell (World.block_lt_of_cell? _ _ (hHeld.2.2.2.2.2.2.2.2.2.2.2.1))).trans (hHeld.2.2.2.2.2.2.2.2.2.2.2.1)
                    have HS12_ := (hb.cell (World.block_lt_of_cell? _ _ (hHeld.2.2.2.2.2.2.2.2.2.2.2.2.1))).trans (hHeld.2.2.2.2.2.2.2.2.2.2.2.2.1)
                    have HS13_ := (hb.cell (World.block_lt_of_cell? _ _ (hHeld.2.2.2.2.2.2.2.2.2.2.2.2.2.1))).trans (hHeld.2.2.2.2.2.2.2.2.2.2.2.2.2.1)
                    have HS14_ := (hb.cell (World.block_lt_of_cell? _ _ (hHeld.2.2.2.2.2.2.2.2.2.2.2.2.2.2.1))).trans (hHeld.2.2.2.2.2.2.2.2.2.2.2.2.2.2.1)
                    have HS15_ := (hb.cell (World.block_lt_of_cell? _ _ (hHeld.2.2.2.2.2.2.2.2.2.2.2.2.2.2.2.1))).trans (hHeld.2.2.2.2.2.2.2.2.2.2.2.2.2.2.2.1)
                    have HS16_ := (hb.cell (World.block_lt_of_cell? _ _ (hHeld.2.2.2.2.2.2.2.2.2.2.2.2.2.2.2.2.1))).trans (hHeld.2.2.2.2.2.2.2.2.2.2.2.2.2.2.2.2.1)
                    have HS17_ := (hb.cell (World.block_lt_of_cell? _ _ (hHeld.2.2.2.2.2.2.2.2.2.2.2.2.2.2.2.2.2.1))).trans (hHeld.2.2.2.2.2.2.2.2.2.2.2.2.2.2.2.2.2.1)
                    have HS18_ := (hb.cell (World.block_lt_of_cell? _ _ (hHeld.2.2.2.2.2.2.2.2.2.2.2.2.2.2.2.2.2.2.1))).trans (hHeld.2.2.2.2.2.2.2.2.2.2.2.2.2.2.2.2.2.2.1)
                    have HS19_ := (hb.cell (World.block_lt_of_cell? _ _ (hHeld.2.2.2.2.2.2.2.2.2.2.2.2.2.2.2.2.2.2.2.1))).trans (hHeld.2.2.2.2.2.2.2.2.2.2.2.2.2.2.2.2.2.2.2.1)
                    have HS20_ := (hb.cell (World.block_lt_of_cell? _ _ (hHeld.2.2.2.2.2.2.2.2.2.2.2.2.2.2.2.2.2.2.2.2.1))).trans (hHeld.2.2.2.2.2.2.2.2.2.2.2.2.2.2.2.2.2.2.2.2.1)
                    have HS21_ := (hb.cell (World.block_lt_of_cell? _ _ (hHeld.2.2.2.2.2.2.2.2.2.2.2.2.2.2.2.2.2.2.2.2.2.1))).trans (hHeld.2.2.2.2.2.2.2.2.2.2.2.2.2.2.2.2.2.2.2.2.2.1)
                    have HS22_ := (hb.cell (World.block_lt_of_cell? _ _ (hHeld.2.2.2.2.2.2.2.2.2.2.2.2.2.2.2.2.2.2.2.2.2.2.1))).trans (hHeld.2.2.2.2.2.2.2.2.2.2.2.2.2.2.2.2.2.2.2.2.2.2.1)
                    have HS23_ := (hb.cell (World.block_lt_of_cell? _ _ (hHeld.2.2.2.2.2.2.2.2.2.2.2.2.2.2.2.2.2.2.2.2.2.2.2.1))).trans (hHeld.2.2.2.2.2.2.2.2.2.2.2.2.2.2.2.2.2.2.2.2.2.2.2.1)
                    have HS24_ := (hb.cell (World.block_lt_of_cell? _ _ (hHeld.2.2.2.2.2.2.2.2.2.2.2.2.2.2.2.2.2.2.2.2.2.2.2.2.1))).trans (hHeld.2.2.2.2.2.2.2.2.2.2.2.2.2.2.2.2.2.2.2.2.2.2.2.2.1)
                    have HS25_ := (hb.cell (World.block_lt_of_cell? _ _ (hHeld.2.2.2.2.2.2.2.2.2.2.2.2.2.2.2.2.2.2.2.2.2.2.2.2.2.1))).trans (hHeld.2.2.2.2.2.2.2.2.2.2.2.2.2.2.2.2.2.2.2.2.2.2.2.2.2.1)
                    have HS26_ := (hb.cell (World.block_lt_of_cell? _ _ (hHeld.2.2.2.2.2.2.2.2.2.2.2.2.2.2.2.2.2.2.2.2.2.2.2.2.2.2.1))).trans (hHeld.2.2.2.2.2.2.2.2.2.2.2.2.2.2.2.2.2.2.2.2.2.2.2.2.2.2.1)
                    have HS27_ := (hb.cell (World.block_lt_of_cell? _ _ (hHeld.2.2.2.2.2.2.2.2.2.2.2.2.2.2.2.2.2.2.2.2.2.2.2.2.2.2.2.1))).trans (hHeld.2.2.2.2.2.2.2.2.2.2.2.2.2.2.2.2.2.2.2.2.2.2.2.2.2.2.2.1)
                    have HS28_ := (hb.cell (World.block_lt_of_cell? _ _ (hHeld.2.2.2.2.2.2.2.2.2.2.2.2.2.2.2.2.2.2.2.2.2.2.2.2.2.2.2.2.1))).trans (hHeld.2.2.2.2.2.2.2.2.2.2.2.2.2.2.2.2.2.2.2.2.2.2.2.2.2.2.2.2.1)
                    have HS29_ := (hb.cell (World.block_lt_of_cell? _ _ (hHeld.2.2.2.2.2.2.2.2.2.2.2.2.2.2.2.2.2.2.2.2.2.2.2.2.2.2.2.2.2.1))).trans (hHeld.2.2.2.2.2.2.2.2.2.2.2.2.2.2.2.2.2.2.2.2.2.2.2.2.2.2.2.2.2.1)
                    have HS30_ := (hb.cell (World.block_lt_of_cell? _ _ (hHeld.2.2.2.2.2.2.2.2.2.2.2.2.2.2.2.2.2.2.2.2.2.2.2.2.2.2.2.2.2.2.1))).trans (hHeld.2.2.2.2.2.2.2.2.2.2.2.2.2.2.2.2.2.2.2.2.2.2.2.2.2.2.2.2.2.2.1)
                    have HS31_ := (hb.cell (World.block_lt_of_cell? _ _ (hHeld.2.2.2.2.2.2.2.2.2.2.2.2.2.2.2.2.2.2.2.2.2.2.2.2.2.2.2.2.2.2.2.1))).trans (hHeld.2.2.2.2.2.2.2.2.2.2.2.2.2.2.2.2.2.2.2.2.2.2.2.2.2.2.2.2.2.2.2.1)
                    have HS32_ := (hb.cell (World.block_lt_of_cell? _ _ (hHeld.2.2.2.2.2.2.2.2.2.2.2.2.2.2.2.2.2.2.2.2.2.2.2.2.2.2.2.2.2.2.2.2.1))).trans (hHeld.2.2.2.2.2.2.2.2.2.2.2.2.2.2.2.2.2.2.2.2.2.2.2.2.2.2.2.2.2.2.2.2.1)
                    have HS33_ := (hb.cell (World.block_lt_of_cell? _ _ (hHeld.2.2.2.2.2.2.2.2.2.2.2.2.2.2.2.2.2.2.2.2.2.2.2.2.2.2.2.2.2.2.2.2.2.1))).trans (hHeld.2.2.2.2.2.2.2.2.2.2.2.2.2.2.2.2.2.2.2.2.2.2.2.2.2.2.2.2.2.2.2.2.2.1)
                    have HS34_ := (hb.cell (World.block_lt_of_cell? _ _ (hHeld.2.2.2.2.2.2.2.2.2.2.2.2.2.2.2.2.2.2.2.2.2.2.2.2.2.2.2.2.2.2.2.2.2.2.1))).trans (hHeld.2.2.2.2.2.2.2.2.2.2.2.2.2.2.2.2.2.2.2.2.2.2.2.2.2.2.2.2.2.2.2.2.2.2.1)
                    have HS35_ := (hb.cell (World.block_lt_of_cell? _ _ (hHeld.2.2.2.2.2.2.2.2.2.2.2.2.2.2.2.2.2.2.2.2.2.2.2.2.2.2.2.2.2.2.2.2.2.2.2))).trans (hHeld.2.2.2.2.2.2.2.2.2.2.2.2.2.2.2.2.2.2.2.2.2.2.2.2.2.2.2.2.2.2.2.2.2.2.2)
                    refine ⟨_, rfl, ?_⟩
                    have n0_ := Aside0.mk (Kd.R_below (by (with_reducible repeat (first | apply Kd.R_alloc | apply Kd.R_drewN | apply Kd.R_drew)); exact HO_10.out) hb)
                    have n1_ := Aside0.mk (below_step (by with_reducible repeat (first | exact HB.out | apply below_alloc | apply pw_below_drewN | apply below_drew1)) hb)
                    clear HO_10
                    clear HB
                    have HO_10 := n0_
                    have HB := n1_
                    clear n0_ n1_
                    (try clear hb)
                    (try clear hb2)
                    (try clear hk)
                    (try clear hi)
                    refine hK.out _ _ ⟨HS0_, HS1_, HS2_, HS3_, HS4_, HS5_, HS6_, HS7_, HS8_, HS9_, HS10_, HS11_, HS12_, HS13_, HS14_, HS15_, HS16_, HS17_, HS18_, HS19_, HS20_, HS21_, HS22_, HS23_, HS24_, HS25_, HS26_, HS27_, HS28_, HS29_, HS30_, HS31_, HS32_, HS33_, HS34_, HS35_⟩ (fun hHeld => ?_)
                    clear hK K
                    refine norm_ (a' := ?_) ?_ ?_
                    rotate_left
                    ·show Act.put _ (some 91) _ = _
                     simp only [Act.put, List.setIfInBounds_toArray, List.set_cons_zero, List.set_cons_succ, i64_w, i32_w, Go.IntKind.wrap_u32]
                     rfl
                    refine pure_ (i := 31) (N := some 92) (v := ?_) (a' := ?_) #[true, true, true, true, true, true, true, true, true, true, true, true, true, true, true, true, true, true, true, true, true, true, true, true, true, true, true, true, true, true, true, true, false, false] rfl rfl (any_of HT_.out (by kernel_rfl)) (fun _ _ _ h => h) (Or.inl ⟨by rfl, ?_⟩) ?_ ?_
                    rotate_left
                    ·intro w'
                     go_simp
                     with_reducible rfl
                    rotate_left
                    ·simp only [Act.put, List.setIfInBounds_toArray, List.set_cons_zero, List.set_cons_succ, i64_w, i32_w, Go.IntKind.wrap_u32]
                     rfl
                    refine pure_ (i := 32) (N := some 93) (v := ?_) (a' := ?_) #[true, true, true, true, true, true, true, true, true, true, true, true, true, true, true, true, true, true, true, true, true, true, true, true, true, true, true, true, true, true, true, true, true, false] rfl rfl (any_of HT_.out (by kernel_rfl)) (fun _ _ _ h => h) (Or.inl ⟨by rfl, ?_⟩) ?_ ?_
                    rotate_left
                    ·intro w'
                     go_simp
                     with_reducible rfl
                    rotate_left
                    ·simp only [Act.put, List.setIfInBounds_toArray, List.set_cons_zero, List.set_cons_succ, i64_w, i32_w, Go.IntKind.wrap_u32]
                     rfl
                    refine pure_ (i := 33) (N := some 94) (v := ?_) (a' := ?_) #[true, true, true, true, true, true, true, true, true, true, true, true, true, true, true, true, true, true, true, true, true, true, true, true, true, true, true, true, true, true, true, true, true, true] rfl rfl (any_of HT_.out (by kernel_rfl)) (fun _ _ _ h => h) (Or.inl ⟨by rfl, ?_⟩) ?_ ?_
                    rotate_left
                    ·intro w'
                     go_simp
                     with_reducible rfl
                    rotate_left
                    ·simp only [Act.put, List.setIfInBounds_toArray, List.set_cons_zero, List.set_cons_succ, i64_w, i32_w, Go.IntKind.wrap_u32]
                     rfl
                    refine done_ (done_of HT_.out (by kernel_rfl)) ?_
                    try go_wp2
                    go_meet
                    case rel => exact ⟨_, (!t288), (by first | rfl | (simp; done) | (simp [*]; done)), H', ⟨by have := HJ5.out; have := HK2.out; have := HK3.out; have := HJ18.out; first | omega | exact Nat.le_refl _⟩, ⟨by (with_reducible repeat (first | apply Kd.R_alloc | apply Kd.R_drewN | apply Kd.R_drew)); exact HO_10.out⟩, ⟨by repeat (first | (with_reducible first | exact HB.out | apply below_alloc | apply pw_below_drewN | apply below_drew1) | exact HB.out)⟩⟩
                   ·rw [if_neg c37] at H
                    have c37b0 : (((rd_T45 t274 x13_2).f0) == ((rd_T45 t274 x14_3).f0)) = false := beq_eq_false_iff_ne.mpr c37
                    have c37b1 : (((rd_T45 t274 x13_2).f0) != ((rd_T45 t274 x14_3).f0)) = true := bne_iff_ne.mpr c37
                    have H' := Aside0.mk H
                    clear H
                    try go_wp2
                    have n0_ := Aside0.mk (Kd.R_drew HO_10.out)
                    have n1_ := Aside0.mk (below_drew1 HB.out)
                    clear HO_10
                    clear HB
                    have HO_10 := n0_
                    have HB := n1_
                    clear n0_ n1_
                    have p281 : 0 ≤ (x14_3 : Int) := of_decide_eq_true (by first | (with_reducible assumption) | assumption)
                    have q281 : x14_3 < (t274.length : Int) := of_decide_eq_true (by first | (with_reducible assumption) | assumption)
                    obtain ⟨ad281, e281, hx281_0, hx281_1, hx281_2, hx281_3, hx281_4, hx281_5⟩ := at_T45 (Kd.R_reads' HO_10.out).2.2 x14_3 p281 q281
                    cases e281
                    replace p281 := eq_true p281
                    replace q281 := eq_true q281
                    have p282 : 0 ≤ (x13_2 : Int) := of_decide_eq_true (by first | (with_reducible assumption) | assumption)
                    have q282 : x13_2 < (t274.length : Int) := of_decide_eq_true (by first | (with_reducible assumption) | assumption)
                    obtain ⟨ad282, e282, hx282_0, hx282_1, hx282_2, hx282_3, hx282_4, hx282_5⟩ := at_T45 (Kd.R_reads' HO_10.out).2.2 x13_2 p282 q282
                    obtain rfl : ad281 = ad282 := (by injection e282)
                    replace p282 := eq_true p282
                    replace q282 := eq_true q282
                    have p284 : 0 ≤ (x13_2 : Int) := of_decide_eq_true (by first | (with_reducible assumption) | assumption)
                    have q284 : x13_2 < (t274.length : Int) := of_decide_eq_true (by first | (with_reducible assumption) | assumption)
                    obtain ⟨ad284, e284, hx284_0, hx284_1, hx284_2, hx284_3, hx284_4, hx284_5⟩ := at_T45 (Kd.R_reads' HO_10.out).2.2 x13_2 p284 q284
                    obtain rfl : ad281 = ad284 := (by injection e284)
                    replace p284 := eq_true p284
                    replace q284 := eq_true q284
                    have p285 : 0 ≤ (x14_3 : Int) := of_decide_eq_true (by first | (with_reducible assumption) | assumption)
                    have q285 : x14_3 < (t274.length : Int) := of_decide_eq_true (by first | (with_reducible assumption) | assumption)
                    obtain ⟨ad285, e285, hx285_0, hx285_1, hx285_2, hx285_3, hx285_4, hx285_5⟩ := at_T45 (Kd.R_reads' HO_10.out).2.2 x14_3 p285 q285
                    obtain rfl : ad281 = ad285 := (by injection e285)
                    replace p285 := eq_true p285
                    replace q285 := eq_true q285
                    refine start_ (n := 34) (S := fun w' => w'.cell? (ad281.add ((x14_3).toNat * 6)) = some (.int .i64 ((rd_T45 t274 x14_3).f0)) ∧ w'.cell? ⟨(ad281.add ((x14_3).toNat * 6)).block, (ad281.add ((x14_3).toNat * 6)).off + 1, none⟩ = some (.bool ((rd_T45 t274 x14_3).f1)) ∧ w'.cell? ⟨(ad281.add ((x14_3).toNat * 6)).block, (ad281.add ((x14_3).toNat * 6)).off + 2, none⟩ = some (.int .u64 ((rd_T45 t274 x14_3).f2)) ∧ w'.cell? ⟨(ad281.add ((x14_3).toNat * 6)).block, (ad281.add ((x14_3).toNat * 6)).off + 3, none⟩ = some (.int .i64 ((rd_T45 t274 x14_3).f3)) ∧ w'.cell? ⟨(ad281.add ((x14_3).toNat * 6)).block, (ad281.add ((x14_3).toNat * 6)).off + 4, none⟩ = some (.int .i64 ((rd_T45 t274 x14_3).f4)) ∧ w'.cell? ⟨(ad281.add ((x14_3).toNat * 6)).block, (ad281.add ((x14_3).toNat * 6)).off + 5, none⟩ = some (.int .i64 ((rd_T45 t274 x14_3).f5)) ∧ w'.cell? (ad281.add ((x13_2).toNat * 6)) = some (.int .i64 ((rd_T45 t274 x13_2).f0)) ∧ w'.cell? ⟨(ad281.add ((x13_2).toNat * 6)).block, (ad281.add ((x13_2).toNat * 6)).off + 1, none⟩ = some (.bool ((rd_T45 t274 x13_2).f1)) ∧ w'.cell? ⟨(ad281.add ((x13_2).toNat * 6)).block, (ad281.add ((x13_2).toNat * 6)).off + 2, none⟩ = some (.int .u64 ((rd_T45 t274 x13_2).f2)) ∧ w'.cell? ⟨(ad281.add ((x13_2).toNat * 6)).block, (ad281.add ((x13_2).toNat * 6)).off + 3, none⟩ = some (.int .i64 ((rd_T45 t274 x13_2).f3)) ∧ w'.cell? ⟨(ad281.add ((x13_2).toNat * 6)).block, (ad281.add ((x13_2).toNat * 6)).off + 4, none⟩ = some (.int .i64 ((rd_T45 t274 x13_2).f4)) ∧ w'.cell? ⟨(ad281.add ((x13_2).toNat * 6)).block, (ad281.add ((x13_2).toNat * 6)).off + 5, none⟩ = some (.int .i64 ((rd_T45 t274 x13_2).f5)) ∧ w'.cell? (ad281.add ((x13_2).toNat * 6)) = some (.int .i64 ((rd_T45 t274 x13_2).f0)) ∧ w'.cell? ⟨(ad281.add ((x13_2).toNat * 6)).block, (ad281.add ((x13_2).toNat * 6)).off + 1, none⟩ = some (.bool ((rd_T45 t274 x13_2).f1)) ∧ w'.cell? ⟨(ad281.add ((x13_2).toNat * 6)).block, (ad281.add ((x13_2).toNat * 6)).off + 2, none⟩ = some (.int .u64 ((rd_T45 t274 x13_2).f2)) ∧ w'.cell? ⟨(ad281.add ((x13_2).toNat * 6)).block, (ad281.add ((x13_2).toNat * 6)).off + 3, none⟩ = some (.int .i64 ((rd_T45 t274 x13_2).f3)) ∧ w'.cell? ⟨(ad281.add ((x13_2).toNat * 6)).block, (ad281.add ((x13_2).toNat * 6)).off + 4, none⟩ = some (.int .i64 ((rd_T45 t274 x13_2).f4)) ∧ w'.cell? ⟨(ad281.add ((x13_2).toNat * 6)).block, (ad281.add ((x13_2).toNat * 6)).off + 5, none⟩ = some (.int .i64 ((rd_T45 t274 x13_2).f5)) ∧ w'.cell? (ad281.add ((x14_3).toNat * 6)) = some (.int .i64 ((rd_T45 t274 x14_3).f0)) ∧ w'.cell? ⟨(ad281.add ((x14_3).toNat * 6)).block, (ad281.add ((x14_3).toNat * 6)).off + 1, none⟩ = some (.bool ((rd_T45 t274 x14_3).f1)) ∧ w'.cell? ⟨(ad281.add ((x14_3).toNat * 6)).block, (ad281.add ((x14_3).toNat * 6)).off + 2, none⟩ = some (.int .u64 ((rd_T45 t274 x14_3).f2)) ∧ w'.cell? ⟨(ad281.add ((x14_3).toNat * 6)).block, (ad281.add ((x14_3).toNat * 6)).off + 3, none⟩ = some (.int .i64 ((rd_T45 t274 x14_3).f3)) ∧ w'.cell? ⟨(ad281.add ((x14_3).toNat * 6)).block, (ad281.add ((x14_3).toNat * 6)).off + 4, none⟩ = some (.int .i64 ((rd_T45 t274 x14_3).f4)) ∧ w'.cell? ⟨(ad281.add ((x14_3).toNat * 6)).block, (ad281.add ((x14_3).toNat * 6)).off + 5, none⟩ = some (.int .i64 ((rd_T45 t274 x14_3).f5))) (ds := []) #[false, false, false, false, false, false, false, false, false, false, false, false, false, false, false, false, false, false, false, false, false, false, false, false, false, false, false, false, false, false, false, false, false, false] (by kernel_rfl) rfl rfl ⟨hx281_0, hx281_1, hx281_2, hx281_3, hx281_4, hx281_5, hx282_0, hx282_1, hx282_2, hx282_3, hx282_4, hx282_5, hx284_0, hx284_1, hx284_2, hx284_3, hx284_4, hx284_5, hx285_0, hx285_1, hx285_2, hx285_3, hx285_4, hx285_5⟩ (fun hHeld => ?_); refine with_tabW hatstandlaw14_HistoryOrder.tab15 hatstandlaw14_HistoryOrder.bits15 (fun HT_ HW_ => ?_)
                    generalize wc.drew = w42 at HO_10 HB hx281_0 hx281_1 hx281_2 hx281_3 hx281_4 hx281_5 hx282_0 hx282_1 hx282_2 hx282_3 hx282_4 hx282_5 hx284_0 hx284_1 hx284_2 hx284_3 hx284_4 hx284_5 hx285_0 hx285_1 hx285_2 hx285_3 hx285_4 hx285_5 hHeld ⊢
                    refine pure_ (i := 0) (N := some 61) (v := ?_) (a' := ?_) #[true, false, false, false, false, false, false, false, false, false, false, false, false, false, false, false, false, false, false, false, false, false, false, false, false, false, false, false, false, false, false, false, false, false] rfl rfl (any_of HT_.out (by kernel_rfl)) (fun _ _ _ h => h) (Or.inl ⟨by rfl, ?_⟩) ?_ ?_
                    rotate_left
                    ·intro w'
                     go_simp
                     with_reducible rfl
                    rotate_left
                    ·simp only [Act.put, List.setIfInBounds_toArray, List.set_cons_zero, List.set_cons_succ, i64_w, i32_w, Go.IntKind.wrap_u32]
                     rfl
                    refine pure_ (i := 1) (N := some 62) (v := ?_) (a' := ?_) #[true, true, false, false, false, false, false, false, false, false, false, false, false, false, false, false, false, false, false, false, false, false, false, false, false, false, false, false, false, false, false, false, false, false] rfl rfl (any_of HT_.out (by kernel_rfl)) (fun _ _ _ h => h) (Or.inl ⟨by rfl, ?_⟩) ?_ ?_
                    rotate_left
                    ·intro w'
                     go_simp
                     with_reducible rfl
                    rotate_left
                    ·simp only [Act.put, List.setIfInBounds_toArray, List.set_cons_zero, List.set_cons_succ, i64_w, i32_w, Go.IntKind.wrap_u32]
                     rfl
                    refine pure_ (i := 2) (N := some 63) (v := ?_) (a' := ?_) #[true, true, true, false, false, false, false, false, false, false, false, false, false, false, false, false, false, false, false, false, false, false, false, false, false, false, false, false, false, false, false, false, false, false] rfl rfl (any_of HT_.out (by kernel_rfl)) (fun _ _ _ h => h) (Or.inl ⟨by rfl, ?_⟩) ?_ ?_
                    rotate_left
                    ·intro w'
                     go_simp
                     with_reducible rfl
                    rotate_left
                    ·simp only [Act.put, List.setIfInBounds_toArray, List.set_cons_zero, List.set_cons_succ, i64_w, i32_w, Go.IntKind.wrap_u32]
                     rfl
                    refine pure_ (i := 4) (N := some 65) (v := ?_) (a' := ?_) #[true, true, true, false, true, false, false, false, false, false, false, false, false, false, false, false, false, false, false, false, false, false, false, false, false, false, false, false, false, false, false, false, false, false] rfl rfl (any_of HT_.out (by kernel_rfl)) (fun _ _ _ h => h) (Or.inl ⟨by rfl, ?_⟩) ?_ ?_
                    rotate_left
                    ·intro w'
                     go_simp
                     with_reducible rfl
                    rotate_left
                    ·simp only [Act.put, List.setIfInBounds_toArray, List.set_cons_zero, List.set_cons_succ, i64_w, i32_w, Go.IntKind.wrap_u32]
                     rfl
                    refine pure_ (i := 5) (N := some 66) (v := ?_) (a' := ?_) #[true, true, true, false, true, true, false, false, false, false, false, false, false, false, false, false, false, false, false, false, false, false, false, false, false, false, false, false, false, false, false, false, false, false] rfl rfl (any_of HT_.out (by kernel_rfl)) (fun _ _ _ h => h) (Or.inl ⟨by rfl, ?_⟩) ?_ ?_
                    rotate_left
                    ·intro w'
                     go_simp
                     with_reducible rfl
                    rotate_left
                    ·simp only [Act.put, List.setIfInBounds_toArray, List.set_cons_zero, List.set_cons_succ, i64_w, i32_w, Go.IntKind.wrap_u32]
                     rfl
                    refine pure_ (i := 6) (N := some 67) (v := ?_) (a' := ?_) #[true, true, true, false, true, true, true, false, false, false, false, false, false, false, false, false, false, false, false, false, false, false, false, false, false, false, false, false, false, false, false, false, false, false] rfl rfl (any_of HT_.out (by kernel_rfl)) (fun _ _ _ h => h) (Or.inl ⟨by rfl, ?_⟩) ?_ ?_
                    rotate_left
                    ·intro w'
                     go_simp
                     with_reducible rfl
                    rotate_left
                    ·simp only [Act.put, List.setIfInBounds_toArray, List.set_cons_zero, List.set_cons_succ, i64_w, i32_w, Go.IntKind.wrap_u32]
                     rfl
                    refine take_ (i := 3) (N := some 64) (v := ?_) (a' := ?_) #[true, true, true, true, true, true, true, false, false, false, false, false, false, false, false, false, false, false, false, false, false, false, false, false, false, false, false, false, false, false, false, false, false, false] rfl rfl (take_ofW HT_.out HW_.out (by kernel_rfl)) (fun _ _ _ h => h) (Or.inl ⟨by rfl, ?_⟩) hHeld ?_ ?_
                    rotate_left
                    ·rintro w' ⟨s0, s1, s2, s3, s4, s5, s6, s7, s8, s9, s10, s11, s12, s13, s14, s15, s16, s17, s18, s19, s20, s21, s22, s23⟩
                     go_simp
                     with_reducible rfl
                    rotate_left
                    ·simp only [Act.put, List.setIfInBounds_toArray, List.set_cons_zero, List.set_cons_succ, i64_w, i32_w, Go.IntKind.wrap_u32]
                     rfl
                    refine take_ (i := 7) (N := some 68) (v := ?_) (a' := ?_) #[true, true, true, true, true, true, true, true, false, false, false, false, false, false, false, false, false, false, false, false, false, false, false, false, false, false, false, false, false, false, false, false, false, false] rfl rfl (take_ofW HT_.out HW_.out (by kernel_rfl)) (fun _ _ _ h => h) (Or.inl ⟨by rfl, ?_⟩) hHeld ?_ ?_
                    rotate_left
                    ·rintro w' ⟨s0, s1, s2, s3, s4, s5, s6, s7, s8, s9, s10, s11, s12, s13, s14, s15, s16, s17, s18, s19, s20, s21, s22, s23⟩
                     go_simp
                     with_reducible rfl
                    rotate_left
                    ·simp only [Act.put, List.setIfInBounds_toArray, List.set_cons_zero, List.set_cons_succ, i64_w, i32_w, Go.IntKind.wrap_u32]
                     rfl
                    refine one_ (i := 8) (N := some 69) #[true, true, true, true, true, true, true, true, true, false, false, false, false, false, false, false, false, false, false, false, false, false, false, false, false, false, false, false, false, false, false, false, false, false] rfl rfl (one_of HT_.out (by kernel_rfl)) (by decide) (fun K hK => ?_)
                    refine goes_ Try.func19 (by kernel_rfl) rfl #[.agg #[.int .i64 ((rd_T45 t274 x14_3).f0), .bool ((rd_T45 t274 x14_3).f1), .int .u64 ((rd_T45 t274 x14_3).f2), .int .i64 ((rd_T45 t274 x14_3).f3), .int .i64 ((rd_T45 t274 x14_3).f4), .int .i64 ((rd_T45 t274 x14_3).f5)], .agg #[.int .i64 ((rd_T45 t274 x13_2).f0), .bool ((rd_T45 t274 x13_2).f1), .int .u64 ((rd_T45 t274 x13_2).f2), .int .i64 ((rd_T45 t274 x13_2).f3), .int .i64 ((rd_T45 t274 x13_2).f4), .int .i64 ((rd_T45 t274 x13_2).f5)]] (by rfl) rfl rfl (by first | rfl | ((try simp only [List.map_toArray, List.map_cons, List.map_nil]); first | done | rfl)) ?_
                    with_reducible refine (history_Ahead.calls ((rd_T45 t274 x14_3).f0) ((rd_T45 t274 x14_3).f1) ((rd_T45 t274 x14_3).f2) ((rd_T45 t274 x14_3).f3) ((rd_T45 t274 x14_3).f4) ((rd_T45 t274 x14_3).f5) ((rd_T45 t274 x13_2).f0) ((rd_T45 t274 x13_2).f1) ((rd_T45 t274 x13_2).f2) ((rd_T45 t274 x13_2).f3) ((rd_T45 t274 x13_2).f4) ((rd_T45 t274 x13_2).f5) false _ A33.out).mono ?_
                    rintro e w43 ⟨rfl, hb⟩
                    have HS0_ := (hb.cell (World.block_lt_of_cell? _ _ (hHeld.1))).trans (hHeld.1)
                    have HS1_ := (hb.cell (World.block_lt_of_cell? _ _ (hHeld.2.1))).trans (hHeld.2.1)
                    have HS2_ := (hb.cell (World.block_lt_of_cell? _ _ (hHeld.2.2.1))).trans (hHeld.2.2.1)
                    have HS3_ := (hb.cell (World.block_lt_of_cell? _ _ (hHeld.2.2.2.1))).trans (hHeld.2.2.2.1)
                    have HS4_ := (hb.cell (World.block_lt_of_cell? _ _ (hHeld.2.2.2.2.1))).trans (hHeld.2.2.2.2.1)
                    have HS5_ := (hb.cell (World.block_lt_of_cell? _ _ (hHeld.2.2.2.2.2.1))).trans (hHeld.2.2.2.2.2.1)
                    have HS6_ := (hb.cell (World.block_lt_of_cell? _ _ (hHeld.2.2.2.2.2.2.1))).trans (hHeld.2.2.2.2.2.2.1)
                    have HS7_ := (hb.cell (World.block_lt_of_cell? _ _ (hHeld.2.2.2.2.2.2.2.1))).trans (hHeld.2.2.2.2.2.2.2.1)
                    have HS8_ := (hb.cell (World.block_lt_of_cell? _ _ (hHeld.2.2.2.2.2.2.2.2.1))).trans (hHeld.2.2.2.2.2.2.2.2.1)
                    have HS9_ := (hb.cell (World.block_lt_of_cell? _ _ (hHeld.2.2.2.2.2.2.2.2.2.1))).trans (hHeld.2.2.2.2.2.2.2.2.2.1)
                    have HS10_ := (hb.cell (World.block_lt_of_cell? _ _ (hHeld.2.2.2.2.2.2.2.2.2.2.1))).trans (hHeld.2.2.2.2.2.2.2.2.2.2.1)
                    have HS11_ := (hb.cell (World.block_lt_of_cell? _ _ (hHeld.2.2.2.2.2.2.2.2.2.2.2.1))).trans (hHeld.2.2.2.2.2.2.2.2.2.2.2.1)
                    have HS12_ := (hb.cell (World.block_lt_of_cell? _ _ (hHeld.2.2.2.2.2.2.2.2.2.2.2.2.1))).trans (hHeld.2.2.2.2.2.2.2.2.2.2.2.2.1)
                    have HS13_ := (hb.cell (World.block_lt_of_cell? _ _ (hHeld.2.2.2.2.2.2.2.2.2.2.2.2.2.1))).trans (hHeld.2.2.2.2.2.2.2.2.2.2.2.2.2.1)
                    have HS14_ := (hb.cell (World.block_lt_of_cell? _ _ (hHeld.2.2.2.2.2.2.2.2.2.2.2.2.2.2.1))).trans (hHeld.2.2.2.2.2.2.2.2.2.2.2.2.2.2.1)
                    have HS15_ := (hb.cell (World.block_lt_of_cell? _ _ (hHeld.2.2.2.2.2.2.2.2.2.2.2.2.2.2.2.1))).trans (hHeld.2.2.2.2.2.2.2.2.2.2.2.2.2.2.2.1)
                    have HS16_ := (hb.cell (World.block_lt_of_cell? _ _ (hHeld.2.2.2.2.2.2.2.2.2.2.2.2.2.2.2.2.1))).trans (hHeld.2.2.2.2.2.2.2.2.2.2.2.2.2.2.2.2.1)
                    have HS17_ := (hb.cell (World.block_lt_of_cell? _ _ (hHeld.2.2.2.2.2.2.2.2.2.2.2.2.2.2.2.2.2.1))).trans (hHeld.2.2.2.2.2.2.2.2.2.2.2.2.2.2.2.2.2.1)
                    have HS18_ := (hb.cell (World.block_lt_of_cell? _ _ (hHeld.2.2.2.2.2.2.2.2.2.2.2.2.2.2.2.2.2.2.1))).trans (hHeld.2.2.2.2.2.2.2.2.2.2.2.2.2.2.2.2.2.2.1)
                    have HS19_ := (hb.cell (World.block_lt_of_cell? _ _ (hHeld.2.2.2.2.2.2.2.2.2.2.2.2.2.2.2.2.2.2.2.1))).trans (hHeld.2.2.2.2.2.2.2.2.2.2.2.2.2.2.2.2.2.2.2.1)
                    have HS20_ := (hb.cell (World.block_lt_of_cell? _ _ (hHeld.2.2.2.2.2.2.2.2.2.2.2.2.2.2.2.2.2.2.2.2.1))).trans (hHeld.2.2.2.2.2.2.2.2.2.2.2.2.2.2.2.2.2.2.2.2.1)
                    have HS21_ := (hb.cell (World.block_lt_of_cell? _ _ (hHeld.2.2.2.2.2.2.2.2.2.2.2.2.2.2.2.2.2.2.2.2.2.1))).trans (hHeld.2.2.2.2.2.2.2.2.2.2.2.2.2.2.2.2.2.2.2.2.2.1)
                    have HS22_ := (hb.cell (World.block_lt_of_cell? _ _ (hHeld.2.2.2.2.2.2.2.2.2.2.2.2.2.2.2.2.2.2.2.2.2.2.1))).trans (hHeld.2.2.2.2.2.2.2.2.2.2.2.2.2.2.2.2.2.2.2.2.2.2.1)
                    have HS23_ := (hb.cell (World.block_lt_of_cell? _ _ (hHeld.2.2.2.2.2.2.2.2.2.2.2.2.2.2.2.2.2.2.2.2.2.2.2))).trans (hHeld.2.2.2.2.2.2.2.2.2.2.2.2.2.2.2.2.2.2.2.2.2.2.2)
                    refine ⟨_, rfl, ?_⟩
                    have n0_ := Aside0.mk (Kd.R_below (by (with_reducible repeat (first | apply Kd.R_alloc | apply Kd.R_drewN | apply Kd.R_drew)); exact HO_10.out) hb)
                    have n1_ := Aside0.mk (below_step (by with_reducible repeat (first | exact HB.out | apply below_alloc | apply pw_below_drewN | apply below_drew1)) hb)
                    clear HO_10
                    clear HB
                    have HO_10 := n0_
                    have HB := n1_
                    clear n0_ n1_
                    (try clear hb)
                    (try clear hb2)
                    (try clear hk)
                    (try clear hi)
                    refine hK.out _ _ ⟨HS0_, HS1_, HS2_, HS3_, HS4_, HS5_, HS6_, HS7_, HS8_, HS9_, HS10_, HS11_, HS12_, HS13_, HS14_, HS15_, HS16_, HS17_, HS18_, HS19_, HS20_, HS21_, HS22_, HS23_⟩ (fun hHeld => ?_)
                    clear hK K
                    refine norm_ (a' := ?_) ?_ ?_
                    rotate_left
                    ·show Act.put _ (some 69) _ = _
                     simp only [Act.put, List.setIfInBounds_toArray, List.set_cons_zero, List.set_cons_succ, i64_w, i32_w, Go.IntKind.wrap_u32]
                     rfl
                    refine pure_ (i := 9) (N := some 70) (v := ?_) (a' := ?_) #[true, true, true, true, true, true, true, true, true, true, false, false, false, false, false, false, false, false, false, false, false, false, false, false, false, false, false, false, false, false, false, false, false, false] rfl rfl (any_of HT_.out (by kernel_rfl)) (fun _ _ _ h => h) (Or.inl ⟨by rfl, ?_⟩) ?_ ?_
                    rotate_left
                    ·intro w'
                     go_simp
                     with_reducible rfl
                    rotate_left
                    ·simp only [Act.put, List.setIfInBounds_toArray, List.set_cons_zero, List.set_cons_succ, i64_w, i32_w, Go.IntKind.wrap_u32]
                     rfl
                    refine pure_ (i := 10) (N := some 71) (v := ?_) (a' := ?_) #[true, true, true, true, true, true, true, true, true, true, true, false, false, false, false, false, false, false, false, false, false, false, false, false, false, false, false, false, false, false, false, false, false, false] rfl rfl (any_of HT_.out (by kernel_rfl)) (fun _ _ _ h => h) (Or.inl ⟨by rfl, ?_⟩) ?_ ?_
                    rotate_left
                    ·intro w'
                     go_simp
                     with_reducible rfl
                    rotate_left
                    ·simp only [Act.put, List.setIfInBounds_toArray, List.set_cons_zero, List.set_cons_succ, i64_w, i32_w, Go.IntKind.wrap_u32]
                     rfl
                    refine pure_ (i := 11) (N := some 72) (v := ?_) (a' := ?_) #[true, true, true, true, true, true, true, true, true, true, true, true, false, false, false, false, false, false, false, false, false, false, false, false, false, false, false, false, false, false, false, false, false, false] rfl rfl (any_of HT_.out (by kernel_rfl)) (fun _ _ _ h => h) (Or.inl ⟨by rfl, ?_⟩) ?_ ?_
                    rotate_left
                    ·intro w'
                     go_simp
                     with_reducible rfl
                    rotate_left
                    ·simp only [Act.put, List.setIfInBounds_toArray, List.set_cons_zero, List.set_cons_succ, i64_w, i32_w, Go.IntKind.wrap_u32]
                     rfl
                    refine pure_ (i := 12) (N := some 73) (v := ?_) (a' := ?_) #[true, true, true, true, true, true, true, true, true, true, true, true, true, false, false, false, false, false, false, false, false, false, false, false, false, false, false, false, false, false, false, false, false, false] rfl rfl (any_of HT_.out (by kernel_rfl)) (fun _ _ _ h => h) (Or.inl ⟨by rfl, ?_⟩) ?_ ?_
                    rotate_left
                    ·intro w'
                     go_simp
                     with_reducible rfl
                    rotate_left
                    ·simp only [Act.put, List.setIfInBounds_toArray, List.set_cons_zero, List.set_cons_succ, i64_w, i32_w, Go.IntKind.wrap_u32]
                     rfl
                    refine pure_ (i := 13) (N := some 74) (v := ?_) (a' := ?_) #[true, true, true, true, true, true, true, true, true, true, true, true, true, true, false, false, false, false, false, false, false, false, false, false, false, false, false, false, false, false, false, false, false, false] rfl rfl (any_of HT_.out (by kernel_rfl)) (fun _ _ _ h => h) (Or.inl ⟨by rfl, ?_⟩) ?_ ?_
                    rotate_left
                    ·intro w'
                     go_simp
                     with_reducible rfl
                    rotate_left
                    ·simp only [Act.put, List.setIfInBounds_toArray, List.set_cons_zero, List.set_cons_succ, i64_w, i32_w, Go.IntKind.wrap_u32]
                     rfl
                    refine pure_ (i := 15) (N := some 76) (v := ?_) (a' := ?_) #[true, true, true, true, true, true, true, true, true, true, true, true, true, true, false, true, false, false, false, false, false, false, false, false, false, false, false, false, false, false, false, false, false, false] rfl rfl (any_of HT_.out (by kernel_rfl)) (fun _ _ _ h => h) (Or.inl ⟨by rfl, ?_⟩) ?_ ?_
                    rotate_left
                    ·intro w'
                     go_simp
                     with_reducible rfl
                    rotate_left
                    ·simp only [Act.put, List.setIfInBounds_toArray, List.set_cons_zero, List.set_cons_succ, i64_w, i32_w, Go.IntKind.wrap_u32]
                     rfl
                    refine pure_ (i := 16) (N := some 77) (v := ?_) (a' := ?_) #[true, true, true, true, true, true, true, true, true, true, true, true, true, true, false, true, true, false, false, false, false, false, false, false, false, false, false, false, false, false, false, false, false, false] rfl rfl (any_of HT_.out (by kernel_rfl)) (fun _ _ _ h => h) (Or.inl ⟨by rfl, ?_⟩) ?_ ?_
                    rotate_left
                    ·intro w'
                     go_simp
                     with_reducible rfl
                    rotate_left
                    ·simp only [Act.put, List.setIfInBounds_toArray, List.set_cons_zero, List.set_cons_succ, i64_w, i32_w, Go.IntKind.wrap_u32]
                     rfl
                    refine pure_ (i := 17) (N := some 78) (v := ?_) (a' := ?_) #[true, true, true, true, true, true, true, true, true, true, true, true, true, true, false, true, true, true, false, false, false, false, false, false, false, false, false, false, false, false, false, false, false, false] rfl rfl (any_of HT_.out (by kernel_rfl)) (fun _ _ _ h => h) (Or.inl ⟨by rfl, ?_⟩) ?_ ?_
                    rotate_left
                    ·intro w'
                     go_simp
                     with_reducible rfl
                    rotate_left
                    ·simp only [Act.put, List.setIfInBounds_toArray, List.set_cons_zero, List.set_cons_succ, i64_w, i32_w, Go.IntKind.wrap_u32]
                     rfl
                    refine pure_ (i := 18) (N := some 79) (v := ?_) (a' := ?_) #[true, true, true, true, true, true, true, true, true, true, true, true, true, true, false, true, true, true, true, false, false, false, false, false, false, false, false, false, false, false, false, false, false, false] rfl rfl (any_of HT_.out (by kernel_rfl)) (fun _ _ _ h => h) (Or.inl ⟨by rfl, ?_⟩) ?_ ?_
                    rotate_left
                    ·intro w'
                     go_simp
                     with_reducible rfl
                    rotate_left
                    ·simp only [Act.put, List.setIfInBounds_toArray, List.set_cons_zero, List.set_cons_succ, i64_w, i32_w, Go.IntKind.wrap_u32]
                     rfl
                    refine take_ (i := 14) (N := some 75) (v := ?_) (a' := ?_) #[true, true, true, true, true, true, true, true, true, true, true, true, true, true, true, true, true, true, true, false, false, false, false, false, false, false, false, false, false, false, false, false, false, false] rfl rfl (take_ofW HT_.out HW_.out (by kernel_rfl)) (fun _ _ _ h => h) (Or.inl ⟨by rfl, ?_⟩) hHeld ?_ ?_
                    rotate_left
                    ·rintro w' ⟨s0, s1, s2, s3, s4, s5, s6, s7, s8, s9, s10, s11, s12, s13, s14, s15, s16, s17, s18, s19, s20, s21, s22, s23⟩
                     go_simp
                     with_reducible rfl
                    rotate_left
                    ·simp only [Act.put, List.setIfInBounds_toArray, List.set_cons_zero, List.set_cons_succ, i64_w, i32_w, Go.IntKind.wrap_u32]
                     rfl
                    refine take_ (i := 19) (N := some 80) (v := ?_) (a' := ?_) #[true, true, true, true, true, true, true, true, true, true, true, true, true, true, true, true, true, true, true, true, false, false, false, false, false, false, false, false, false, false, false, false, false, false] rfl rfl (take_ofW HT_.out HW_.out (by kernel_rfl)) (fun _ _ _ h => h) (Or.inl ⟨by rfl, ?_⟩) hHeld ?_ ?_
                    rotate_left
                    ·rintro w' ⟨s0, s1, s2, s3, s4, s5, s6, s7, s8, s9, s10, s11, s12, s13, s14, s15, s16, s17, s18, s19, s20, s21, s22, s23⟩
                     go_simp
                     with_reducible rfl
                    rotate_left
                    ·simp only [Act.put, List.setIfInBounds_toArray, List.set_cons_zero, List.set_cons_succ, i64_w, i32_w, Go.IntKind.wrap_u32]
                     rfl
                    refine pure_ (i := 20) (N := some 81) (v := ?_) (a' := ?_) #[true, true, true, true, true, true, true, true, true, true, true, true, true, true, true, true, true, true, true, true, true, false, false, false, false, false, false, false, false, false, false, false, false, false] rfl rfl (any_of HT_.out (by kernel_rfl)) (fun _ _ _ h => h) (Or.inl ⟨by rfl, ?_⟩) ?_ ?_
                    rotate_left
                    ·intro w'
                     go_simp
                     with_reducible rfl
                    rotate_left
                    ·simp only [Act.put, List.setIfInBounds_toArray, List.set_cons_zero, List.set_cons_succ, i64_w, i32_w, Go.IntKind.wrap_u32]
                     rfl
                    refine pure_ (i := 21) (N := some 82) (v := ?_) (a' := ?_) #[true, true, true, true, true, true, true, true, true, true, true, true, true, true, true, true, true, true, true, true, true, true, false, false, false, false, false, false, false, false, false, false, false, false] rfl rfl (any_of HT_.out (by kernel_rfl)) (fun _ _ _ h => h) (Or.inl ⟨by rfl, ?_⟩) ?_ ?_
                    rotate_left
                    ·intro w'
                     go_simp
                     with_reducible rfl
                    rotate_left
                    ·simp only [Act.put, List.setIfInBounds_toArray, List.set_cons_zero, List.set_cons_succ, i64_w, i32_w, Go.IntKind.wrap_u32]
                     rfl
                    refine pure_ (i := 22) (N := some 83) (v := undef) (a' := ?_) #[true, true, true, true, true, true, true, true, true, true, true, true, true, true, true, true, true, true, true, true, true, true, true, false, false, false, false, false, false, false, false, false, false, false] rfl rfl (any_of HT_.out (by kernel_rfl)) (fun _ _ _ h => h) (Or.inr ⟨by rfl, rfl⟩) ?_ ?_
                    rotate_left
                    ·simp only [Act.put, List.setIfInBounds_toArray, List.set_cons_zero, List.set_cons_succ, i64_w, i32_w, Go.IntKind.wrap_u32]
                     rfl
                    refine pure_ (i := 23) (N := some 84) (v := undef) (a' := ?_) #[true, true, true, true, true, true, true, true, true, true, true, true, true, true, true, true, true, true, true, true, true, true, true, true, false, false, false, false, false, false, false, false, false, false] rfl rfl (any_of HT_.out (by kernel_rfl)) (fun _ _ _ h => h) (Or.inr ⟨by rfl, rfl⟩) ?_ ?_
                    rotate_left
                    ·simp only [Act.put, List.setIfInBounds_toArray, List.set_cons_zero, List.set_cons_succ, i64_w, i32_w, Go.IntKind.wrap_u32]
                     rfl
                    refine pure_ (i := 24) (N := some 85) (v := undef) (a' := ?_) #[true, true, true, true, true, true, true, true, true, true, true, true, true, true, true, true, true, true, true, true, true, true, true, true, true, false, false, false, false, false, false, false, false, false] rfl rfl (any_of HT_.out (by kernel_rfl)) (fun _ _ _ h => h) (Or.inr ⟨by rfl, rfl⟩) ?_ ?_
                    rotate_left
                    ·simp only [Act.put, List.setIfInBounds_toArray, List.set_cons_zero, List.set_cons_succ, i64_w, i32_w, Go.IntKind.wrap_u32]
                     rfl
                    refine pure_ (i := 25) (N := some 86) (v := undef) (a' := ?_) #[true, true, true, true, true, true, true, true, true, true, true, true, true, true, true, true, true, true, true, true, true, true, true, true, true, true, false, false, false, false, false, false, false, false] rfl rfl (any_of HT_.out (by kernel_rfl)) (fun _ _ _ h => h) (Or.inr ⟨by rfl, rfl⟩) ?_ ?_
                    rotate_left
                    ·simp only [Act.put, List.setIfInBounds_toArray, List.set_cons_zero, List.set_cons_succ, i64_w, i32_w, Go.IntKind.wrap_u32]
                     rfl
                    refine pure_ (i := 26) (N := some 87) (v := undef) (a' := ?_) #[true, true, true, true, true, true, true, true, true, true, true, true, true, true, true, true, true, true, true, true, true, true, true, true, true, true, true, false, false, false, false, false, false, false] rfl rfl (any_of HT_.out (by kernel_rfl)) (fun _ _ _ h => h) (Or.inr ⟨by rfl, rfl⟩) ?_ ?_
                    rotate_left
                    ·simp only [Act.put, List.setIfInBounds_toArray, List.set_cons_zero, List.set_cons_succ, i64_w, i32_w, Go.IntKind.wrap_u32]
                     rfl
                    refine pure_ (i := 27) (N := some 88) (v := undef) (a' := ?_) #[true, true, true, true, true, true, true, true, true, true, true, true, true, true, true, true, true, true, true, true, true, true, true, true, true, true, true, true, false, false, false, false, false, false] rfl rfl (any_of HT_.out (by kernel_rfl)) (fun _ _ _ h => h) (Or.inr ⟨by rfl, rfl⟩) ?_ ?_
                    rotate_left
                    ·simp only [Act.put, List.setIfInBounds_toArray, List.set_cons_zero, List.set_cons_succ, i64_w, i32_w, Go.IntKind.wrap_u32]
                     rfl
                    refine pure_ (i := 28) (N := some 89) (v := undef) (a' := ?_) #[true, true, true, true, true, true, true, true, true, true, true, true, true, true, true, true, true, true, true, true, true, true, true, true, true, true, true, true, true, false, false, false, false, false] rfl rfl (any_of HT_.out (by kernel_rfl)) (fun _ _ _ h => h) (Or.inr ⟨by rfl, rfl⟩) ?_ ?_
                    rotate_left
                    ·simp only [Act.put, List.setIfInBounds_toArray, List.set_cons_zero, List.set_cons_succ, i64_w, i32_w, Go.IntKind.wrap_u32]
                     rfl
                    refine pure_ (i := 29) (N := some 90) (v := undef) (a' := ?_) #[true, true, true, true, true, true, true, true, true, true, true, true, true, true, true, true, true, true, true, true, true, true, true, true, true, true, true, true, true, true, false, false, false, false] rfl rfl (any_of HT_.out (by kernel_rfl)) (fun _ _ _ h => h) (Or.inr ⟨by rfl, rfl⟩) ?_ ?_
                    rotate_left
                    ·simp only [Act.put, List.setIfInBounds_toArray, List.set_cons_zero, List.set_cons_succ, i64_w, i32_w, Go.IntKind.wrap_u32]
                     rfl
                    refine pure_ (i := 30) (N := some 91) (v := undef) (a' := ?_) #[true, true, true, true, true, true, true, true, true, true, true, true, true, true, true, true, true, true, true, true, true, true, true, true, true, true, true, true, true, true, true, false, false, false] rfl rfl (any_of HT_.out (by kernel_rfl)) (fun _ _ _ h => h) (Or.inr ⟨by rfl, rfl⟩) ?_ ?_
                    rotate_left
                    ·simp only [Act.put, List.setIfInBounds_toArray, List.set_cons_zero, List.set_cons_succ, i64_w, i32_w, Go.IntKind.wrap_u32]
                     rfl
                    refine pure_ (i := 31) (N := some 92) (v := undef) (a' := ?_) #[true, true, true, true, true, true, true, true, true, true, true, true, true, true, true, true, true, true, true, true, true, true, true, true, true, true, true, true, true, true, true, true, false, false] rfl rfl (any_of HT_.out (by kernel_rfl)) (fun _ _ _ h => h) (Or.inr ⟨by rfl, rfl⟩) ?_ ?_
                    rotate_left
                    ·simp only [Act.put, List.setIfInBounds_toArray, List.set_cons_zero, List.set_cons_succ, i64_w, i32_w, Go.IntKind.wrap_u32]
                     rfl
                    refine pure_ (i := 32) (N := some 93) (v := ?_) (a' := ?_) #[true, true, true, true, true, true, true, true, true, true, true, true, true, true, true, true, true, true, true, true, true, true, true, true, true, true, true, true, true, true, true, true, true, false] rfl rfl (any_of HT_.out (by kernel_rfl)) (fun _ _ _ h => h) (Or.inl ⟨by rfl, ?_⟩) ?_ ?_
                    rotate_left
                    ·intro w'
                     go_simp
                     with_reducible rfl
                    rotate_left
                    ·simp only [Act.put, List.setIfInBounds_toArray, List.set_cons_zero, List.set_cons_succ, i64_w, i32_w, Go.IntKind.wrap_u32]
                     rfl
                    refine pure_ (i := 33) (N := some 94) (v := ?_) (a' := ?_) #[true, true, true, true, true, true, true, true, true, true, true, true, true, true, true, true, true, true, true, true, true, true, true, true, true, true, true, true, true, true, true, true, true, true] rfl rfl (any_of HT_.out (by kernel_rfl)) (fun _ _ _ h => h) (Or.inl ⟨by rfl, ?_⟩) ?_ ?_
                    rotate_left
                    ·intro w'
                     go_simp
                     with_reducible rfl
                    rotate_left
                    ·simp only [Act.put, List.setIfInBounds_toArray, List.set_cons_zero, List.set_cons_succ, i64_w, i32_w, Go.IntKind.wrap_u32]
                     rfl
                    refine done_ (done_of HT_.out (by kernel_rfl)) ?_
                    try go_wp2
                    go_meet
                    case rel => exact ⟨_, (false), (by first | rfl | (simp; done) | (simp [*]; done)), H', ⟨by have := HJ5.out; have := HK2.out; have := HK3.out; have := HJ18.out; first | omega | exact Nat.le_refl _⟩, ⟨by (with_reducible repeat (first | apply Kd.R_alloc | apply Kd.R_drewN | apply Kd.R_drew)); exact HO_10.out⟩, ⟨by repeat (first | (with_reducible first | exact HB.out | apply below_alloc | apply pw_below_drewN | apply below_drew1) | exact HB.out)⟩⟩
                 ·rw [if_neg c32] at H
                  exact absurd H (by simp)
                ·rw [if_neg c31] at H
                 exact absurd H (by simp)
               ·rw [if_neg c30] at H
                exact absurd H (by simp)
              ·rw [if_neg c29] at H
               exact absurd H (by simp)
             case rest =>
              clear HC28
              try clear c1
              try clear c2
              try clear p2
              try clear q2
              try clear hx2
              try clear c3
              try clear c19
              try clear p28
              try clear q28
              try clear hx28
              try clear c29
              try clear c30
              try clear c31
              try clear c32
              try clear c37
              try clear c37b0
              try clear c37b1
              try clear hx281_0
              try clear hx281_1
              try clear hx281_2
              try clear hx281_3
              try clear hx281_4
              try clear hx281_5
              try clear hx282_0
              try clear hx282_1
              try clear hx282_2
              try clear hx282_3
              try clear hx282_4
              try clear hx282_5
              try clear hx284_0
              try clear hx284_1
              try clear hx284_2
              try clear hx284_3
              try clear hx284_4
              try clear hx284_5
              try clear hx285_0
              try clear hx285_1
              try clear hx285_2
              try clear hx285_3
              try clear hx285_4
              try clear hx285_5
              try clear p281
              try clear p282
              try clear p284
              try clear p285
              try clear q281
              try clear q282
              try clear q284
              try clear q285
              obtain ⟨kq, x94_27, rfl, HA, HJ27, HO_10, HB⟩ := hcut
              cases kq with
              | zero => exact absurd HA.out (by simp [hatstandlaw14_HistoryOrder.j4])
              | succ kj27 =>
               have H := HA.out
               clear HA
               simp only [hatstandlaw14_HistoryOrder.j4] at H
               by_cases c44 : x94_27 = true
               ·subst c44
                have H1 : (some false) = some r := by rw [if_pos rfl] at H; exact H
                clear H
                have H := H1
                clear H1
                exact absurd ((Option.some.inj H).trans HT0.out) (by decide)
               ·replace c44 := Bool.eq_false_iff.mpr c44
                subst c44
                have H1 : (hatstandlaw14_HistoryOrder.l1 kj27 a1 a2 a3 t274 x12_18 x13_2 (wrap64 (x14_3 + 1))) = some r := by rw [if_neg (show ¬ (false = true) by decide)] at H; exact H
                clear H
                have H := H1
                clear H1
                have H' := Aside0.mk H
                clear H
                go_wp2
                go_roundg kj27
                case measure => have := HJ5.out; have := HK2.out; have := HK3.out; have := HJ18.out; have := HJ27.out; omega
                case rel => exact ⟨(x12_18), (wrap64 (x14_3 + 1)), (by first | rfl | (simp; done) | (simp [*]; done)), (by first | rfl | (simp; done) | (simp [*]; done)), H', ⟨by have := HJ5.out; have := HK2.out; have := HK3.out; have := HJ18.out; have := HJ27.out; omega⟩, ⟨by (with_reducible repeat (first | apply Kd.R_alloc | apply Kd.R_drewN | apply Kd.R_drew)); exact HO_10.out⟩, ⟨by repeat (first | (with_reducible first | exact HB.out | apply below_alloc | apply pw_below_drewN | apply below_drew1) | exact HB.out)⟩⟩
          ·rw [if_neg c18] at H
           have c18b0 : decide (x14_3 < (t274.length : Int)) = false := decide_eq_false c18
           clear c18
           have H' := Aside0.mk H
           clear H
           go_wp2
           go_roundg k3
           case measure => have := HJ5.out; have := HK2.out; have := HK3.out; omega
           case rel => exact ⟨(x12_3), (wrap64 (x13_2 + 1)), (by first | rfl | (simp; done) | (simp [*]; done)), (by first | rfl | (simp; done) | (simp [*]; done)), H', ⟨by have := HJ5.out; have := HK2.out; have := HK3.out; omega⟩, ⟨by (with_reducible repeat (first | apply Kd.R_alloc | apply Kd.R_drewN | apply Kd.R_drew)); exact HO_10.out⟩, ⟨by repeat (first | (with_reducible first | exact HB.out | apply below_alloc | apply pw_below_drewN | apply below_drew1) | exact HB.out)⟩⟩
       ·rw [if_neg c16] at H
        have c16b0 : decide (x13_2 < (t274.length : Int)) = false := decide_eq_false c16
        clear c16
        replace H := Option.bind_eq_some_iff.mp H
        obtain ⟨t289, A450, H⟩ := H
        replace H : (if (t289 != x12_2) = true then (some false) else (if (t274.length : Int) = 0 then (some true) else ((hatstandlaw14_pick.f a1 (t274.length : Int)).bind fun t290 => (if 0 ≤ t290 then (if t290 < (t274.length : Int) then ((hatstandlaw14_pick.f a2 (t274.length : Int)).bind fun t293 => (if 0 ≤ t293 then (if t293 < (t274.length : Int) then ((hatstandlaw14_pick.f a3 (t274.length : Int)).bind fun t296 => (if 0 ≤ t296 then (if t296 < (t274.length : Int) then ((history_Ahead.f ((rd_T45 t274 t290).f0) ((rd_T45 t274 t290).f1) ((rd_T45 t274 t290).f2) ((rd_T45 t274 t290).f3) ((rd_T45 t274 t290).f4) ((rd_T45 t274 t290).f5) ((rd_T45 t274 t290).f0) ((rd_T45 t274 t290).f1) ((rd_T45 t274 t290).f2) ((rd_T45 t274 t290).f3) ((rd_T45 t274 t290).f4) ((rd_T45 t274 t290).f5)).bind fun t299 => (if t299 = true then (some false) else ((history_Ahead.f ((rd_T45 t274 t290).f0) ((rd_T45 t274 t290).f1) ((rd_T45 t274 t290).f2) ((rd_T45 t274 t290).f3) ((rd_T45 t274 t290).f4) ((rd_T45 t274 t290).f5) ((rd_T45 t274 t293).f0) ((rd_T45 t274 t293).f1) ((rd_T45 t274 t293).f2) ((rd_T45 t274 t293).f3) ((rd_T45 t274 t293).f4) ((rd_T45 t274 t293).f5)).bind fun t300 => (if t300 = true then ((history_Ahead.f ((rd_T45 t274 t293).f0) ((rd_T45 t274 t293).f1) ((rd_T45 t274 t293).f2) ((rd_T45 t274 t293).f3) ((rd_T45 t274 t293).f4) ((rd_T45 t274 t293).f5) ((rd_T45 t274 t296).f0) ((rd_T45 t274 t296).f1) ((rd_T45 t274 t296).f2) ((rd_T45 t274 t296).f3) ((rd_T45 t274 t296).f4) ((rd_T45 t274 t296).f5)).bind fun t301 => (if t301 = true then ((history_Ahead.f ((rd_T45 t274 t290).f0) ((rd_T45 t274 t290).f1) ((rd_T45 t274 t290).f2) ((rd_T45 t274 t290).f3) ((rd_T45 t274 t290).f4) ((rd_T45 t274 t290).f5) ((rd_T45 t274 t296).f0) ((rd_T45 t274 t296).f1) ((rd_T45 t274 t296).f2) ((rd_T45 t274 t296).f3) ((rd_T45 t274 t296).f4) ((rd_T45 t274 t296).f5)).bind fun t302 => (some t302)) else (some true))) else (some true))))) else (none)) else (none))) else (none)) else (none))) else (none)) else (none))))) = some r := H
        have A45 := Aside0.mk A450
        clear A450
        by_cases c46 : (t289 != x12_2) = true
        ·rw [if_pos c46] at H
         have c46b0 : (t289 != x12_2) = true := c46
         (try (have c46b1 : decide (t289 = x12_2) = false := by simpa using c46))
         (try (have c46b2 : (t289 == x12_2) = false := by simpa using c46))
         (try (have c46b3 : ¬ (t289 = x12_2) := by simpa using c46))
         clear c46
         exact absurd ((Option.some.inj H).trans HT0.out) (by decide)
        ·rw [if_neg c46] at H
         have c46b0 : (t289 != x12_2) = false := by simpa using c46
         (try (have c46b1 : decide (t289 = x12_2) = true := by simpa using c46))
         (try (have c46b2 : (t289 == x12_2) = true := by simpa using c46))
         clear c46
         by_cases c47 : (t274.length : Int) = 0
         ·rw [if_pos c47] at H
          have c47b0 : ((t274.length : Int) == 0) = true := beq_iff_eq.mpr c47
          have c47b1 : ((t274.length : Int) != 0) = false := bne_eq_false_iff_eq.mpr c47
          clear c47
          obtain rfl := Option.some.inj H
          obtain ⟨Ao48, co48, eo48⟩ := Kd.R_slice HO_10.out
          subst eo48
          go_wp2_with (first | ((with_reducible refine gate_callee (f := 20) rfl ?_); refine goesL_ (some 96) rfl rfl Try.func20 (by kernel_rfl) rfl #[.slice Ao48 t274.length co48] rfl (by first | rfl | ((try simp only [List.map_toArray, List.map_cons, List.map_nil]); first | done | rfl)) ?_; (with_reducible refine (history_Alone.calls k2 _ _ t274 t289 _ ?side1 ?side2 A45.out).mono ?_); (case side1 => repeat (first | exact (Kd.R_reads' HO_10.out).2.2 | (with_reducible refine Kd.C_alloc ?_ _) | (with_reducible refine Kd.C_drewN ?_ _) | (with_reducible refine Kd.C_drew ?_))); (case side2 => exact (Kd.R_reads' HO_10.out).2.1); rintro e w49 ⟨rfl, hb⟩; refine ⟨_, rfl, ?_⟩; have n0_ := Aside0.mk (Kd.R_below (by (with_reducible repeat (first | apply Kd.R_alloc | apply Kd.R_drewN | apply Kd.R_drew)); exact HO_10.out) hb); have n1_ := Aside0.mk (below_step (by with_reducible repeat (first | exact HB.out | apply below_alloc | apply pw_below_drewN | apply below_drew1)) hb); clear HO_10; clear HB; have HO_10 := n0_; have HB := n1_; clear n0_ n1_; (try clear hb); (try clear hb2); (try clear hk); (try clear hi)))
          go_ret
          exact ⟨by first | rfl | (simp [errW_none, errW_some] <;> rfl) | (simp [*, errW_none, errW_some] <;> rfl), by repeat (first | (with_reducible first | exact HB.out | apply below_alloc | apply pw_below_drewN | apply below_drew1) | exact HB.out)⟩
         ·rw [if_neg c47] at H
          have c47b0 : ((t274.length : Int) == 0) = false := beq_eq_false_iff_ne.mpr c47
          have c47b1 : ((t274.length : Int) != 0) = true := bne_iff_ne.mpr c47
          have c47b2 : ¬ (t274 = []) := fun h_ => c47 (by rw [h_]; rfl)
          replace H := Option.bind_eq_some_iff.mp H
          obtain ⟨t290, A500, H⟩ := H
          replace H : (if 0 ≤ t290 then (if t290 < (t274.length : Int) then ((hatstandlaw14_pick.f a2 (t274.length : Int)).bind fun t293 => (if 0 ≤ t293 then (if t293 < (t274.length : Int) then ((hatstandlaw14_pick.f a3 (t274.length : Int)).bind fun t296 => (if 0 ≤ t296 then (if t296 < (t274.length : Int) then ((history_Ahead.f ((rd_T45 t274 t290).f0) ((rd_T45 t274 t290).f1) ((rd_T45 t274 t290).f2) ((rd_T45 t274 t290).f3) ((rd_T45 t274 t290).f4) ((rd_T45 t274 t290).f5) ((rd_T45 t274 t290).f0) ((rd_T45 t274 t290).f1) ((rd_T45 t274 t290).f2) ((rd_T45 t274 t290).f3) ((rd_T45 t274 t290).f4) ((rd_T45 t274 t290).f5)).bind fun t299 => (if t299 = true then (some false) else ((history_Ahead.f ((rd_T45 t274 t290).f0) ((rd_T45 t274 t290).f1) ((rd_T45 t274 t290).f2) ((rd_T45 t274 t290).f3) ((rd_T45 t274 t290).f4) ((rd_T45 t274 t290).f5) ((rd_T45 t274 t293).f0) ((rd_T45 t274 t293).f1) ((rd_T45 t274 t293).f2) ((rd_T45 t274 t293).f3) ((rd_T45 t274 t293).f4) ((rd_T45 t274 t293).f5)).bind fun t300 => (if t300 = true then ((history_Ahead.f ((rd_T45 t274 t293).f0) ((rd_T45 t274 t293).f1) ((rd_T45 t274 t293).f2) ((rd_T45 t274 t293).f3) ((rd_T45 t274 t293).f4) ((rd_T45 t274 t293).f5) ((rd_T45 t274 t296).f0) ((rd_T45 t274 t296).f1) ((rd_T45 t274 t296).f2) ((rd_T45 t274 t296).f3) ((rd_T45 t274 t296).f4) ((rd_T45 t274 t296).f5)).bind fun t301 => (if t301 = true then ((history_Ahead.f ((rd_T45 t274 t290).f0) ((rd_T45 t274 t290).f1) ((rd_T45 t274 t290).f2) ((rd_T45 t274 t290).f3) ((rd_T45 t274 t290).f4) ((rd_T45 t274 t290).f5) ((rd_T45 t274 t296).f0) ((rd_T45 t274 t296).f1) ((rd_T45 t274 t296).f2) ((rd_T45 t274 t296).f3) ((rd_T45 t274 t296).f4) ((rd_T45 t274 t296).f5)).bind fun t302 => (some t302)) else (some true))) else (some true))))) else (none)) else (none))) else (none)) else (none))) else (none)) else (none)) = some r := H
          have A50 := Aside0.mk A500
          clear A500
          by_cases c51 : 0 ≤ t290
          ·rw [if_pos c51] at H
           have c51b0 : decide (0 ≤ t290) = true := decide_eq_true c51
           clear c51
           by_cases c52 : t290 < (t274.length : Int)
           ·rw [if_pos c52] at H
            have c52b0 : decide (t290 < (t274.length : Int)) = true := decide_eq_true c52
            clear c52
            replace H := Option.bind_eq_some_iff.mp H
            obtain ⟨t293, A530, H⟩ := H
            replace H : (if 0 ≤ t293 then (if t293 < (t274.length : Int) then ((hatstandlaw14_pick.f a3 (t274.length : Int)).bind fun t296 => (if 0 ≤ t296 then (if t296 < (t274.length : Int) then ((history_Ahead.f ((rd_T45 t274 t290).f0) ((rd_T45 t274 t290).f1) ((rd_T45 t274 t290).f2) ((rd_T45 t274 t290).f3) ((rd_T45 t274 t290).f4) ((rd_T45 t274 t290).f5) ((rd_T45 t274 t290).f0) ((rd_T45 t274 t290).f1) ((rd_T45 t274 t290).f2) ((rd_T45 t274 t290).f3) ((rd_T45 t274 t290).f4) ((rd_T45 t274 t290).f5)).bind fun t299 => (if t299 = true then (some false) else ((history_Ahead.f ((rd_T45 t274 t290).f0) ((rd_T45 t274 t290).f1) ((rd_T45 t274 t290).f2) ((rd_T45 t274 t290).f3) ((rd_T45 t274 t290).f4) ((rd_T45 t274 t290).f5) ((rd_T45 t274 t293).f0) ((rd_T45 t274 t293).f1) ((rd_T45 t274 t293).f2) ((rd_T45 t274 t293).f3) ((rd_T45 t274 t293).f4) ((rd_T45 t274 t293).f5)).bind fun t300 => (if t300 = true then ((history_Ahead.f ((rd_T45 t274 t293).f0) ((rd_T45 t274 t293).f1) ((rd_T45 t274 t293).f2) ((rd_T45 t274 t293).f3) ((rd_T45 t274 t293).f4) ((rd_T45 t274 t293).f5) ((rd_T45 t274 t296).f0) ((rd_T45 t274 t296).f1) ((rd_T45 t274 t296).f2) ((rd_T45 t274 t296).f3) ((rd_T45 t274 t296).f4) ((rd_T45 t274 t296).f5)).bind fun t301 => (if t301 = true then ((history_Ahead.f ((rd_T45 t274 t290).f0) ((rd_T45 t274 t290).f1) ((rd_T45 t274 t290).f2) ((rd_T45 t274 t290).f3) ((rd_T45 t274 t290).f4) ((rd_T45 t274 t290).f5) ((rd_T45 t274 t296).f0) ((rd_T45 t274 t296).f1) ((rd_T45 t274 t296).f2) ((rd_T45 t274 t296).f3) ((rd_T45 t274 t296).f4) ((rd_T45 t274 t296).f5)).bind fun t302 => (some t302)) else (some true))) else (some true))))) else (none)) else (none))) else (none)) else (none)) = some r := H
            have A53 := Aside0.mk A530
            clear A530
            by_cases c54 : 0 ≤ t293
            ·rw [if_pos c54] at H
             have c54b0 : decide (0 ≤ t293) = true := decide_eq_true c54
             clear c54
             by_cases c55 : t293 < (t274.length : Int)
             ·rw [if_pos c55] at H
              have c55b0 : decide (t293 < (t274.length : Int)) = true := decide_eq_true c55
              clear c55
              replace H := Option.bind_eq_some_iff.mp H
              obtain ⟨t296, A560, H⟩ := H
              replace H : (if 0 ≤ t296 then (if t296 < (t274.length : Int) then ((history_Ahead.f ((rd_T45 t274 t290).f0) ((rd_T45 t274 t290).f1) ((rd_T45 t274 t290).f2) ((rd_T45 t274 t290).f3) ((rd_T45 t274 t290).f4) ((rd_T45 t274 t290).f5) ((rd_T45 t274 t290).f0) ((rd_T45 t274 t290).f1) ((rd_T45 t274 t290).f2) ((rd_T45 t274 t290).f3) ((rd_T45 t274 t290).f4) ((rd_T45 t274 t290).f5)).bind fun t299 => (if t299 = true then (some false) else ((history_Ahead.f ((rd_T45 t274 t290).f0) ((rd_T45 t274 t290).f1) ((rd_T45 t274 t290).f2) ((rd_T45 t274 t290).f3) ((rd_T45 t274 t290).f4) ((rd_T45 t274 t290).f5) ((rd_T45 t274 t293).f0) ((rd_T45 t274 t293).f1) ((rd_T45 t274 t293).f2) ((rd_T45 t274 t293).f3) ((rd_T45 t274 t293).f4) ((rd_T45 t274 t293).f5)).bind fun t300 => (if t300 = true then ((history_Ahead.f ((rd_T45 t274 t293).f0) ((rd_T45 t274 t293).f1) ((rd_T45 t274 t293).f2) ((rd_T45 t274 t293).f3) ((rd_T45 t274 t293).f4) ((rd_T45 t274 t293).f5) ((rd_T45 t274 t296).f0) ((rd_T45 t274 t296).f1) ((rd_T45 t274 t296).f2) ((rd_T45 t274 t296).f3) ((rd_T45 t274 t296).f4) ((rd_T45 t274 t296).f5)).bind fun t301 => (if t301 = true then ((history_Ahead.f ((rd_T45 t274 t290).f0) ((rd_T45 t274 t290).f1) ((rd_T45 t274 t290).f2) ((rd_T45 t274 t290).f3) ((rd_T45 t274 t290).f4) ((rd_T45 t274 t290).f5) ((rd_T45 t274 t296).f0) ((rd_T45 t274 t296).f1) ((rd_T45 t274 t296).f2) ((rd_T45 t274 t296).f3) ((rd_T45 t274 t296).f4) ((rd_T45 t274 t296).f5)).bind fun t302 => (some t302)) else (some true))) else (some true))))) else (none)) else (none)) = some r := H
              have A56 := Aside0.mk A560
              clear A560
              by_cases c57 : 0 ≤ t296
              ·rw [if_pos c57] at H
               have c57b0 : decide (0 ≤ t296) = true := decide_eq_true c57
               clear c57
               by_cases c58 : t296 < (t274.length : Int)
               ·rw [if_pos c58] at H
                have c58b0 : decide (t296 < (t274.length : Int)) = true := decide_eq_true c58
                clear c58
                have HXX := Aside0.mk H
                clear H
                obtain ⟨Ao66, co66, eo66⟩ := Kd.R_slice HO_10.out
                subst eo66
                go_upto_region 24 with (first | ((with_reducible refine gate_callee (f := 20) rfl ?_); refine goesL_ (some 96) rfl rfl Try.func20 (by kernel_rfl) rfl #[.slice Ao66 t274.length co66] rfl (by first | rfl | ((try simp only [List.map_toArray, List.map_cons, List.map_nil]); first | done | rfl)) ?_; (with_reducible refine (history_Alone.calls k2 _ _ t274 t289 _ ?side1 ?side2 A45.out).mono ?_); (case side1 => repeat (first | exact (Kd.R_reads' HO_10.out).2.2 | (with_reducible refine Kd.C_alloc ?_ _) | (with_reducible refine Kd.C_drewN ?_ _) | (with_reducible refine Kd.C_drew ?_))); (case side2 => exact (Kd.R_reads' HO_10.out).2.1); rintro e w67 ⟨rfl, hb⟩; refine ⟨_, rfl, ?_⟩; have n0_ := Aside0.mk (Kd.R_below (by (with_reducible repeat (first | apply Kd.R_alloc | apply Kd.R_drewN | apply Kd.R_drew)); exact HO_10.out) hb); have n1_ := Aside0.mk (below_step (by with_reducible repeat (first | exact HB.out | apply below_alloc | apply pw_below_drewN | apply below_drew1)) hb); clear HO_10; clear HB; have HO_10 := n0_; have HB := n1_; clear n0_ n1_; (try clear hb); (try clear hb2); (try clear hk); (try clear hi)) | ((with_reducible refine gate_callee (f := 18) rfl ?_); refine goesL_ (some 106) rfl rfl Try.func18 (by kernel_rfl) rfl #[.int .i64 a1, .int .i64 (t274.length : Int)] rfl (by first | rfl | ((try simp only [List.map_toArray, List.map_cons, List.map_nil]); first | done | rfl)) ?_; (with_reducible refine (hatstandlaw14_pick.calls a1 (t274.length : Int) t290 _ A50.out).mono ?_); rintro e w' ⟨rfl, ⟨nd, rfl⟩⟩; refine ⟨_, rfl, ?_⟩; (try (rw [drewN_self w67]; generalize hq_ : World.drewN w67 _ = w67; have n0_ : Aside0 (Kd.R k45 45 w67 w.heap.size (fun _ => True) (.slice Ao66 t274.length co66) t274) := ⟨by rw [← hq_]; exact (by (with_reducible repeat (first | apply Kd.R_alloc | apply Kd.R_drewN | apply Kd.R_drew)); exact HO_10.out)⟩; have n1_ : Aside0 (Below w.heap.size w w67) := ⟨by rw [← hq_]; exact (by with_reducible repeat (first | exact HB.out | apply below_alloc | apply pw_below_drewN | apply below_drew1))⟩; clear HO_10 HB hq_; have HO_10 := n0_; have HB := n1_; clear n0_ n1_)); have p291 : 0 ≤ (t290 : Int) := of_decide_eq_true (by first | (with_reducible assumption) | assumption); have q291 : t290 < (t274.length : Int) := of_decide_eq_true (by first | (with_reducible assumption) | assumption); obtain ⟨ad291, e291, hx291_0, hx291_1, hx291_2, hx291_3, hx291_4, hx291_5⟩ := at_T45 (Kd.R_reads' HO_10.out).2.2 t290 p291 q291; cases e291; replace p291 := eq_true p291; replace q291 := eq_true q291) | ((with_reducible refine gate_dst (N := 15) rfl ?_); (try (refine gate_guard (by rfl) ?_; dsimp only)); refine box_event ?hg (N := 15) ?hd (cs := #[.int .i64 0, .bool false, .int .u64 0, .int .i64 0, .int .i64 0, .int .i64 0]) (t := 45) ?hr ?_; (case hd => rfl); (case hg => rfl); (case hr => first | (go_simp; done) | (go_simp; rfl)); intro gb292 hg w68 hbox hb; have n0_ := Aside0.mk (Kd.R_below (Kd.R_elderB (by (with_reducible repeat (first | apply Kd.R_alloc | apply Kd.R_drewN | apply Kd.R_drew)); exact HO_10.out) gb292 (Nat.le_of_eq hg.symm)) hb); have n1_ := Aside0.mk (below_step (by with_reducible repeat (first | exact HB.out | apply below_alloc | apply pw_below_drewN | apply below_drew1)) hb); have n2_ := Aside0.mk (hbox); have n3_ := Aside0.mk ((by rw [hg]; exact (below_size (by with_reducible repeat (first | exact HB.out | apply below_alloc | apply pw_below_drewN | apply below_drew1))) : w.heap.size ≤ gb292)); have n4_ := Aside0.mk ((by rw [hg]; exact (below_size (by with_reducible repeat (first | exact HB.out | apply below_alloc | apply pw_below_drewN | apply below_drew1))) : w.heap.size ≤ gb292)); clear HO_10; clear HB; have HO_10 := n0_; have HB := n1_; have BK292 := n2_; have GW292 := n3_; have GE292 := n4_; clear n0_ n1_ n2_ n3_ n4_; clear hb hbox hg; have hcz69_0 : w68.cell? ⟨gb292, 0, none⟩ = some (.int .i64 0) := (blk_cell BK292.out 0).trans rfl; have hcz69_1 : w68.cell? ⟨gb292, 1, none⟩ = some (.bool false) := (blk_cell BK292.out 1).trans rfl; have hcz69_2 : w68.cell? ⟨gb292, 2, none⟩ = some (.int .u64 0) := (blk_cell BK292.out 2).trans rfl; have hcz69_3 : w68.cell? ⟨gb292, 3, none⟩ = some (.int .i64 0) := (blk_cell BK292.out 3).trans rfl; have hcz69_4 : w68.cell? ⟨gb292, 4, none⟩ = some (.int .i64 0) := (blk_cell BK292.out 4).trans rfl; have hcz69_5 : w68.cell? ⟨gb292, 5, none⟩ = some (.int .i64 0) := (blk_cell BK292.out 5).trans rfl; have hfz69_0 := blk_frozen BK292.out 0; have hfz69_1 := blk_frozen BK292.out 1; have hfz69_2 := blk_frozen BK292.out 2; have hfz69_3 := blk_frozen BK292.out 3; have hfz69_4 := blk_frozen BK292.out 4; have hfz69_5 := blk_frozen BK292.out 5) | ((with_reducible refine gate_callee (f := 18) rfl ?_); refine goesL_ (some 113) rfl rfl Try.func18 (by kernel_rfl) rfl #[.int .i64 a2, .int .i64 (t274.length : Int)] rfl (by first | rfl | ((try simp only [List.map_toArray, List.map_cons, List.map_nil]); first | done | rfl)) ?_; (with_reducible refine (hatstandlaw14_pick.calls a2 (t274.length : Int) t293 _ A53.out).mono ?_); rintro e w' ⟨rfl, ⟨nd, rfl⟩⟩; refine ⟨_, rfl, ?_⟩; have p294 : 0 ≤ (t293 : Int) := of_decide_eq_true (by first | (with_reducible assumption) | assumption); have q294 : t293 < (t274.length : Int) := of_decide_eq_true (by first | (with_reducible assumption) | assumption); obtain ⟨ad294, e294, hx294_0, hx294_1, hx294_2, hx294_3, hx294_4, hx294_5⟩ := at_T45 (Kd.R_reads' HO_10.out).2.2 t293 p294 q294; obtain rfl : ad291 = ad294 := (by injection e294); have hn294_0 : ad291.block ≠ gb292 := Kd.own_blk (by first | exact Kd.R_ne HO_10.out BK292.out (by decide) | exact Kd.R_away HO_10.out (fun _ hk => hk.2) | exact Kd.R_away HO_10.out (fun _ hk => hk.1.2) | exact Kd.R_away HO_10.out (fun _ hk => hk.1.1.2)); have hn294_1 : ad291.block ≠ gb292 := Kd.own_blk (by first | exact Kd.R_ne HO_10.out BK292.out (by decide) | exact Kd.R_away HO_10.out (fun _ hk => hk.2) | exact Kd.R_away HO_10.out (fun _ hk => hk.1.2) | exact Kd.R_away HO_10.out (fun _ hk => hk.1.1.2)); have hn294_2 : ad291.block ≠ gb292 := Kd.own_blk (by first | exact Kd.R_ne HO_10.out BK292.out (by decide) | exact Kd.R_away HO_10.out (fun _ hk => hk.2) | exact Kd.R_away HO_10.out (fun _ hk => hk.1.2) | exact Kd.R_away HO_10.out (fun _ hk => hk.1.1.2)); have hn294_3 : ad291.block ≠ gb292 := Kd.own_blk (by first | exact Kd.R_ne HO_10.out BK292.out (by decide) | exact Kd.R_away HO_10.out (fun _ hk => hk.2) | exact Kd.R_away HO_10.out (fun _ hk => hk.1.2) | exact Kd.R_away HO_10.out (fun _ hk => hk.1.1.2)); have hn294_4 : ad291.block ≠ gb292 := Kd.own_blk (by first | exact Kd.R_ne HO_10.out BK292.out (by decide) | exact Kd.R_away HO_10.out (fun _ hk => hk.2) | exact Kd.R_away HO_10.out (fun _ hk => hk.1.2) | exact Kd.R_away HO_10.out (fun _ hk => hk.1.1.2)); have hn294_5 : ad291.block ≠ gb292 := Kd.own_blk (by first | exact Kd.R_ne HO_10.out BK292.out (by decide) | exact Kd.R_away HO_10.out (fun _ hk => hk.2) | exact Kd.R_away HO_10.out (fun _ hk => hk.1.2) | exact Kd.R_away HO_10.out (fun _ hk => hk.1.1.2)); replace hx294_0 := (cell_far (p := ⟨gb292, 0, none⟩) (by first | (rw [add_block]; exact hn294_0) | (show (Addr.add _ _).block ≠ _; rw [add_block]; exact hn294_0) | exact hn294_0) (.int .i64 ((rd_T45 t274 t290).f0))).trans hx294_0; replace hx294_1 := (cell_far (p := ⟨gb292, 0, none⟩) (by first | (rw [add_block]; exact hn294_0) | (show (Addr.add _ _).block ≠ _; rw [add_block]; exact hn294_0) | exact hn294_0) (.int .i64 ((rd_T45 t274 t290).f0))).trans hx294_1; replace hx294_2 := (cell_far (p := ⟨gb292, 0, none⟩) (by first | (rw [add_block]; exact hn294_0) | (show (Addr.add _ _).block ≠ _; rw [add_block]; exact hn294_0) | exact hn294_0) (.int .i64 ((rd_T45 t274 t290).f0))).trans hx294_2; replace hx294_3 := (cell_far (p := ⟨gb292, 0, none⟩) (by first | (rw [add_block]; exact hn294_0) | (show (Addr.add _ _).block ≠ _; rw [add_block]; exact hn294_0) | exact hn294_0) (.int .i64 ((rd_T45 t274 t290).f0))).trans hx294_3; replace hx294_4 := (cell_far (p := ⟨gb292, 0, none⟩) (by first | (rw [add_block]; exact hn294_0) | (show (Addr.add _ _).block ≠ _; rw [add_block]; exact hn294_0) | exact hn294_0) (.int .i64 ((rd_T45 t274 t290).f0))).trans hx294_4; replace hx294_5 := (cell_far (p := ⟨gb292, 0, none⟩) (by first | (rw [add_block]; exact hn294_0) | (show (Addr.add _ _).block ≠ _; rw [add_block]; exact hn294_0) | exact hn294_0) (.int .i64 ((rd_T45 t274 t290).f0))).trans hx294_5; replace hx294_0 := (cell_far (p := ⟨gb292, 1, none⟩) (by first | (rw [add_block]; exact hn294_1) | (show (Addr.add _ _).block ≠ _; rw [add_block]; exact hn294_1) | exact hn294_1) (.bool ((rd_T45 t274 t290).f1))).trans hx294_0; replace hx294_1 := (cell_far (p := ⟨gb292, 1, none⟩) (by first | (rw [add_block]; exact hn294_1) | (show (Addr.add _ _).block ≠ _; rw [add_block]; exact hn294_1) | exact hn294_1) (.bool ((rd_T45 t274 t290).f1))).trans hx294_1; replace hx294_2 := (cell_far (p := ⟨gb292, 1, none⟩) (by first | (rw [add_block]; exact hn294_1) | (show (Addr.add _ _).block ≠ _; rw [add_block]; exact hn294_1) | exact hn294_1) (.bool ((rd_T45 t274 t290).f1))).trans hx294_2; replace hx294_3 := (cell_far (p := ⟨gb292, 1, none⟩) (by first | (rw [add_block]; exact hn294_1) | (show (Addr.add _ _).block ≠ _; rw [add_block]; exact hn294_1) | exact hn294_1) (.bool ((rd_T45 t274 t290).f1))).trans hx294_3; replace hx294_4 := (cell_far (p := ⟨gb292, 1, none⟩) (by first | (rw [add_block]; exact hn294_1) | (show (Addr.add _ _).block ≠ _; rw [add_block]; exact hn294_1) | exact hn294_1) (.bool ((rd_T45 t274 t290).f1))).trans hx294_4; replace hx294_5 := (cell_far (p := ⟨gb292, 1, none⟩) (by first | (rw [add_block]; exact hn294_1) | (show (Addr.add _ _).block ≠ _; rw [add_block]; exact hn294_1) | exact hn294_1) (.bool ((rd_T45 t274 t290).f1))).trans hx294_5; replace hx294_0 := (cell_far (p := ⟨gb292, 2, none⟩) (by first | (rw [add_block]; exact hn294_2) | (show (Addr.add _ _).block ≠ _; rw [add_block]; exact hn294_2) | exact hn294_2) (.int .u64 ((rd_T45 t274 t290).f2))).trans hx294_0; replace hx294_1 := (cell_far (p := ⟨gb292, 2, none⟩) (by first | (rw [add_block]; exact hn294_2) | (show (Addr.add _ _).block ≠ _; rw [add_block]; exact hn294_2) | exact hn294_2) (.int .u64 ((rd_T45 t274 t290).f2))).trans hx294_1; replace hx294_2 := (cell_far (p := ⟨gb292, 2, none⟩) (by first | (rw [add_block]; exact hn294_2) | (show (Addr.add _ _).block ≠ _; rw [add_block]; exact hn294_2) | exact hn294_2) (.int .u64 ((rd_T45 t274 t290).f2))).trans hx294_2; replace hx294_3 := (cell_far (p := ⟨gb292, 2, none⟩) (by first | (rw [add_block]; exact hn294_2) | (show (Addr.add _ _).block ≠ _; rw [add_block]; exact hn294_2) | exact hn294_2) (.int .u64 ((rd_T45 t274 t290).f2))).trans hx294_3; replace hx294_4 := (cell_far (p := ⟨gb292, 2, none⟩) (by first | (rw [add_block]; exact hn294_2) | (show (Addr.add _ _).block ≠ _; rw [add_block]; exact hn294_2) | exact hn294_2) (.int .u64 ((rd_T45 t274 t290).f2))).trans hx294_4; replace hx294_5 := (cell_far (p := ⟨gb292, 2, none⟩) (by first | (rw [add_block]; exact hn294_2) | (show (Addr.add _ _).block ≠ _; rw [add_block]; exact hn294_2) | exact hn294_2) (.int .u64 ((rd_T45 t274 t290).f2))).trans hx294_5; replace hx294_0 := (cell_far (p := ⟨gb292, 3, none⟩) (by first | (rw [add_block]; exact hn294_3) | (show (Addr.add _ _).block ≠ _; rw [add_block]; exact hn294_3) | exact hn294_3) (.int .i64 ((rd_T45 t274 t290).f3))).trans hx294_0; replace hx294_1 := (cell_far (p := ⟨gb292, 3, none⟩) (by first | (rw [add_block]; exact hn294_3) | (show (Addr.add _ _).block ≠ _; rw [add_block]; exact hn294_3) | exact hn294_3) (.int .i64 ((rd_T45 t274 t290).f3))).trans hx294_1; replace hx294_2 := (cell_far (p := ⟨gb292, 3, none⟩) (by first | (rw [add_block]; exact hn294_3) | (show (Addr.add _ _).block ≠ _; rw [add_block]; exact hn294_3) | exact hn294_3) (.int .i64 ((rd_T45 t274 t290).f3))).trans hx294_2; replace hx294_3 := (cell_far (p := ⟨gb292, 3, none⟩) (by first | (rw [add_block]; exact hn294_3) | (show (Addr.add _ _).block ≠ _; rw [add_block]; exact hn294_3) | exact hn294_3) (.int .i64 ((rd_T45 t274 t290).f3))).trans hx294_3; replace hx294_4 := (cell_far (p := ⟨gb292, 3, none⟩) (by first | (rw [add_block]; exact hn294_3) | (show (Addr.add _ _).block ≠ _; rw [add_block]; exact hn294_3) | exact hn294_3) (.int .i64 ((rd_T45 t274 t290).f3))).trans hx294_4; replace hx294_5 := (cell_far (p := ⟨gb292, 3, none⟩) (by first | (rw [add_block]; exact hn294_3) | (show (Addr.add _ _).block ≠ _; rw [add_block]; exact hn294_3) | exact hn294_3) (.int .i64 ((rd_T45 t274 t290).f3))).trans hx294_5; replace hx294_0 := (cell_far (p := ⟨gb292, 4, none⟩) (by first | (rw [add_block]; exact hn294_4) | (show (Addr.add _ _).block ≠ _; rw [add_block]; exact hn294_4) | exact hn294_4) (.int .i64 ((rd_T45 t274 t290).f4))).trans hx294_0; replace hx294_1 := (cell_far (p := ⟨gb292, 4, none⟩) (by first | (rw [add_block]; exact hn294_4) | (show (Addr.add _ _).block ≠ _; rw [add_block]; exact hn294_4) | exact hn294_4) (.int .i64 ((rd_T45 t274 t290).f4))).trans hx294_1; replace hx294_2 := (cell_far (p := ⟨gb292, 4, none⟩) (by first | (rw [add_block]; exact hn294_4) | (show (Addr.add _ _).block ≠ _; rw [add_block]; exact hn294_4) | exact hn294_4) (.int .i64 ((rd_T45 t274 t290).f4))).trans hx294_2; replace hx294_3 := (cell_far (p := ⟨gb292, 4, none⟩) (by first | (rw [add_block]; exact hn294_4) | (show (Addr.add _ _).block ≠ _; rw [add_block]; exact hn294_4) | exact hn294_4) (.int .i64 ((rd_T45 t274 t290).f4))).trans hx294_3; replace hx294_4 := (cell_far (p := ⟨gb292, 4, none⟩) (by first | (rw [add_block]; exact hn294_4) | (show (Addr.add _ _).block ≠ _; rw [add_block]; exact hn294_4) | exact hn294_4) (.int .i64 ((rd_T45 t274 t290).f4))).trans hx294_4; replace hx294_5 := (cell_far (p := ⟨gb292, 4, none⟩) (by first | (rw [add_block]; exact hn294_4) | (show (Addr.add _ _).block ≠ _; rw [add_block]; exact hn294_4) | exact hn294_4) (.int .i64 ((rd_T45 t274 t290).f4))).trans hx294_5; replace hx294_0 := (cell_far (p := ⟨gb292, 5, none⟩) (by first | (rw [add_block]; exact hn294_5) | (show (Addr.add _ _).block ≠ _; rw [add_block]; exact hn294_5) | exact hn294_5) (.int .i64 ((rd_T45 t274 t290).f5))).trans hx294_0; replace hx294_1 := (cell_far (p := ⟨gb292, 5, none⟩) (by first | (rw [add_block]; exact hn294_5) | (show (Addr.add _ _).block ≠ _; rw [add_block]; exact hn294_5) | exact hn294_5) (.int .i64 ((rd_T45 t274 t290).f5))).trans hx294_1; replace hx294_2 := (cell_far (p := ⟨gb292, 5, none⟩) (by first | (rw [add_block]; exact hn294_5) | (show (Addr.add _ _).block ≠ _; rw [add_block]; exact hn294_5) | exact hn294_5) (.int .i64 ((rd_T45 t274 t290).f5))).trans hx294_2; replace hx294_3 := (cell_far (p := ⟨gb292, 5, none⟩) (by first | (rw [add_block]; exact hn294_5) | (show (Addr.add _ _).block ≠ _; rw [add_block]; exact hn294_5) | exact hn294_5) (.int .i64 ((rd_T45 t274 t290).f5))).trans hx294_3; replace hx294_4 := (cell_far (p := ⟨gb292, 5, none⟩) (by first | (rw [add_block]; exact hn294_5) | (show (Addr.add _ _).block ≠ _; rw [add_block]; exact hn294_5) | exact hn294_5) (.int .i64 ((rd_T45 t274 t290).f5))).trans hx294_4; replace hx294_5 := (cell_far (p := ⟨gb292, 5, none⟩) (by first | (rw [add_block]; exact hn294_5) | (show (Addr.add _ _).block ≠ _; rw [add_block]; exact hn294_5) | exact hn294_5) (.int .i64 ((rd_T45 t274 t290).f5))).trans hx294_5; clear hn294_0; clear hn294_1; clear hn294_2; clear hn294_3; clear hn294_4; clear hn294_5; replace p294 := eq_true p294; replace q294 := eq_true q294) | ((with_reducible refine gate_dst (N := 16) rfl ?_); (try (refine gate_guard (by rfl) ?_; dsimp only)); refine box_event ?hg (N := 16) ?hd (cs := #[.int .i64 0, .bool false, .int .u64 0, .int .i64 0, .int .i64 0, .int .i64 0]) (t := 45) ?hr ?_; (case hd => rfl); (case hg => rfl); (case hr => first | (go_simp; done) | (go_simp; rfl)); intro gb295 hg w70 hbox hb; have n0_ := Aside0.mk (Kd.R_below (Kd.R_elderB (by (with_reducible repeat (first | apply Kd.R_alloc | apply Kd.R_drewN | apply Kd.R_drew)); exact (Kd.R_mono (Kd.R_far (p := ⟨gb292, 5, none⟩) (Kd.R_far (p := ⟨gb292, 4, none⟩) (Kd.R_far (p := ⟨gb292, 3, none⟩) (Kd.R_far (p := ⟨gb292, 2, none⟩) (Kd.R_far (p := ⟨gb292, 1, none⟩) (Kd.R_far (p := ⟨gb292, 0, none⟩) (Kd.R_mono HO_10.out (fun k_ hk => (⟨hk, hk.2⟩ : _ ∧ k_ ≠ gb292))) (fun _ hk => hk.2) (.int .i64 ((rd_T45 t274 t290).f0))) (fun _ hk => hk.2) (.bool ((rd_T45 t274 t290).f1))) (fun _ hk => hk.2) (.int .u64 ((rd_T45 t274 t290).f2))) (fun _ hk => hk.2) (.int .i64 ((rd_T45 t274 t290).f3))) (fun _ hk => hk.2) (.int .i64 ((rd_T45 t274 t290).f4))) (fun _ hk => hk.2) (.int .i64 ((rd_T45 t274 t290).f5))) (fun _ h_ => h_.1))) gb295 (Nat.le_of_eq hg.symm)) hb); have n1_ := Aside0.mk (blk_below (g := gb292) (o := .cells #[.int .i64 ((rd_T45 t274 t290).f0), .bool ((rd_T45 t274 t290).f1), .int .u64 ((rd_T45 t274 t290).f2), .int .i64 ((rd_T45 t274 t290).f3), .int .i64 ((rd_T45 t274 t290).f4), .int .i64 ((rd_T45 t274 t290).f5)] 45 (0, 0)) (by (with_reducible repeat (first | refine blk_drewN ?_ _ | refine blk_drew ?_ | refine blk_alloc ?_ _)); refine blk_put (cs := #[.int .i64 ((rd_T45 t274 t290).f0), .bool ((rd_T45 t274 t290).f1), .int .u64 ((rd_T45 t274 t290).f2), .int .i64 ((rd_T45 t274 t290).f3), .int .i64 ((rd_T45 t274 t290).f4), .int .i64 0]) ?_ 5 _ rfl; (with_reducible repeat (first | refine blk_drewN ?_ _ | refine blk_drew ?_ | refine blk_alloc ?_ _)); refine blk_put (cs := #[.int .i64 ((rd_T45 t274 t290).f0), .bool ((rd_T45 t274 t290).f1), .int .u64 ((rd_T45 t274 t290).f2), .int .i64 ((rd_T45 t274 t290).f3), .int .i64 0, .int .i64 0]) ?_ 4 _ rfl; (with_reducible repeat (first | refine blk_drewN ?_ _ | refine blk_drew ?_ | refine blk_alloc ?_ _)); refine blk_put (cs := #[.int .i64 ((rd_T45 t274 t290).f0), .bool ((rd_T45 t274 t290).f1), .int .u64 ((rd_T45 t274 t290).f2), .int .i64 0, .int .i64 0, .int .i64 0]) ?_ 3 _ rfl; (with_reducible repeat (first | refine blk_drewN ?_ _ | refine blk_drew ?_ | refine blk_alloc ?_ _)); refine blk_put (cs := #[.int .i64 ((rd_T45 t274 t290).f0), .bool ((rd_T45 t274 t290).f1), .int .u64 0, .int .i64 0, .int .i64 0, .int .i64 0]) ?_ 2 _ rfl; (with_reducible repeat (first | refine blk_drewN ?_ _ | refine blk_drew ?_ | refine blk_alloc ?_ _)); refine blk_put (cs := #[.int .i64 ((rd_T45 t274 t290).f0), .bool false, .int .u64 0, .int .i64 0, .int .i64 0, .int .i64 0]) ?_ 1 _ rfl; (with_reducible repeat (first | refine blk_drewN ?_ _ | refine blk_drew ?_ | refine blk_alloc ?_ _)); refine blk_put (cs := #[.int .i64 0, .bool false, .int .u64 0, .int .i64 0, .int .i64 0, .int .i64 0]) ?_ 0 _ rfl; (with_reducible repeat (first | refine blk_drewN ?_ _ | refine blk_drew ?_ | refine blk_alloc ?_ _)); exact BK292.out) hb); have n2_ := Aside0.mk (below_step (by with_reducible repeat (first | exact HB.out | apply below_alloc | apply pw_below_drewN | apply below_drew1 | refine below_set ?_ GE292.out)) hb); have n3_ := Aside0.mk (hbox); have n4_ := Aside0.mk ((by rw [hg]; exact (below_size (by with_reducible repeat (first | exact HB.out | apply below_alloc | apply pw_below_drewN | apply below_drew1 | refine below_set ?_ GE292.out))) : w.heap.size ≤ gb295)); have n5_ := Aside0.mk ((by rw [hg]; exact (below_size (by with_reducible repeat (first | exact HB.out | apply below_alloc | apply pw_below_drewN | apply below_drew1 | refine below_set ?_ GE292.out))) : w.heap.size ≤ gb295)); have n6_ := Aside0.mk ((by rw [hg]; exact Nat.ne_of_lt (blk_lt (g := gb292) (o := .cells #[.int .i64 ((rd_T45 t274 t290).f0), .bool ((rd_T45 t274 t290).f1), .int .u64 ((rd_T45 t274 t290).f2), .int .i64 ((rd_T45 t274 t290).f3), .int .i64 ((rd_T45 t274 t290).f4), .int .i64 ((rd_T45 t274 t290).f5)] 45 (0, 0)) (by (with_reducible repeat (first | refine blk_drewN ?_ _ | refine blk_drew ?_ | refine blk_alloc ?_ _)); refine blk_put (cs := #[.int .i64 ((rd_T45 t274 t290).f0), .bool ((rd_T45 t274 t290).f1), .int .u64 ((rd_T45 t274 t290).f2), .int .i64 ((rd_T45 t274 t290).f3), .int .i64 ((rd_T45 t274 t290).f4), .int .i64 0]) ?_ 5 _ rfl; (with_reducible repeat (first | refine blk_drewN ?_ _ | refine blk_drew ?_ | refine blk_alloc ?_ _)); refine blk_put (cs := #[.int .i64 ((rd_T45 t274 t290).f0), .bool ((rd_T45 t274 t290).f1), .int .u64 ((rd_T45 t274 t290).f2), .int .i64 ((rd_T45 t274 t290).f3), .int .i64 0, .int .i64 0]) ?_ 4 _ rfl; (with_reducible repeat (first | refine blk_drewN ?_ _ | refine blk_drew ?_ | refine blk_alloc ?_ _)); refine blk_put (cs := #[.int .i64 ((rd_T45 t274 t290).f0), .bool ((rd_T45 t274 t290).f1), .int .u64 ((rd_T45 t274 t290).f2), .int .i64 0, .int .i64 0, .int .i64 0]) ?_ 3 _ rfl; (with_reducible repeat (first | refine blk_drewN ?_ _ | refine blk_drew ?_ | refine blk_alloc ?_ _)); refine blk_put (cs := #[.int .i64 ((rd_T45 t274 t290).f0), .bool ((rd_T45 t274 t290).f1), .int .u64 0, .int .i64 0, .int .i64 0, .int .i64 0]) ?_ 2 _ rfl; (with_reducible repeat (first | refine blk_drewN ?_ _ | refine blk_drew ?_ | refine blk_alloc ?_ _)); refine blk_put (cs := #[.int .i64 ((rd_T45 t274 t290).f0), .bool false, .int .u64 0, .int .i64 0, .int .i64 0, .int .i64 0]) ?_ 1 _ rfl; (with_reducible repeat (first | refine blk_drewN ?_ _ | refine blk_drew ?_ | refine blk_alloc ?_ _)); refine blk_put (cs := #[.int .i64 0, .bool false, .int .u64 0, .int .i64 0, .int .i64 0, .int .i64 0]) ?_ 0 _ rfl; (with_reducible repeat (first | refine blk_drewN ?_ _ | refine blk_drew ?_ | refine blk_alloc ?_ _)); exact BK292.out)) : gb292 ≠ gb295)); have n7_ := Aside0.mk ((by rw [hg]; exact Nat.ne_of_gt (blk_lt (g := gb292) (o := .cells #[.int .i64 ((rd_T45 t274 t290).f0), .bool ((rd_T45 t274 t290).f1), .int .u64 ((rd_T45 t274 t290).f2), .int .i64 ((rd_T45 t274 t290).f3), .int .i64 ((rd_T45 t274 t290).f4), .int .i64 ((rd_T45 t274 t290).f5)] 45 (0, 0)) (by (with_reducible repeat (first | refine blk_drewN ?_ _ | refine blk_drew ?_ | refine blk_alloc ?_ _)); refine blk_put (cs := #[.int .i64 ((rd_T45 t274 t290).f0), .bool ((rd_T45 t274 t290).f1), .int .u64 ((rd_T45 t274 t290).f2), .int .i64 ((rd_T45 t274 t290).f3), .int .i64 ((rd_T45 t274 t290).f4), .int .i64 0]) ?_ 5 _ rfl; (with_reducible repeat (first | refine blk_drewN ?_ _ | refine blk_drew ?_ | refine blk_alloc ?_ _)); refine blk_put (cs := #[.int .i64 ((rd_T45 t274 t290).f0), .bool ((rd_T45 t274 t290).f1), .int .u64 ((rd_T45 t274 t290).f2), .int .i64 ((rd_T45 t274 t290).f3), .int .i64 0, .int .i64 0]) ?_ 4 _ rfl; (with_reducible repeat (first | refine blk_drewN ?_ _ | refine blk_drew ?_ | refine blk_alloc ?_ _)); refine blk_put (cs := #[.int .i64 ((rd_T45 t274 t290).f0), .bool ((rd_T45 t274 t290).f1), .int .u64 ((rd_T45 t274 t290).f2), .int .i64 0, .int .i64 0, .int .i64 0]) ?_ 3 _ rfl; (with_reducible repeat (first | refine blk_drewN ?_ _ | refine blk_drew ?_ | refine blk_alloc ?_ _)); refine blk_put (cs := #[.int .i64 ((rd_T45 t274 t290).f0), .bool ((rd_T45 t274 t290).f1), .int .u64 0, .int .i64 0, .int .i64 0, .int .i64 0]) ?_ 2 _ rfl; (with_reducible repeat (first | refine blk_drewN ?_ _ | refine blk_drew ?_ | refine blk_alloc ?_ _)); refine blk_put (cs := #[.int .i64 ((rd_T45 t274 t290).f0), .bool false, .int .u64 0, .int .i64 0, .int .i64 0, .int .i64 0]) ?_ 1 _ rfl; (with_reducible repeat (first | refine blk_drewN ?_ _ | refine blk_drew ?_ | refine blk_alloc ?_ _)); refine blk_put (cs := #[.int .i64 0, .bool false, .int .u64 0, .int .i64 0, .int .i64 0, .int .i64 0]) ?_ 0 _ rfl; (with_reducible repeat (first | refine blk_drewN ?_ _ | refine blk_drew ?_ | refine blk_alloc ?_ _)); exact BK292.out)) : gb295 ≠ gb292)); clear HO_10; clear BK292; clear HB; have HO_10 := n0_; have BK292 := n1_; have HB := n2_; have BK295 := n3_; have GW295 := n4_; have GE295 := n5_; have NB292_295 := n6_; have NB295_292 := n7_; clear n0_ n1_ n2_ n3_ n4_ n5_ n6_ n7_; clear hb hbox hg; have hnb71 := NB295_292.out; have hnc71 := NB292_295.out; have hcz72_0 : w70.cell? ⟨gb295, 0, none⟩ = some (.int .i64 0) := (blk_cell BK295.out 0).trans rfl; have hcz72_1 : w70.cell? ⟨gb295, 1, none⟩ = some (.bool false) := (blk_cell BK295.out 1).trans rfl; have hcz72_2 : w70.cell? ⟨gb295, 2, none⟩ = some (.int .u64 0) := (blk_cell BK295.out 2).trans rfl; have hcz72_3 : w70.cell? ⟨gb295, 3, none⟩ = some (.int .i64 0) := (blk_cell BK295.out 3).trans rfl; have hcz72_4 : w70.cell? ⟨gb295, 4, none⟩ = some (.int .i64 0) := (blk_cell BK295.out 4).trans rfl; have hcz72_5 : w70.cell? ⟨gb295, 5, none⟩ = some (.int .i64 0) := (blk_cell BK295.out 5).trans rfl; have hfz72_0 := blk_frozen BK295.out 0; have hfz72_1 := blk_frozen BK295.out 1; have hfz72_2 := blk_frozen BK295.out 2; have hfz72_3 := blk_frozen BK295.out 3; have hfz72_4 := blk_frozen BK295.out 4; have hfz72_5 := blk_frozen BK295.out 5) | ((with_reducible refine gate_callee (f := 18) rfl ?_); refine goesL_ (some 120) rfl rfl Try.func18 (by kernel_rfl) rfl #[.int .i64 a3, .int .i64 (t274.length : Int)] rfl (by first | rfl | ((try simp only [List.map_toArray, List.map_cons, List.map_nil]); first | done | rfl)) ?_; (with_reducible refine (hatstandlaw14_pick.calls a3 (t274.length : Int) t296 _ A56.out).mono ?_); rintro e w' ⟨rfl, ⟨nd, rfl⟩⟩; refine ⟨_, rfl, ?_⟩; have p297 : 0 ≤ (t296 : Int) := of_decide_eq_true (by first | (with_reducible assumption) | assumption); have q297 : t296 < (t274.length : Int) := of_decide_eq_true (by first | (with_reducible assumption) | assumption); obtain ⟨ad297, e297, hx297_0, hx297_1, hx297_2, hx297_3, hx297_4, hx297_5⟩ := at_T45 (Kd.R_reads' HO_10.out).2.2 t296 p297 q297; obtain rfl : ad291 = ad297 := (by injection e297); have hn297_0 : ad291.block ≠ gb295 := Kd.own_blk (by first | exact Kd.R_ne HO_10.out BK295.out (by decide) | exact Kd.R_away HO_10.out (fun _ hk => hk.2) | exact Kd.R_away HO_10.out (fun _ hk => hk.1.2) | exact Kd.R_away HO_10.out (fun _ hk => hk.1.1.2)); have hn297_1 : ad291.block ≠ gb295 := Kd.own_blk (by first | exact Kd.R_ne HO_10.out BK295.out (by decide) | exact Kd.R_away HO_10.out (fun _ hk => hk.2) | exact Kd.R_away HO_10.out (fun _ hk => hk.1.2) | exact Kd.R_away HO_10.out (fun _ hk => hk.1.1.2)); have hn297_2 : ad291.block ≠ gb295 := Kd.own_blk (by first | exact Kd.R_ne HO_10.out BK295.out (by decide) | exact Kd.R_away HO_10.out (fun _ hk => hk.2) | exact Kd.R_away HO_10.out (fun _ hk => hk.1.2) | exact Kd.R_away HO_10.out (fun _ hk => hk.1.1.2)); have hn297_3 : ad291.block ≠ gb295 := Kd.own_blk (by first | exact Kd.R_ne HO_10.out BK295.out (by decide) | exact Kd.R_away HO_10.out (fun _ hk => hk.2) | exact Kd.R_away HO_10.out (fun _ hk => hk.1.2) | exact Kd.R_away HO_10.out (fun _ hk => hk.1.1.2)); have hn297_4 : ad291.block ≠ gb295 := Kd.own_blk (by first | exact Kd.R_ne HO_10.out BK295.out (by decide) | exact Kd.R_away HO_10.out (fun _ hk => hk.2) | exact Kd.R_away HO_10.out (fun _ hk => hk.1.2) | exact Kd.R_away HO_10.out (fun _ hk => hk.1.1.2)); have hn297_5 : ad291.block ≠ gb295 := Kd.own_blk (by first | exact Kd.R_ne HO_10.out BK295.out (by decide) | exact Kd.R_away HO_10.out (fun _ hk => hk.2) | exact Kd.R_away HO_10.out (fun _ hk => hk.1.2) | exact Kd.R_away HO_10.out (fun _ hk => hk.1.1.2)); replace hx297_0 := (cell_far (p := ⟨gb295, 0, none⟩) (by first | (rw [add_block]; exact hn297_0) | (show (Addr.add _ _).block ≠ _; rw [add_block]; exact hn297_0) | exact hn297_0) (.int .i64 ((rd_T45 t274 t293).f0))).trans hx297_0; replace hx297_1 := (cell_far (p := ⟨gb295, 0, none⟩) (by first | (rw [add_block]; exact hn297_0) | (show (Addr.add _ _).block ≠ _; rw [add_block]; exact hn297_0) | exact hn297_0) (.int .i64 ((rd_T45 t274 t293).f0))).trans hx297_1; replace hx297_2 := (cell_far (p := ⟨gb295, 0, none⟩) (by first | (rw [add_block]; exact hn297_0) | (show (Addr.add _ _).block ≠ _; rw [add_block]; exact hn297_0) | exact hn297_0) (.int .i64 ((rd_T45 t274 t293).f0))).trans hx297_2; replace hx297_3 := (cell_far (p := ⟨gb295, 0, none⟩) (by first | (rw [add_block]; exact hn297_0) | (show (Addr.add _ _).block ≠ _; rw [add_block]; exact hn297_0) | exact hn297_0) (.int .i64 ((rd_T45 t274 t293).f0))).trans hx297_3; replace hx297_4 := (cell_far (p := ⟨gb295, 0, none⟩) (by first | (rw [add_block]; exact hn297_0) | (show (Addr.add _ _).block ≠ _; rw [add_block]; exact hn297_0) | exact hn297_0) (.int .i64 ((rd_T45 t274 t293).f0))).trans hx297_4; replace hx297_5 := (cell_far (p := ⟨gb295, 0, none⟩) (by first | (rw [add_block]; exact hn297_0) | (show (Addr.add _ _).block ≠ _; rw [add_block]; exact hn297_0) | exact hn297_0) (.int .i64 ((rd_T45 t274 t293).f0))).trans hx297_5; replace hx297_0 := (cell_far (p := ⟨gb295, 1, none⟩) (by first | (rw [add_block]; exact hn297_1) | (show (Addr.add _ _).block ≠ _; rw [add_block]; exact hn297_1) | exact hn297_1) (.bool ((rd_T45 t274 t293).f1))).trans hx297_0; replace hx297_1 := (cell_far (p := ⟨gb295, 1, none⟩) (by first | (rw [add_block]; exact hn297_1) | (show (Addr.add _ _).block ≠ _; rw [add_block]; exact hn297_1) | exact hn297_1) (.bool ((rd_T45 t274 t293).f1))).trans hx297_1; replace hx297_2 := (cell_far (p := ⟨gb295, 1, none⟩) (by first | (rw [add_block]; exact hn297_1) | (show (Addr.add _ _).block ≠ _; rw [add_block]; exact hn297_1) | exact hn297_1) (.bool ((rd_T45 t274 t293).f1))).trans hx297_2; replace hx297_3 := (cell_far (p := ⟨gb295, 1, none⟩) (by first | (rw [add_block]; exact hn297_1) | (show (Addr.add _ _).block ≠ _; rw [add_block]; exact hn297_1) | exact hn297_1) (.bool ((rd_T45 t274 t293).f1))).trans hx297_3; replace hx297_4 := (cell_far (p := ⟨gb295, 1, none⟩) (by first | (rw [add_block]; exact hn297_1) | (show (Addr.add _ _).block ≠ _; rw [add_block]; exact hn297_1) | exact hn297_1) (.bool ((rd_T45 t274 t293).f1))).trans hx297_4; replace hx297_5 := (cell_far (p := ⟨gb295, 1, none⟩) (by first | (rw [add_block]; exact hn297_1) | (show (Addr.add _ _).block ≠ _; rw [add_block]; exact hn297_1) | exact hn297_1) (.bool ((rd_T45 t274 t293).f1))).trans hx297_5; replace hx297_0 := (cell_far (p := ⟨gb295, 2, none⟩) (by first | (rw [add_block]; exact hn297_2) | (show (Addr.add _ _).block ≠ _; rw [add_block]; exact hn297_2) | exact hn297_2) (.int .u64 ((rd_T45 t274 t293).f2))).trans hx297_0; replace hx297_1 := (cell_far (p := ⟨gb295, 2, none⟩) (by first | (rw [add_block]; exact hn297_2) | (show (Addr.add _ _).block ≠ _; rw [add_block]; exact hn297_2) | exact hn297_2) (.int .u64 ((rd_T45 t274 t293).f2))).trans hx297_1; replace hx297_2 := (cell_far (p := ⟨gb295, 2, none⟩) (by first | (rw [add_block]; exact hn297_2) | (show (Addr.add _ _).block ≠ _; rw [add_block]; exact hn297_2) | exact hn297_2) (.int .u64 ((rd_T45 t274 t293).f2))).trans hx297_2; replace hx297_3 := (cell_far (p := ⟨gb295, 2, none⟩) (by first | (rw [add_block]; exact hn297_2) | (show (Addr.add _ _).block ≠ _; rw [add_block]; exact hn297_2) | exact hn297_2) (.int .u64 ((rd_T45 t274 t293).f2))).trans hx297_3; replace hx297_4 := (cell_far (p := ⟨gb295, 2, none⟩) (by first | (rw [add_block]; exact hn297_2) | (show (Addr.add _ _).block ≠ _; rw [add_block]; exact hn297_2) | exact hn297_2) (.int .u64 ((rd_T45 t274 t293).f2))).trans hx297_4; replace hx297_5 := (cell_far (p := ⟨gb295, 2, none⟩) (by first | (rw [add_block]; exact hn297_2) | (show (Addr.add _ _).block ≠ _; rw [add_block]; exact hn297_2) | exact hn297_2) (.int .u64 ((rd_T45 t274 t293).f2))).trans hx297_5; replace hx297_0 := (cell_far (p := ⟨gb295, 3, none⟩) (by first | (rw [add_block]; exact hn297_3) | (show (Addr.add _ _).block ≠ _; rw [add_block]; exact hn297_3) | exact hn297_3) (.int .i64 ((rd_T45 t274 t293).f3))).trans hx297_0; replace hx297_1 := (cell_far (p := ⟨gb295, 3, none⟩) (by first | (rw [add_block]; exact hn297_3) | (show (Addr.add _ _).block ≠ _; rw [add_block]; exact hn297_3) | exact hn297_3) (.int .i64 ((rd_T45 t274 t293).f3))).trans hx297_1; replace hx297_2 := (cell_far (p := ⟨gb295, 3, none⟩) (by first | (rw [add_block]; exact hn297_3) | (show (Addr.add _ _).block ≠ _; rw [add_block]; exact hn297_3) | exact hn297_3) (.int .i64 ((rd_T45 t274 t293).f3))).trans hx297_2; replace hx297_3 := (cell_far (p := ⟨gb295, 3, none⟩) (by first | (rw [add_block]; exact hn297_3) | (show (Addr.add _ _).block ≠ _; rw [add_block]; exact hn297_3) | exact hn297_3) (.int .i64 ((rd_T45 t274 t293).f3))).trans hx297_3; replace hx297_4 := (cell_far (p := ⟨gb295, 3, none⟩) (by first | (rw [add_block]; exact hn297_3) | (show (Addr.add _ _).block ≠ _; rw [add_block]; exact hn297_3) | exact hn297_3) (.int .i64 ((rd_T45 t274 t293).f3))).trans hx297_4; replace hx297_5 := (cell_far (p := ⟨gb295, 3, none⟩) (by first | (rw [add_block]; exact hn297_3) | (show (Addr.add _ _).block ≠ _; rw [add_block]; exact hn297_3) | exact hn297_3) (.int .i64 ((rd_T45 t274 t293).f3))).trans hx297_5; replace hx297_0 := (cell_far (p := ⟨gb295, 4, none⟩) (by first | (rw [add_block]; exact hn297_4) | (show (Addr.add _ _).block ≠ _; rw [add_block]; exact hn297_4) | exact hn297_4) (.int .i64 ((rd_T45 t274 t293).f4))).trans hx297_0; replace hx297_1 := (cell_far (p := ⟨gb295, 4, none⟩) (by first | (rw [add_block]; exact hn297_4) | (show (Addr.add _ _).block ≠ _; rw [add_block]; exact hn297_4) | exact hn297_4) (.int .i64 ((rd_T45 t274 t293).f4))).trans hx297_1; replace hx297_2 := (cell_far (p := ⟨gb295, 4, none⟩) (by first | (rw [add_block]; exact hn297_4) | (show (Addr.add _ _).block ≠ _; rw [add_block]; exact hn297_4) | exact hn297_4) (.int .i64 ((rd_T45 t274 t293).f4))).trans hx297_2; replace hx297_3 := (cell_far (p := ⟨gb295, 4, none⟩) (by first | (rw [add_block]; exact hn297_4) | (show (Addr.add _ _).block ≠ _; rw [add_block]; exact hn297_4) | exact hn297_4) (.int .i64 ((rd_T45 t274 t293).f4))).trans hx297_3; replace hx297_4 := (cell_far (p := ⟨gb295, 4, none⟩) (by first | (rw [add_block]; exact hn297_4) | (show (Addr.add _ _).block ≠ _; rw [add_block]; exact hn297_4) | exact hn297_4) (.int .i64 ((rd_T45 t274 t293).f4))).trans hx297_4; replace hx297_5 := (cell_far (p := ⟨gb295, 4, none⟩) (by first | (rw [add_block]; exact hn297_4) | (show (Addr.add _ _).block ≠ _; rw [add_block]; exact hn297_4) | exact hn297_4) (.int .i64 ((rd_T45 t274 t293).f4))).trans hx297_5; replace hx297_0 := (cell_far (p := ⟨gb295, 5, none⟩) (by first | (rw [add_block]; exact hn297_5) | (show (Addr.add _ _).block ≠ _; rw [add_block]; exact hn297_5) | exact hn297_5) (.int .i64 ((rd_T45 t274 t293).f5))).trans hx297_0; replace hx297_1 := (cell_far (p := ⟨gb295, 5, none⟩) (by first | (rw [add_block]; exact hn297_5) | (show (Addr.add _ _).block ≠ _; rw [add_block]; exact hn297_5) | exact hn297_5) (.int .i64 ((rd_T45 t274 t293).f5))).trans hx297_1; replace hx297_2 := (cell_far (p := ⟨gb295, 5, none⟩) (by first | (rw [add_block]; exact hn297_5) | (show (Addr.add _ _).block ≠ _; rw [add_block]; exact hn297_5) | exact hn297_5) (.int .i64 ((rd_T45 t274 t293).f5))).trans hx297_2; replace hx297_3 := (cell_far (p := ⟨gb295, 5, none⟩) (by first | (rw [add_block]; exact hn297_5) | (show (Addr.add _ _).block ≠ _; rw [add_block]; exact hn297_5) | exact hn297_5) (.int .i64 ((rd_T45 t274 t293).f5))).trans hx297_3; replace hx297_4 := (cell_far (p := ⟨gb295, 5, none⟩) (by first | (rw [add_block]; exact hn297_5) | (show (Addr.add _ _).block ≠ _; rw [add_block]; exact hn297_5) | exact hn297_5) (.int .i64 ((rd_T45 t274 t293).f5))).trans hx297_4; replace hx297_5 := (cell_far (p := ⟨gb295, 5, none⟩) (by first | (rw [add_block]; exact hn297_5) | (show (Addr.add _ _).block ≠ _; rw [add_block]; exact hn297_5) | exact hn297_5) (.int .i64 ((rd_T45 t274 t293).f5))).trans hx297_5; clear hn297_0; clear hn297_1; clear hn297_2; clear hn297_3; clear hn297_4; clear hn297_5; replace p297 := eq_true p297; replace q297 := eq_true q297) | ((with_reducible refine gate_dst (N := 17) rfl ?_); (try (refine gate_guard (by rfl) ?_; dsimp only)); refine box_event ?hg (N := 17) ?hd (cs := #[.int .i64 0, .bool false, .int .u64 0, .int .i64 0, .int .i64 0, .int .i64 0]) (t := 45) ?hr ?_; (case hd => rfl); (case hg => rfl); (case hr => first | (go_simp; done) | (go_simp; rfl)); intro gb298 hg w73 hbox hb; have n0_ := Aside0.mk (Kd.R_below (Kd.R_elderB (by (with_reducible repeat (first | apply Kd.R_alloc | apply Kd.R_drewN | apply Kd.R_drew)); exact (Kd.R_mono (Kd.R_far (p := ⟨gb295, 5, none⟩) (Kd.R_far (p := ⟨gb295, 4, none⟩) (Kd.R_far (p := ⟨gb295, 3, none⟩) (Kd.R_far (p := ⟨gb295, 2, none⟩) (Kd.R_far (p := ⟨gb295, 1, none⟩) (Kd.R_far (p := ⟨gb295, 0, none⟩) (Kd.R_mono HO_10.out (fun k_ hk => (⟨hk, hk.2⟩ : _ ∧ k_ ≠ gb295))) (fun _ hk => hk.2) (.int .i64 ((rd_T45 t274 t293).f0))) (fun _ hk => hk.2) (.bool ((rd_T45 t274 t293).f1))) (fun _ hk => hk.2) (.int .u64 ((rd_T45 t274 t293).f2))) (fun _ hk => hk.2) (.int .i64 ((rd_T45 t274 t293).f3))) (fun _ hk => hk.2) (.int .i64 ((rd_T45 t274 t293).f4))) (fun _ hk => hk.2) (.int .i64 ((rd_T45 t274 t293).f5))) (fun _ h_ => h_.1))) gb298 (Nat.le_of_eq hg.symm)) hb); have n1_ := Aside0.mk (blk_below (g := gb292) (o := .cells #[.int .i64 ((rd_T45 t274 t290).f0), .bool ((rd_T45 t274 t290).f1), .int .u64 ((rd_T45 t274 t290).f2), .int .i64 ((rd_T45 t274 t290).f3), .int .i64 ((rd_T45 t274 t290).f4), .int .i64 ((rd_T45 t274 t290).f5)] 45 (0, 0)) (by (with_reducible repeat (first | refine blk_drewN ?_ _ | refine blk_drew ?_ | refine blk_alloc ?_ _)); refine blk_far ?_ NB292_295.out _; (with_reducible repeat (first | refine blk_drewN ?_ _ | refine blk_drew ?_ | refine blk_alloc ?_ _)); refine blk_far ?_ NB292_295.out _; (with_reducible repeat (first | refine blk_drewN ?_ _ | refine blk_drew ?_ | refine blk_alloc ?_ _)); refine blk_far ?_ NB292_295.out _; (with_reducible repeat (first | refine blk_drewN ?_ _ | refine blk_drew ?_ | refine blk_alloc ?_ _)); refine blk_far ?_ NB292_295.out _; (with_reducible repeat (first | refine blk_drewN ?_ _ | refine blk_drew ?_ | refine blk_alloc ?_ _)); refine blk_far ?_ NB292_295.out _; (with_reducible repeat (first | refine blk_drewN ?_ _ | refine blk_drew ?_ | refine blk_alloc ?_ _)); refine blk_far ?_ NB292_295.out _; (with_reducible repeat (first | refine blk_drewN ?_ _ | refine blk_drew ?_ | refine blk_alloc ?_ _)); exact BK292.out) hb); have n2_ := Aside0.mk (blk_below (g := gb295) (o := .cells #[.int .i64 ((rd_T45 t274 t293).f0), .bool ((rd_T45 t274 t293).f1), .int .u64 ((rd_T45 t274 t293).f2), .int .i64 ((rd_T45 t274 t293).f3), .int .i64 ((rd_T45 t274 t293).f4), .int .i64 ((rd_T45 t274 t293).f5)] 45 (0, 0)) (by (with_reducible repeat (first | refine blk_drewN ?_ _ | refine blk_drew ?_ | refine blk_alloc ?_ _)); refine blk_put (cs := #[.int .i64 ((rd_T45 t274 t293).f0), .bool ((rd_T45 t274 t293).f1), .int .u64 ((rd_T45 t274 t293).f2), .int .i64 ((rd_T45 t274 t293).f3), .int .i64 ((rd_T45 t274 t293).f4), .int .i64 0]) ?_ 5 _ rfl; (with_reducible repeat (first | refine blk_drewN ?_ _ | refine blk_drew ?_ | refine blk_alloc ?_ _)); refine blk_put (cs := #[.int .i64 ((rd_T45 t274 t293).f0), .bool ((rd_T45 t274 t293).f1), .int .u64 ((rd_T45 t274 t293).f2), .int .i64 ((rd_T45 t274 t293).f3), .int .i64 0, .int .i64 0]) ?_ 4 _ rfl; (with_reducible repeat (first | refine blk_drewN ?_ _ | refine blk_drew ?_ | refine blk_alloc ?_ _)); refine blk_put (cs := #[.int .i64 ((rd_T45 t274 t293).f0), .bool ((rd_T45 t274 t293).f1), .int .u64 ((rd_T45 t274 t293).f2), .int .i64 0, .int .i64 0, .int .i64 0]) ?_ 3 _ rfl; (with_reducible repeat (first | refine blk_drewN ?_ _ | refine blk_drew ?_ | refine blk_alloc ?_ _)); refine blk_put (cs := #[.int .i64 ((rd_T45 t274 t293).f0), .bool ((rd_T45 t274 t293).f1), .int .u64 0, .int .i64 0, .int .i64 0, .int .i64 0]) ?_ 2 _ rfl; (with_reducible repeat (first | refine blk_drewN ?_ _ | refine blk_drew ?_ | refine blk_alloc ?_ _)); refine blk_put (cs := #[.int .i64 ((rd_T45 t274 t293).f0), .bool false, .int .u64 0, .int .i64 0, .int .i64 0, .int .i64 0]) ?_ 1 _ rfl; (with_reducible repeat (first | refine blk_drewN ?_ _ | refine blk_drew ?_ | refine blk_alloc ?_ _)); refine blk_put (cs := #[.int .i64 0, .bool false, .int .u64 0, .int .i64 0, .int .i64 0, .int .i64 0]) ?_ 0 _ rfl; (with_reducible repeat (first | refine blk_drewN ?_ _ | refine blk_drew ?_ | refine blk_alloc ?_ _)); exact BK295.out) hb); have n3_ := Aside0.mk (below_step (by with_reducible repeat (first | exact HB.out | apply below_alloc | apply pw_below_drewN | apply below_drew1 | refine below_set ?_ GE292.out | refine below_set ?_ GE295.out)) hb); have n4_ := Aside0.mk (hbox); have n5_ := Aside0.mk ((by rw [hg]; exact (below_size (by with_reducible repeat (first | exact HB.out | apply below_alloc | apply pw_below_drewN | apply below_drew1 | refine below_set ?_ GE292.out | refine below_set ?_ GE295.out))) : w.heap.size ≤ gb298)); have n6_ := Aside0.mk ((by rw [hg]; exact (below_size (by with_reducible repeat (first | exact HB.out | apply below_alloc | apply pw_below_drewN | apply below_drew1 | refine below_set ?_ GE292.out | refine below_set ?_ GE295.out))) : w.heap.size ≤ gb298)); have n7_ := Aside0.mk ((by rw [hg]; exact Nat.ne_of_lt (blk_lt (g := gb292) (o := .cells #[.int .i64 ((rd_T45 t274 t290).f0), .bool ((rd_T45 t274 t290).f1), .int .u64 ((rd_T45 t274 t290).f2), .int .i64 ((rd_T45 t274 t290).f3), .int .i64 ((rd_T45 t274 t290).f4), .int .i64 ((rd_T45 t274 t290).f5)] 45 (0, 0)) (by (with_reducible repeat (first | refine blk_drewN ?_ _ | refine blk_drew ?_ | refine blk_alloc ?_ _)); refine blk_far ?_ NB292_295.out _; (with_reducible repeat (first | refine blk_drewN ?_ _ | refine blk_drew ?_ | refine blk_alloc ?_ _)); refine blk_far ?_ NB292_295.out _; (with_reducible repeat (first | refine blk_drewN ?_ _ | refine blk_drew ?_ | refine blk_alloc ?_ _)); refine blk_far ?_ NB292_295.out _; (with_reducible repeat (first | refine blk_drewN ?_ _ | refine blk_drew ?_ | refine blk_alloc ?_ _)); refine blk_far ?_ NB292_295.out _; (with_reducible repeat (first | refine blk_drewN ?_ _ | refine blk_drew ?_ | refine blk_alloc ?_ _)); refine blk_far ?_ NB292_295.out _; (with_reducible repeat (first | refine blk_drewN ?_ _ | refine blk_drew ?_ | refine blk_alloc ?_ _)); refine blk_far ?_ NB292_295.out _; (with_reducible repeat (first | refine blk_drewN ?_ _ | refine blk_drew ?_ | refine blk_alloc ?_ _)); exact BK292.out)) : gb292 ≠ gb298)); have n8_ := Aside0.mk ((by rw [hg]; exact Nat.ne_of_gt (blk_lt (g := gb292) (o := .cells #[.int .i64 ((rd_T45 t274 t290).f0), .bool ((rd_T45 t274 t290).f1), .int .u64 ((rd_T45 t274 t290).f2), .int .i64 ((rd_T45 t274 t290).f3), .int .i64 ((rd_T45 t274 t290).f4), .int .i64 ((rd_T45 t274 t290).f5)] 45 (0, 0)) (by (with_reducible repeat (first | refine blk_drewN ?_ _ | refine blk_drew ?_ | refine blk_alloc ?_ _)); refine blk_far ?_ NB292_295.out _; (with_reducible repeat (first | refine blk_drewN ?_ _ | refine blk_drew ?_ | refine blk_alloc ?_ _)); refine blk_far ?_ NB292_295.out _; (with_reducible repeat (first | refine blk_drewN ?_ _ | refine blk_drew ?_ | refine blk_alloc ?_ _)); refine blk_far ?_ NB292_295.out _; (with_reducible repeat (first | refine blk_drewN ?_ _ | refine blk_drew ?_ | refine blk_alloc ?_ _)); refine blk_far ?_ NB292_295.out _; (with_reducible repeat (first | refine blk_drewN ?_ _ | refine blk_drew ?_ | refine blk_alloc ?_ _)); refine blk_far ?_ NB292_295.out _; (with_reducible repeat (first | refine blk_drewN ?_ _ | refine blk_drew ?_ | refine blk_alloc ?_ _)); refine blk_far ?_ NB292_295.out _; (with_reducible repeat (first | refine blk_drewN ?_ _ | refine blk_drew ?_ | refine blk_alloc ?_ _)); exact BK292.out)) : gb298 ≠ gb292)); have n9_ := Aside0.mk ((by rw [hg]; exact Nat.ne_of_lt (blk_lt (g := gb295) (o := .cells #[.int .i64 ((rd_T45 t274 t293).f0), .bool ((rd_T45 t274 t293).f1), .int .u64 ((rd_T45 t274 t293).f2), .int .i64 ((rd_T45 t274 t293).f3), .int .i64 ((rd_T45 t274 t293).f4), .int .i64 ((rd_T45 t274 t293).f5)] 45 (0, 0)) (by (with_reducible repeat (first | refine blk_drewN ?_ _ | refine blk_drew ?_ | refine blk_alloc ?_ _)); refine blk_put (cs := #[.int .i64 ((rd_T45 t274 t293).f0), .bool ((rd_T45 t274 t293).f1), .int .u64 ((rd_T45 t274 t293).f2), .int .i64 ((rd_T45 t274 t293).f3), .int .i64 ((rd_T45 t274 t293).f4), .int .i64 0]) ?_ 5 _ rfl; (with_reducible repeat (first | refine blk_drewN ?_ _ | refine blk_drew ?_ | refine blk_alloc ?_ _)); refine blk_put (cs := #[.int .i64 ((rd_T45 t274 t293).f0), .bool ((rd_T45 t274 t293).f1), .int .u64 ((rd_T45 t274 t293).f2), .int .i64 ((rd_T45 t274 t293).f3), .int .i64 0, .int .i64 0]) ?_ 4 _ rfl; (with_reducible repeat (first | refine blk_drewN ?_ _ | refine blk_drew ?_ | refine blk_alloc ?_ _)); refine blk_put (cs := #[.int .i64 ((rd_T45 t274 t293).f0), .bool ((rd_T45 t274 t293).f1), .int .u64 ((rd_T45 t274 t293).f2), .int .i64 0, .int .i64 0, .int .i64 0]) ?_ 3 _ rfl; (with_reducible repeat (first | refine blk_drewN ?_ _ | refine blk_drew ?_ | refine blk_alloc ?_ _)); refine blk_put (cs := #[.int .i64 ((rd_T45 t274 t293).f0), .bool ((rd_T45 t274 t293).f1), .int .u64 0, .int .i64 0, .int .i64 0, .int .i64 0]) ?_ 2 _ rfl; (with_reducible repeat (first | refine blk_drewN ?_ _ | refine blk_drew ?_ | refine blk_alloc ?_ _)); refine blk_put (cs := #[.int .i64 ((rd_T45 t274 t293).f0), .bool false, .int .u64 0, .int .i64 0, .int .i64 0, .int .i64 0]) ?_ 1 _ rfl; (with_reducible repeat (first | refine blk_drewN ?_ _ | refine blk_drew ?_ | refine blk_alloc ?_ _)); refine blk_put (cs := #[.int .i64 0, .bool false, .int .u64 0, .int .i64 0, .int .i64 0, .int .i64 0]) ?_ 0 _ rfl; (with_reducible repeat (first | refine blk_drewN ?_ _ | refine blk_drew ?_ | refine blk_alloc ?_ _)); exact BK295.out)) : gb295 ≠ gb298)); have n10_ := Aside0.mk ((by rw [hg]; exact Nat.ne_of_gt (blk_lt (g := gb295) (o := .cells #[.int .i64 ((rd_T45 t274 t293).f0), .bool ((rd_T45 t274 t293).f1), .int .u64 ((rd_T45 t274 t293).f2), .int .i64 ((rd_T45 t274 t293).f3), .int .i64 ((rd_T45 t274 t293).f4), .int .i64 ((rd_T45 t274 t293).f5)] 45 (0, 0)) (by (with_reducible repeat (first | refine blk_drewN ?_ _ | refine blk_drew ?_ | refine blk_alloc ?_ _)); refine blk_put (cs := #[.int .i64 ((rd_T45 t274 t293).f0), .bool ((rd_T45 t274 t293).f1), .int .u64 ((rd_T45 t274 t293).f2), .int .i64 ((rd_T45 t274 t293).f3), .int .i64 ((rd_T45 t274 t293).f4), .int .i64 0]) ?_ 5 _ rfl; (with_reducible repeat (first | refine blk_drewN ?_ _ | refine blk_drew ?_ | refine blk_alloc ?_ _)); refine blk_put (cs := #[.int .i64 ((rd_T45 t274 t293).f0), .bool ((rd_T45 t274 t293).f1), .int .u64 ((rd_T45 t274 t293).f2), .int .i64 ((rd_T45 t274 t293).f3), .int .i64 0, .int .i64 0]) ?_ 4 _ rfl; (with_reducible repeat (first | refine blk_drewN ?_ _ | refine blk_drew ?_ | refine blk_alloc ?_ _)); refine blk_put (cs := #[.int .i64 ((rd_T45 t274 t293).f0), .bool ((rd_T45 t274 t293).f1), .int .u64 ((rd_T45 t274 t293).f2), .int .i64 0, .int .i64 0, .int .i64 0]) ?_ 3 _ rfl; (with_reducible repeat (first | refine blk_drewN ?_ _ | refine blk_drew ?_ | refine blk_alloc ?_ _)); refine blk_put (cs := #[.int .i64 ((rd_T45 t274 t293).f0), .bool ((rd_T45 t274 t293).f1), .int .u64 0, .int .i64 0, .int .i64 0, .int .i64 0]) ?_ 2 _ rfl; (with_reducible repeat (first | refine blk_drewN ?_ _ | refine blk_drew ?_ | refine blk_alloc ?_ _)); refine blk_put (cs := #[.int .i64 ((rd_T45 t274 t293).f0), .bool false, .int .u64 0, .int .i64 0, .int .i64 0, .int .i64 0]) ?_ 1 _ rfl; (with_reducible repeat (first | refine blk_drewN ?_ _ | refine blk_drew ?_ | refine blk_alloc ?_ _)); refine blk_put (cs := #[.int .i64 0, .bool false, .int .u64 0, .int .i64 0, .int .i64 0, .int .i64 0]) ?_ 0 _ rfl; (with_reducible repeat (first | refine blk_drewN ?_ _ | refine blk_drew ?_ | refine blk_alloc ?_ _)); exact BK295.out)) : gb298 ≠ gb295)); clear HO_10; clear BK292; clear BK295; clear HB; have HO_10 := n0_; have BK292 := n1_; have BK295 := n2_; have HB := n3_; have BK298 := n4_; have GW298 := n5_; have GE298 := n6_; have NB292_298 := n7_; have NB298_292 := n8_; have NB295_298 := n9_; have NB298_295 := n10_; clear n0_ n1_ n2_ n3_ n4_ n5_ n6_ n7_ n8_ n9_ n10_; clear hb hbox hg; have hnb74 := NB298_292.out; have hnc74 := NB292_298.out; have hnb75 := NB298_295.out; have hnc75 := NB295_298.out; have hcz76_0 : w73.cell? ⟨gb298, 0, none⟩ = some (.int .i64 0) := (blk_cell BK298.out 0).trans rfl; have hcz76_1 : w73.cell? ⟨gb298, 1, none⟩ = some (.bool false) := (blk_cell BK298.out 1).trans rfl; have hcz76_2 : w73.cell? ⟨gb298, 2, none⟩ = some (.int .u64 0) := (blk_cell BK298.out 2).trans rfl; have hcz76_3 : w73.cell? ⟨gb298, 3, none⟩ = some (.int .i64 0) := (blk_cell BK298.out 3).trans rfl; have hcz76_4 : w73.cell? ⟨gb298, 4, none⟩ = some (.int .i64 0) := (blk_cell BK298.out 4).trans rfl; have hcz76_5 : w73.cell? ⟨gb298, 5, none⟩ = some (.int .i64 0) := (blk_cell BK298.out 5).trans rfl; have hfz76_0 := blk_frozen BK298.out 0; have hfz76_1 := blk_frozen BK298.out 1; have hfz76_2 := blk_frozen BK298.out 2; have hfz76_3 := blk_frozen BK298.out 3; have hfz76_4 := blk_frozen BK298.out 4; have hfz76_5 := blk_frozen BK298.out 5; have hcz77_0 : w73.cell? ⟨gb292, 0, none⟩ = some (.int .i64 ((rd_T45 t274 t290).f0)) := (blk_cell BK292.out 0).trans rfl; have hcz77_1 : w73.cell? ⟨gb292, 1, none⟩ = some (.bool ((rd_T45 t274 t290).f1)) := (blk_cell BK292.out 1).trans rfl; have hcz77_2 : w73.cell? ⟨gb292, 2, none⟩ = some (.int .u64 ((rd_T45 t274 t290).f2)) := (blk_cell BK292.out 2).trans rfl; have hcz77_3 : w73.cell? ⟨gb292, 3, none⟩ = some (.int .i64 ((rd_T45 t274 t290).f3)) := (blk_cell BK292.out 3).trans rfl; have hcz77_4 : w73.cell? ⟨gb292, 4, none⟩ = some (.int .i64 ((rd_T45 t274 t290).f4)) := (blk_cell BK292.out 4).trans rfl; have hcz77_5 : w73.cell? ⟨gb292, 5, none⟩ = some (.int .i64 ((rd_T45 t274 t290).f5)) := (blk_cell BK292.out 5).trans rfl; have hfz77_0 := blk_frozen BK292.out 0; have hfz77_1 := blk_frozen BK292.out 1; have hfz77_2 := blk_frozen BK292.out 2; have hfz77_3 := blk_frozen BK292.out 3; have hfz77_4 := blk_frozen BK292.out 4; have hfz77_5 := blk_frozen BK292.out 5))
                have H := HXX.out
                clear HXX
                replace H := Option.bind_eq_some_iff.mp H
                obtain ⟨t299, A590, H⟩ := H
                replace H : (if t299 = true then (some false) else ((history_Ahead.f ((rd_T45 t274 t290).f0) ((rd_T45 t274 t290).f1) ((rd_T45 t274 t290).f2) ((rd_T45 t274 t290).f3) ((rd_T45 t274 t290).f4) ((rd_T45 t274 t290).f5) ((rd_T45 t274 t293).f0) ((rd_T45 t274 t293).f1) ((rd_T45 t274 t293).f2) ((rd_T45 t274 t293).f3) ((rd_T45 t274 t293).f4) ((rd_T45 t274 t293).f5)).bind fun t300 => (if t300 = true then ((history_Ahead.f ((rd_T45 t274 t293).f0) ((rd_T45 t274 t293).f1) ((rd_T45 t274 t293).f2) ((rd_T45 t274 t293).f3) ((rd_T45 t274 t293).f4) ((rd_T45 t274 t293).f5) ((rd_T45 t274 t296).f0) ((rd_T45 t274 t296).f1) ((rd_T45 t274 t296).f2) ((rd_T45 t274 t296).f3) ((rd_T45 t274 t296).f4) ((rd_T45 t274 t296).f5)).bind fun t301 => (if t301 = true then ((history_Ahead.f ((rd_T45 t274 t290).f0) ((rd_T45 t274 t290).f1) ((rd_T45 t274 t290).f2) ((rd_T45 t274 t290).f3) ((rd_T45 t274 t290).f4) ((rd_T45 t274 t290).f5) ((rd_T45 t274 t296).f0) ((rd_T45 t274 t296).f1) ((rd_T45 t274 t296).f2) ((rd_T45 t274 t296).f3) ((rd_T45 t274 t296).f4) ((rd_T45 t274 t296).f5)).bind fun t302 => (some t302)) else (some true))) else (some true)))) = some r := H
                have A59 := Aside0.mk A590
                clear A590
                by_cases c60 : t299 = true
                ·subst c60
                 have H1 : (some false) = some r := by rw [if_pos rfl] at H; exact H
                 clear H
                 have H := H1
                 clear H1
                 exact absurd ((Option.some.inj H).trans HT0.out) (by decide)
                ·replace c60 := Bool.eq_false_iff.mpr c60
                 subst c60
                 have H1 : ((history_Ahead.f ((rd_T45 t274 t290).f0) ((rd_T45 t274 t290).f1) ((rd_T45 t274 t290).f2) ((rd_T45 t274 t290).f3) ((rd_T45 t274 t290).f4) ((rd_T45 t274 t290).f5) ((rd_T45 t274 t293).f0) ((rd_T45 t274 t293).f1) ((rd_T45 t274 t293).f2) ((rd_T45 t274 t293).f3) ((rd_T45 t274 t293).f4) ((rd_T45 t274 t293).f5)).bind fun t300 => (if t300 = true then ((history_Ahead.f ((rd_T45 t274 t293).f0) ((rd_T45 t274 t293).f1) ((rd_T45 t274 t293).f2) ((rd_T45 t274 t293).f3) ((rd_T45 t274 t293).f4) ((rd_T45 t274 t293).f5) ((rd_T45 t274 t296).f0) ((rd_T45 t274 t296).f1) ((rd_T45 t274 t296).f2) ((rd_T45 t274 t296).f3) ((rd_T45 t274 t296).f4) ((rd_T45 t274 t296).f5)).bind fun t301 => (if t301 = true then ((history_Ahead.f ((rd_T45 t274 t290).f0) ((rd_T45 t274 t290).f1) ((rd_T45 t274 t290).f2) ((rd_T45 t274 t290).f3) ((rd_T45 t274 t290).f4) ((rd_T45 t274 t290).f5) ((rd_T45 t274 t296).f0) ((rd_T45 t274 t296).f1) ((rd_T45 t274 t296).f2) ((rd_T45 t274 t296).f3) ((rd_T45 t274 t296).f4) ((rd_T45 t274 t296).f5)).bind fun t302 => (some t302)) else (some true))) else (some true))) = some r := by rw [if_neg (show ¬ (false = true) by decide)] at H; exact H
                 clear H
                 have H := H1
                 clear H1
                 replace H := Option.bind_eq_some_iff.mp H
                 obtain ⟨t300, A610, H⟩ := H
                 replace H : (if t300 = true then ((history_Ahead.f ((rd_T45 t274 t293).f0) ((rd_T45 t274 t293).f1) ((rd_T45 t274 t293).f2) ((rd_T45 t274 t293).f3) ((rd_T45 t274 t293).f4) ((rd_T45 t274 t293).f5) ((rd_T45 t274 t296).f0) ((rd_T45 t274 t296).f1) ((rd_T45 t274 t296).f2) ((rd_T45 t274 t296).f3) ((rd_T45 t274 t296).f4) ((rd_T45 t274 t296).f5)).bind fun t301 => (if t301 = true then ((history_Ahead.f ((rd_T45 t274 t290).f0) ((rd_T45 t274 t290).f1) ((rd_T45 t274 t290).f2) ((rd_T45 t274 t290).f3) ((rd_T45 t274 t290).f4) ((rd_T45 t274 t290).f5) ((rd_T45 t274 t296).f0) ((rd_T45 t274 t296).f1) ((rd_T45 t274 t296).f2) ((rd_T45 t274 t296).f3) ((rd_T45 t274 t296).f4) ((rd_T45 t274 t296).f5)).bind fun t302 => (some t302)) else (some true))) else (some true)) = some r := H
                 have A61 := Aside0.mk A610
                 clear A610
                 by_cases c62 : t300 = true
                 ·subst c62
                  have H1 : ((history_Ahead.f ((rd_T45 t274 t293).f0) ((rd_T45 t274 t293).f1) ((rd_T45 t274 t293).f2) ((rd_T45 t274 t293).f3) ((rd_T45 t274 t293).f4) ((rd_T45 t274 t293).f5) ((rd_T45 t274 t296).f0) ((rd_T45 t274 t296).f1) ((rd_T45 t274 t296).f2) ((rd_T45 t274 t296).f3) ((rd_T45 t274 t296).f4) ((rd_T45 t274 t296).f5)).bind fun t301 => (if t301 = true then ((history_Ahead.f ((rd_T45 t274 t290).f0) ((rd_T45 t274 t290).f1) ((rd_T45 t274 t290).f2) ((rd_T45 t274 t290).f3) ((rd_T45 t274 t290).f4) ((rd_T45 t274 t290).f5) ((rd_T45 t274 t296).f0) ((rd_T45 t274 t296).f1) ((rd_T45 t274 t296).f2) ((rd_T45 t274 t296).f3) ((rd_T45 t274 t296).f4) ((rd_T45 t274 t296).f5)).bind fun t302 => (some t302)) else (some true))) = some r := by rw [if_pos rfl] at H; exact H
                  clear H
                  have H := H1
                  clear H1
                  replace H := Option.bind_eq_some_iff.mp H
                  obtain ⟨t301, A630, H⟩ := H
                  replace H : (if t301 = true then ((history_Ahead.f ((rd_T45 t274 t290).f0) ((rd_T45 t274 t290).f1) ((rd_T45 t274 t290).f2) ((rd_T45 t274 t290).f3) ((rd_T45 t274 t290).f4) ((rd_T45 t274 t290).f5) ((rd_T45 t274 t296).f0) ((rd_T45 t274 t296).f1) ((rd_T45 t274 t296).f2) ((rd_T45 t274 t296).f3) ((rd_T45 t274 t296).f4) ((rd_T45 t274 t296).f5)).bind fun t302 => (some t302)) else (some true)) = some r := H
                  have A63 := Aside0.mk A630
                  clear A630
                  by_cases c64 : t301 = true
                  ·subst c64
                   have H1 : ((history_Ahead.f ((rd_T45 t274 t290).f0) ((rd_T45 t274 t290).f1) ((rd_T45 t274 t290).f2) ((rd_T45 t274 t290).f3) ((rd_T45 t274 t290).f4) ((rd_T45 t274 t290).f5) ((rd_T45 t274 t296).f0) ((rd_T45 t274 t296).f1) ((rd_T45 t274 t296).f2) ((rd_T45 t274 t296).f3) ((rd_T45 t274 t296).f4) ((rd_T45 t274 t296).f5)).bind fun t302 => (some t302)) = some r := by rw [if_pos rfl] at H; exact H
                   clear H
                   have H := H1
                   clear H1
                   replace H := Option.bind_eq_some_iff.mp H
                   obtain ⟨t302, A650, H⟩ := H
                   replace H : (some t302) = some r := H
                   have A65 := Aside0.mk A650
                   clear A650
                   obtain rfl := Option.some.inj H
                   go_wp2_with (first | ((with_reducible refine gate_callee (f := 19) rfl ?_); refine goesL_ (some 125) rfl rfl Try.func19 (by kernel_rfl) rfl #[.agg #[.int .i64 ((rd_T45 t274 t290).f0), .bool ((rd_T45 t274 t290).f1), .int .u64 ((rd_T45 t274 t290).f2), .int .i64 ((rd_T45 t274 t290).f3), .int .i64 ((rd_T45 t274 t290).f4), .int .i64 ((rd_T45 t274 t290).f5)], .agg #[.int .i64 ((rd_T45 t274 t290).f0), .bool ((rd_T45 t274 t290).f1), .int .u64 ((rd_T45 t274 t290).f2), .int .i64 ((rd_T45 t274 t290).f3), .int .i64 ((rd_T45 t274 t290).f4), .int .i64 ((rd_T45 t274 t290).f5)]] rfl (by first | rfl | ((try simp only [List.map_toArray, List.map_cons, List.map_nil]); first | done | rfl)) ?_; (with_reducible refine (history_Ahead.calls ((rd_T45 t274 t290).f0) ((rd_T45 t274 t290).f1) ((rd_T45 t274 t290).f2) ((rd_T45 t274 t290).f3) ((rd_T45 t274 t290).f4) ((rd_T45 t274 t290).f5) ((rd_T45 t274 t290).f0) ((rd_T45 t274 t290).f1) ((rd_T45 t274 t290).f2) ((rd_T45 t274 t290).f3) ((rd_T45 t274 t290).f4) ((rd_T45 t274 t290).f5) false _ A59.out).mono ?_); rintro e w78 ⟨rfl, hb⟩; refine ⟨_, rfl, ?_⟩; have n0_ := Aside0.mk (Kd.R_below (by (with_reducible repeat (first | apply Kd.R_alloc | apply Kd.R_drewN | apply Kd.R_drew)); exact (Kd.R_mono (Kd.R_far (p := ⟨gb298, 5, none⟩) (Kd.R_far (p := ⟨gb298, 4, none⟩) (Kd.R_far (p := ⟨gb298, 3, none⟩) (Kd.R_far (p := ⟨gb298, 2, none⟩) (Kd.R_far (p := ⟨gb298, 1, none⟩) (Kd.R_far (p := ⟨gb298, 0, none⟩) (Kd.R_mono HO_10.out (fun k_ hk => (⟨hk, hk.2⟩ : _ ∧ k_ ≠ gb298))) (fun _ hk => hk.2) (.int .i64 ((rd_T45 t274 t296).f0))) (fun _ hk => hk.2) (.bool ((rd_T45 t274 t296).f1))) (fun _ hk => hk.2) (.int .u64 ((rd_T45 t274 t296).f2))) (fun _ hk => hk.2) (.int .i64 ((rd_T45 t274 t296).f3))) (fun _ hk => hk.2) (.int .i64 ((rd_T45 t274 t296).f4))) (fun _ hk => hk.2) (.int .i64 ((rd_T45 t274 t296).f5))) (fun _ h_ => h_.1))) hb); have n1_ := Aside0.mk (blk_below (g := gb292) (o := .cells #[.int .i64 ((rd_T45 t274 t290).f0), .bool ((rd_T45 t274 t290).f1), .int .u64 ((rd_T45 t274 t290).f2), .int .i64 ((rd_T45 t274 t290).f3), .int .i64 ((rd_T45 t274 t290).f4), .int .i64 ((rd_T45 t274 t290).f5)] 45 (0, 0)) (by (with_reducible repeat (first | refine blk_drewN ?_ _ | refine blk_drew ?_ | refine blk_alloc ?_ _)); refine blk_far ?_ NB292_298.out _; (with_reducible repeat (first | refine blk_drewN ?_ _ | refine blk_drew ?_ | refine blk_alloc ?_ _)); refine blk_far ?_ NB292_298.out _; (with_reducible repeat (first | refine blk_drewN ?_ _ | refine blk_drew ?_ | refine blk_alloc ?_ _)); refine blk_far ?_ NB292_298.out _; (with_reducible repeat (first | refine blk_drewN ?_ _ | refine blk_drew ?_ | refine blk_alloc ?_ _)); refine blk_far ?_ NB292_298.out _; (with_reducible repeat (first | refine blk_drewN ?_ _ | refine blk_drew ?_ | refine blk_alloc ?_ _)); refine blk_far ?_ NB292_298.out _; (with_reducible repeat (first | refine blk_drewN ?_ _ | refine blk_drew ?_ | refine blk_alloc ?_ _)); refine blk_far ?_ NB292_298.out _; (with_reducible repeat (first | refine blk_drewN ?_ _ | refine blk_drew ?_ | refine blk_alloc ?_ _)); exact BK292.out) hb); have n2_ := Aside0.mk (blk_below (g := gb295) (o := .cells #[.int .i64 ((rd_T45 t274 t293).f0), .bool ((rd_T45 t274 t293).f1), .int .u64 ((rd_T45 t274 t293).f2), .int .i64 ((rd_T45 t274 t293).f3), .int .i64 ((rd_T45 t274 t293).f4), .int .i64 ((rd_T45 t274 t293).f5)] 45 (0, 0)) (by (with_reducible repeat (first | refine blk_drewN ?_ _ | refine blk_drew ?_ | refine blk_alloc ?_ _)); refine blk_far ?_ NB295_298.out _; (with_reducible repeat (first | refine blk_drewN ?_ _ | refine blk_drew ?_ | refine blk_alloc ?_ _)); refine blk_far ?_ NB295_298.out _; (with_reducible repeat (first | refine blk_drewN ?_ _ | refine blk_drew ?_ | refine blk_alloc ?_ _)); refine blk_far ?_ NB295_298.out _; (with_reducible repeat (first | refine blk_drewN ?_ _ | refine blk_drew ?_ | refine blk_alloc ?_ _)); refine blk_far ?_ NB295_298.out _; (with_reducible repeat (first | refine blk_drewN ?_ _ | refine blk_drew ?_ | refine blk_alloc ?_ _)); refine blk_far ?_ NB295_298.out _; (with_reducible repeat (first | refine blk_drewN ?_ _ | refine blk_drew ?_ | refine blk_alloc ?_ _)); refine blk_far ?_ NB295_298.out _; (with_reducible repeat (first | refine blk_drewN ?_ _ | refine blk_drew ?_ | refine blk_alloc ?_ _)); exact BK295.out) hb); have n3_ := Aside0.mk (blk_below (g := gb298) (o := .cells #[.int .i64 ((rd_T45 t274 t296).f0), .bool ((rd_T45 t274 t296).f1), .int .u64 ((rd_T45 t274 t296).f2), .int .i64 ((rd_T45 t274 t296).f3), .int .i64 ((rd_T45 t274 t296).f4), .int .i64 ((rd_T45 t274 t296).f5)] 45 (0, 0)) (by (with_reducible repeat (first | refine blk_drewN ?_ _ | refine blk_drew ?_ | refine blk_alloc ?_ _)); refine blk_put (cs := #[.int .i64 ((rd_T45 t274 t296).f0), .bool ((rd_T45 t274 t296).f1), .int .u64 ((rd_T45 t274 t296).f2), .int .i64 ((rd_T45 t274 t296).f3), .int .i64 ((rd_T45 t274 t296).f4), .int .i64 0]) ?_ 5 _ rfl; (with_reducible repeat (first | refine blk_drewN ?_ _ | refine blk_drew ?_ | refine blk_alloc ?_ _)); refine blk_put (cs := #[.int .i64 ((rd_T45 t274 t296).f0), .bool ((rd_T45 t274 t296).f1), .int .u64 ((rd_T45 t274 t296).f2), .int .i64 ((rd_T45 t274 t296).f3), .int .i64 0, .int .i64 0]) ?_ 4 _ rfl; (with_reducible repeat (first | refine blk_drewN ?_ _ | refine blk_drew ?_ | refine blk_alloc ?_ _)); refine blk_put (cs := #[.int .i64 ((rd_T45 t274 t296).f0), .bool ((rd_T45 t274 t296).f1), .int .u64 ((rd_T45 t274 t296).f2), .int .i64 0, .int .i64 0, .int .i64 0]) ?_ 3 _ rfl; (with_reducible repeat (first | refine blk_drewN ?_ _ | refine blk_drew ?_ | refine blk_alloc ?_ _)); refine blk_put (cs := #[.int .i64 ((rd_T45 t274 t296).f0), .bool ((rd_T45 t274 t296).f1), .int .u64 0, .int .i64 0, .int .i64 0, .int .i64 0]) ?_ 2 _ rfl; (with_reducible repeat (first | refine blk_drewN ?_ _ | refine blk_drew ?_ | refine blk_alloc ?_ _)); refine blk_put (cs := #[.int .i64 ((rd_T45 t274 t296).f0), .bool false, .int .u64 0, .int .i64 0, .int .i64 0, .int .i64 0]) ?_ 1 _ rfl; (with_reducible repeat (first | refine blk_drewN ?_ _ | refine blk_drew ?_ | refine blk_alloc ?_ _)); refine blk_put (cs := #[.int .i64 0, .bool false, .int .u64 0, .int .i64 0, .int .i64 0, .int .i64 0]) ?_ 0 _ rfl; (with_reducible repeat (first | refine blk_drewN ?_ _ | refine blk_drew ?_ | refine blk_alloc ?_ _)); exact BK298.out) hb); have n4_ := Aside0.mk (below_step (by with_reducible repeat (first | exact HB.out | apply below_alloc | apply pw_below_drewN | apply below_drew1 | refine below_set ?_ GE292.out | refine below_set ?_ GE295.out | refine below_set ?_ GE298.out)) hb); clear HO_10; clear BK292; clear BK295; clear BK298; clear HB; have HO_10 := n0_; have BK292 := n1_; have BK295 := n2_; have BK298 := n3_; have HB := n4_; clear n0_ n1_ n2_ n3_ n4_; (try clear hb); (try clear hb2); (try clear hk); (try clear hi); have hcz79_0 : w78.cell? ⟨gb292, 0, none⟩ = some (.int .i64 ((rd_T45 t274 t290).f0)) := (blk_cell BK292.out 0).trans rfl; have hcz79_1 : w78.cell? ⟨gb292, 1, none⟩ = some (.bool ((rd_T45 t274 t290).f1)) := (blk_cell BK292.out 1).trans rfl; have hcz79_2 : w78.cell? ⟨gb292, 2, none⟩ = some (.int .u64 ((rd_T45 t274 t290).f2)) := (blk_cell BK292.out 2).trans rfl; have hcz79_3 : w78.cell? ⟨gb292, 3, none⟩ = some (.int .i64 ((rd_T45 t274 t290).f3)) := (blk_cell BK292.out 3).trans rfl; have hcz79_4 : w78.cell? ⟨gb292, 4, none⟩ = some (.int .i64 ((rd_T45 t274 t290).f4)) := (blk_cell BK292.out 4).trans rfl; have hcz79_5 : w78.cell? ⟨gb292, 5, none⟩ = some (.int .i64 ((rd_T45 t274 t290).f5)) := (blk_cell BK292.out 5).trans rfl; have hfz79_0 := blk_frozen BK292.out 0; have hfz79_1 := blk_frozen BK292.out 1; have hfz79_2 := blk_frozen BK292.out 2; have hfz79_3 := blk_frozen BK292.out 3; have hfz79_4 := blk_frozen BK292.out 4; have hfz79_5 := blk_frozen BK292.out 5; have hcz80_0 : w78.cell? ⟨gb295, 0, none⟩ = some (.int .i64 ((rd_T45 t274 t293).f0)) := (blk_cell BK295.out 0).trans rfl; have hcz80_1 : w78.cell? ⟨gb295, 1, none⟩ = some (.bool ((rd_T45 t274 t293).f1)) := (blk_cell BK295.out 1).trans rfl; have hcz80_2 : w78.cell? ⟨gb295, 2, none⟩ = some (.int .u64 ((rd_T45 t274 t293).f2)) := (blk_cell BK295.out 2).trans rfl; have hcz80_3 : w78.cell? ⟨gb295, 3, none⟩ = some (.int .i64 ((rd_T45 t274 t293).f3)) := (blk_cell BK295.out 3).trans rfl; have hcz80_4 : w78.cell? ⟨gb295, 4, none⟩ = some (.int .i64 ((rd_T45 t274 t293).f4)) := (blk_cell BK295.out 4).trans rfl; have hcz80_5 : w78.cell? ⟨gb295, 5, none⟩ = some (.int .i64 ((rd_T45 t274 t293).f5)) := (blk_cell BK295.out 5).trans rfl; have hfz80_0 := blk_frozen BK295.out 0; have hfz80_1 := blk_frozen BK295.out 1; have hfz80_2 := blk_frozen BK295.out 2; have hfz80_3 := blk_frozen BK295.out 3; have hfz80_4 := blk_frozen BK295.out 4; have hfz80_5 := blk_frozen BK295.out 5) | (go_at_call 19; (with_reducible refine (history_Ahead.calls ((rd_T45 t274 t290).f0) ((rd_T45 t274 t290).f1) ((rd_T45 t274 t290).f2) ((rd_T45 t274 t290).f3) ((rd_T45 t274 t290).f4) ((rd_T45 t274 t290).f5) ((rd_T45 t274 t293).f0) ((rd_T45 t274 t293).f1) ((rd_T45 t274 t293).f2) ((rd_T45 t274 t293).f3) ((rd_T45 t274 t293).f4) ((rd_T45 t274 t293).f5) true _ A61.out).mono ?_); rintro e w81 ⟨rfl, hb⟩; have n0_ := Aside0.mk (Kd.R_below (by (with_reducible repeat (first | apply Kd.R_alloc | apply Kd.R_drewN | apply Kd.R_drew)); exact HO_10.out) hb); have n1_ := Aside0.mk (blk_below (g := gb292) (o := .cells #[.int .i64 ((rd_T45 t274 t290).f0), .bool ((rd_T45 t274 t290).f1), .int .u64 ((rd_T45 t274 t290).f2), .int .i64 ((rd_T45 t274 t290).f3), .int .i64 ((rd_T45 t274 t290).f4), .int .i64 ((rd_T45 t274 t290).f5)] 45 (0, 0)) (by (with_reducible repeat (first | refine blk_drewN ?_ _ | refine blk_drew ?_ | refine blk_alloc ?_ _)); exact BK292.out) hb); have n2_ := Aside0.mk (blk_below (g := gb295) (o := .cells #[.int .i64 ((rd_T45 t274 t293).f0), .bool ((rd_T45 t274 t293).f1), .int .u64 ((rd_T45 t274 t293).f2), .int .i64 ((rd_T45 t274 t293).f3), .int .i64 ((rd_T45 t274 t293).f4), .int .i64 ((rd_T45 t274 t293).f5)] 45 (0, 0)) (by (with_reducible repeat (first | refine blk_drewN ?_ _ | refine blk_drew ?_ | refine blk_alloc ?_ _)); exact BK295.out) hb); have n3_ := Aside0.mk (blk_below (g := gb298) (o := .cells #[.int .i64 ((rd_T45 t274 t296).f0), .bool ((rd_T45 t274 t296).f1), .int .u64 ((rd_T45 t274 t296).f2), .int .i64 ((rd_T45 t274 t296).f3), .int .i64 ((rd_T45 t274 t296).f4), .int .i64 ((rd_T45 t274 t296).f5)] 45 (0, 0)) (by (with_reducible repeat (first | refine blk_drewN ?_ _ | refine blk_drew ?_ | refine blk_alloc ?_ _)); exact BK298.out) hb); have n4_ := Aside0.mk (below_step (by with_reducible repeat (first | exact HB.out | apply below_alloc | apply pw_below_drewN | apply below_drew1 | refine below_set ?_ GE292.out | refine below_set ?_ GE295.out | refine below_set ?_ GE298.out)) hb); clear HO_10; clear BK292; clear BK295; clear BK298; clear HB; have HO_10 := n0_; have BK292 := n1_; have BK295 := n2_; have BK298 := n3_; have HB := n4_; clear n0_ n1_ n2_ n3_ n4_; (try clear hb); (try clear hb2); (try clear hk); (try clear hi); have hcz82_0 : w81.cell? ⟨gb295, 0, none⟩ = some (.int .i64 ((rd_T45 t274 t293).f0)) := (blk_cell BK295.out 0).trans rfl; have hcz82_1 : w81.cell? ⟨gb295, 1, none⟩ = some (.bool ((rd_T45 t274 t293).f1)) := (blk_cell BK295.out 1).trans rfl; have hcz82_2 : w81.cell? ⟨gb295, 2, none⟩ = some (.int .u64 ((rd_T45 t274 t293).f2)) := (blk_cell BK295.out 2).trans rfl; have hcz82_3 : w81.cell? ⟨gb295, 3, none⟩ = some (.int .i64 ((rd_T45 t274 t293).f3)) := (blk_cell BK295.out 3).trans rfl; have hcz82_4 : w81.cell? ⟨gb295, 4, none⟩ = some (.int .i64 ((rd_T45 t274 t293).f4)) := (blk_cell BK295.out 4).trans rfl; have hcz82_5 : w81.cell? ⟨gb295, 5, none⟩ = some (.int .i64 ((rd_T45 t274 t293).f5)) := (blk_cell BK295.out 5).trans rfl; have hfz82_0 := blk_frozen BK295.out 0; have hfz82_1 := blk_frozen BK295.out 1; have hfz82_2 := blk_frozen BK295.out 2; have hfz82_3 := blk_frozen BK295.out 3; have hfz82_4 := blk_frozen BK295.out 4; have hfz82_5 := blk_frozen BK295.out 5; have hcz83_0 : w81.cell? ⟨gb298, 0, none⟩ = some (.int .i64 ((rd_T45 t274 t296).f0)) := (blk_cell BK298.out 0).trans rfl; have hcz83_1 : w81.cell? ⟨gb298, 1, none⟩ = some (.bool ((rd_T45 t274 t296).f1)) := (blk_cell BK298.out 1).trans rfl; have hcz83_2 : w81.cell? ⟨gb298, 2, none⟩ = some (.int .u64 ((rd_T45 t274 t296).f2)) := (blk_cell BK298.out 2).trans rfl; have hcz83_3 : w81.cell? ⟨gb298, 3, none⟩ = some (.int .i64 ((rd_T45 t274 t296).f3)) := (blk_cell BK298.out 3).trans rfl; have hcz83_4 : w81.cell? ⟨gb298, 4, none⟩ = some (.int .i64 ((rd_T45 t274 t296).f4)) := (blk_cell BK298.out 4).trans rfl; have hcz83_5 : w81.cell? ⟨gb298, 5, none⟩ = some (.int .i64 ((rd_T45 t274 t296).f5)) := (blk_cell BK298.out 5).trans rfl; have hfz83_0 := blk_frozen BK298.out 0; have hfz83_1 := blk_frozen BK298.out 1; have hfz83_2 := blk_frozen BK298.out 2; have hfz83_3 := blk_frozen BK298.out 3; have hfz83_4 := blk_frozen BK298.out 4; have hfz83_5 := blk_frozen BK298.out 5) | (go_at_call 19; (with_reducible refine (history_Ahead.calls ((rd_T45 t274 t293).f0) ((rd_T45 t274 t293).f1) ((rd_T45 t274 t293).f2) ((rd_T45 t274 t293).f3) ((rd_T45 t274 t293).f4) ((rd_T45 t274 t293).f5) ((rd_T45 t274 t296).f0) ((rd_T45 t274 t296).f1) ((rd_T45 t274 t296).f2) ((rd_T45 t274 t296).f3) ((rd_T45 t274 t296).f4) ((rd_T45 t274 t296).f5) true _ A63.out).mono ?_); rintro e w84 ⟨rfl, hb⟩; have n0_ := Aside0.mk (Kd.R_below (by (with_reducible repeat (first | apply Kd.R_alloc | apply Kd.R_drewN | apply Kd.R_drew)); exact HO_10.out) hb); have n1_ := Aside0.mk (blk_below (g := gb292) (o := .cells #[.int .i64 ((rd_T45 t274 t290).f0), .bool ((rd_T45 t274 t290).f1), .int .u64 ((rd_T45 t274 t290).f2), .int .i64 ((rd_T45 t274 t290).f3), .int .i64 ((rd_T45 t274 t290).f4), .int .i64 ((rd_T45 t274 t290).f5)] 45 (0, 0)) (by (with_reducible repeat (first | refine blk_drewN ?_ _ | refine blk_drew ?_ | refine blk_alloc ?_ _)); exact BK292.out) hb); have n2_ := Aside0.mk (blk_below (g := gb295) (o := .cells #[.int .i64 ((rd_T45 t274 t293).f0), .bool ((rd_T45 t274 t293).f1), .int .u64 ((rd_T45 t274 t293).f2), .int .i64 ((rd_T45 t274 t293).f3), .int .i64 ((rd_T45 t274 t293).f4), .int .i64 ((rd_T45 t274 t293).f5)] 45 (0, 0)) (by (with_reducible repeat (first | refine blk_drewN ?_ _ | refine blk_drew ?_ | refine blk_alloc ?_ _)); exact BK295.out) hb); have n3_ := Aside0.mk (blk_below (g := gb298) (o := .cells #[.int .i64 ((rd_T45 t274 t296).f0), .bool ((rd_T45 t274 t296).f1), .int .u64 ((rd_T45 t274 t296).f2), .int .i64 ((rd_T45 t274 t296).f3), .int .i64 ((rd_T45 t274 t296).f4), .int .i64 ((rd_T45 t274 t296).f5)] 45 (0, 0)) (by (with_reducible repeat (first | refine blk_drewN ?_ _ | refine blk_drew ?_ | refine blk_alloc ?_ _)); exact BK298.out) hb); have n4_ := Aside0.mk (below_step (by with_reducible repeat (first | exact HB.out | apply below_alloc | apply pw_below_drewN | apply below_drew1 | refine below_set ?_ GE292.out | refine below_set ?_ GE295.out | refine below_set ?_ GE298.out)) hb); clear HO_10; clear BK292; clear BK295; clear BK298; clear HB; have HO_10 := n0_; have BK292 := n1_; have BK295 := n2_; have BK298 := n3_; have HB := n4_; clear n0_ n1_ n2_ n3_ n4_; (try clear hb); (try clear hb2); (try clear hk); (try clear hi); have hcz85_0 : w84.cell? ⟨gb292, 0, none⟩ = some (.int .i64 ((rd_T45 t274 t290).f0)) := (blk_cell BK292.out 0).trans rfl; have hcz85_1 : w84.cell? ⟨gb292, 1, none⟩ = some (.bool ((rd_T45 t274 t290).f1)) := (blk_cell BK292.out 1).trans rfl; have hcz85_2 : w84.cell? ⟨gb292, 2, none⟩ = some (.int .u64 ((rd_T45 t274 t290).f2)) := (blk_cell BK292.out 2).trans rfl; have hcz85_3 : w84.cell? ⟨gb292, 3, none⟩ = some (.int .i64 ((rd_T45 t274 t290).f3)) := (blk_cell BK292.out 3).trans rfl; have hcz85_4 : w84.cell? ⟨gb292, 4, none⟩ = some (.int .i64 ((rd_T45 t274 t290).f4)) := (blk_cell BK292.out 4).trans rfl; have hcz85_5 : w84.cell? ⟨gb292, 5, none⟩ = some (.int .i64 ((rd_T45 t274 t290).f5)) := (blk_cell BK292.out 5).trans rfl; have hfz85_0 := blk_frozen BK292.out 0; have hfz85_1 := blk_frozen BK292.out 1; have hfz85_2 := blk_frozen BK292.out 2; have hfz85_3 := blk_frozen BK292.out 3; have hfz85_4 := blk_frozen BK292.out 4; have hfz85_5 := blk_frozen BK292.out 5; have hcz86_0 : w84.cell? ⟨gb298, 0, none⟩ = some (.int .i64 ((rd_T45 t274 t296).f0)) := (blk_cell BK298.out 0).trans rfl; have hcz86_1 : w84.cell? ⟨gb298, 1, none⟩ = some (.bool ((rd_T45 t274 t296).f1)) := (blk_cell BK298.out 1).trans rfl; have hcz86_2 : w84.cell? ⟨gb298, 2, none⟩ = some (.int .u64 ((rd_T45 t274 t296).f2)) := (blk_cell BK298.out 2).trans rfl; have hcz86_3 : w84.cell? ⟨gb298, 3, none⟩ = some (.int .i64 ((rd_T45 t274 t296).f3)) := (blk_cell BK298.out 3).trans rfl; have hcz86_4 : w84.cell? ⟨gb298, 4, none⟩ = some (.int .i64 ((rd_T45 t274 t296).f4)) := (blk_cell BK298.out 4).trans rfl; have hcz86_5 : w84.cell? ⟨gb298, 5, none⟩ = some (.int .i64 ((rd_T45 t274 t296).f5)) := (blk_cell BK298.out 5).trans rfl; have hfz86_0 := blk_frozen BK298.out 0; have hfz86_1 := blk_frozen BK298.out 1; have hfz86_2 := blk_frozen BK298.out 2; have hfz86_3 := blk_frozen BK298.out 3; have hfz86_4 := blk_frozen BK298.out 4; have hfz86_5 := blk_frozen BK298.out 5) | (go_at_call 19; (with_reducible refine (history_Ahead.calls ((rd_T45 t274 t290).f0) ((rd_T45 t274 t290).f1) ((rd_T45 t274 t290).f2) ((rd_T45 t274 t290).f3) ((rd_T45 t274 t290).f4) ((rd_T45 t274 t290).f5) ((rd_T45 t274 t296).f0) ((rd_T45 t274 t296).f1) ((rd_T45 t274 t296).f2) ((rd_T45 t274 t296).f3) ((rd_T45 t274 t296).f4) ((rd_T45 t274 t296).f5) t302 _ A65.out).mono ?_); rintro e w87 ⟨rfl, hb⟩; have n0_ := Aside0.mk (Kd.R_below (by (with_reducible repeat (first | apply Kd.R_alloc | apply Kd.R_drewN | apply Kd.R_drew)); exact HO_10.out) hb); have n1_ := Aside0.mk (blk_below (g := gb292) (o := .cells #[.int .i64 ((rd_T45 t274 t290).f0), .bool ((rd_T45 t274 t290).f1), .int .u64 ((rd_T45 t274 t290).f2), .int .i64 ((rd_T45 t274 t290).f3), .int .i64 ((rd_T45 t274 t290).f4), .int .i64 ((rd_T45 t274 t290).f5)] 45 (0, 0)) (by (with_reducible repeat (first | refine blk_drewN ?_ _ | refine blk_drew ?_ | refine blk_alloc ?_ _)); exact BK292.out) hb); have n2_ := Aside0.mk (blk_below (g := gb295) (o := .cells #[.int .i64 ((rd_T45 t274 t293).f0), .bool ((rd_T45 t274 t293).f1), .int .u64 ((rd_T45 t274 t293).f2), .int .i64 ((rd_T45 t274 t293).f3), .int .i64 ((rd_T45 t274 t293).f4), .int .i64 ((rd_T45 t274 t293).f5)] 45 (0, 0)) (by (with_reducible repeat (first | refine blk_drewN ?_ _ | refine blk_drew ?_ | refine blk_alloc ?_ _)); exact BK295.out) hb); have n3_ := Aside0.mk (blk_below (g := gb298) (o := .cells #[.int .i64 ((rd_T45 t274 t296).f0), .bool ((rd_T45 t274 t296).f1), .int .u64 ((rd_T45 t274 t296).f2), .int .i64 ((rd_T45 t274 t296).f3), .int .i64 ((rd_T45 t274 t296).f4), .int .i64 ((rd_T45 t274 t296).f5)] 45 (0, 0)) (by (with_reducible repeat (first | refine blk_drewN ?_ _ | refine blk_drew ?_ | refine blk_alloc ?_ _)); exact BK298.out) hb); have n4_ := Aside0.mk (below_step (by with_reducible repeat (first | exact HB.out | apply below_alloc | apply pw_below_drewN | apply below_drew1 | refine below_set ?_ GE292.out | refine below_set ?_ GE295.out | refine below_set ?_ GE298.out)) hb); clear HO_10; clear BK292; clear BK295; clear BK298; clear HB; have HO_10 := n0_; have BK292 := n1_; have BK295 := n2_; have BK298 := n3_; have HB := n4_; clear n0_ n1_ n2_ n3_ n4_; (try clear hb); (try clear hb2); (try clear hk); (try clear hi)))
                   go_ret
                   exact ⟨by first | rfl | (simp [errW_none, errW_some] <;> rfl) | (simp [*, errW_none, errW_some] <;> rfl), by repeat (first | (with_reducible first | exact HB.out | apply below_alloc | apply pw_below_drewN | apply below_drew1 | refine below_set ?_ GE292.out | refine below_set ?_ GE295.out | refine below_set ?_ GE298.out) | exact HB.out)⟩
                  ·replace c64 := Bool.eq_false_iff.mpr c64
                   subst c64
                   have H1 : (some true) = some r := by rw [if_neg (show ¬ (false = true) by decide)] at H; exact H
                   clear H
                   have H := H1
                   clear H1
                   obtain rfl := Option.some.inj H
                   go_wp2_with (first | ((with_reducible refine gate_callee (f := 19) rfl ?_); refine goesL_ (some 125) rfl rfl Try.func19 (by kernel_rfl) rfl #[.agg #[.int .i64 ((rd_T45 t274 t290).f0), .bool ((rd_T45 t274 t290).f1), .int .u64 ((rd_T45 t274 t290).f2), .int .i64 ((rd_T45 t274 t290).f3), .int .i64 ((rd_T45 t274 t290).f4), .int .i64 ((rd_T45 t274 t290).f5)], .agg #[.int .i64 ((rd_T45 t274 t290).f0), .bool ((rd_T45 t274 t290).f1), .int .u64 ((rd_T45 t274 t290).f2), .int .i64 ((rd_T45 t274 t290).f3), .int .i64 ((rd_T45 t274 t290).f4), .int .i64 ((rd_T45 t274 t290).f5)]] rfl (by first | rfl | ((try simp only [List.map_toArray, List.map_cons, List.map_nil]); first | done | rfl)) ?_; (with_reducible refine (history_Ahead.calls ((rd_T45 t274 t290).f0) ((rd_T45 t274 t290).f1) ((rd_T45 t274 t290).f2) ((rd_T45 t274 t290).f3) ((rd_T45 t274 t290).f4) ((rd_T45 t274 t290).f5) ((rd_T45 t274 t290).f0) ((rd_T45 t274 t290).f1) ((rd_T45 t274 t290).f2) ((rd_T45 t274 t290).f3) ((rd_T45 t274 t290).f4) ((rd_T45 t274 t290).f5) false _ A59.out).mono ?_); rintro e w100 ⟨rfl, hb⟩; refine ⟨_, rfl, ?_⟩; have n0_ := Aside0.mk (Kd.R_below (by (with_reducible repeat (first | apply Kd.R_alloc | apply Kd.R_drewN | apply Kd.R_drew)); exact (Kd.R_mono (Kd.R_far (p := ⟨gb298, 5, none⟩) (Kd.R_far (p := ⟨gb298, 4, none⟩) (Kd.R_far (p := ⟨gb298, 3, none⟩) (Kd.R_far (p := ⟨gb298, 2, none⟩) (Kd.R_far (p := ⟨gb298, 1, none⟩) (Kd.R_far (p := ⟨gb298, 0, none⟩) (Kd.R_mono HO_10.out (fun k_ hk => (⟨hk, hk.2⟩ : _ ∧ k_ ≠ gb298))) (fun _ hk => hk.2) (.int .i64 ((rd_T45 t274 t296).f0))) (fun _ hk => hk.2) (.bool ((rd_T45 t274 t296).f1))) (fun _ hk => hk.2) (.int .u64 ((rd_T45 t274 t296).f2))) (fun _ hk => hk.2) (.int .i64 ((rd_T45 t274 t296).f3))) (fun _ hk => hk.2) (.int .i64 ((rd_T45 t274 t296).f4))) (fun _ hk => hk.2) (.int .i64 ((rd_T45 t274 t296).f5))) (fun _ h_ => h_.1))) hb); have n1_ := Aside0.mk (blk_below (g := gb292) (o := .cells #[.int .i64 ((rd_T45 t274 t290).f0), .bool ((rd_T45 t274 t290).f1), .int .u64 ((rd_T45 t274 t290).f2), .int .i64 ((rd_T45 t274 t290).f3), .int .i64 ((rd_T45 t274 t290).f4), .int .i64 ((rd_T45 t274 t290).f5)] 45 (0, 0)) (by (with_reducible repeat (first | refine blk_drewN ?_ _ | refine blk_drew ?_ | refine blk_alloc ?_ _)); refine blk_far ?_ NB292_298.out _; (with_reducible repeat (first | refine blk_drewN ?_ _ | refine blk_drew ?_ | refine blk_alloc ?_ _)); refine blk_far ?_ NB292_298.out _; (with_reducible repeat (first | refine blk_drewN ?_ _ | refine blk_drew ?_ | refine blk_alloc ?_ _)); refine blk_far ?_ NB292_298.out _; (with_reducible repeat (first | refine blk_drewN ?_ _ | refine blk_drew ?_ | refine blk_alloc ?_ _)); refine blk_far ?_ NB292_298.out _; (with_reducible repeat (first | refine blk_drewN ?_ _ | refine blk_drew ?_ | refine blk_alloc ?_ _)); refine blk_far ?_ NB292_298.out _; (with_reducible repeat (first | refine blk_drewN ?_ _ | refine blk_drew ?_ | refine blk_alloc ?_ _)); refine blk_far ?_ NB292_298.out _; (with_reducible repeat (first | refine blk_drewN ?_ _ | refine blk_drew ?_ | refine blk_alloc ?_ _)); exact BK292.out) hb); have n2_ := Aside0.mk (blk_below (g := gb295) (o := .cells #[.int .i64 ((rd_T45 t274 t293).f0), .bool ((rd_T45 t274 t293).f1), .int .u64 ((rd_T45 t274 t293).f2), .int .i64 ((rd_T45 t274 t293).f3), .int .i64 ((rd_T45 t274 t293).f4), .int .i64 ((rd_T45 t274 t293).f5)] 45 (0, 0)) (by (with_reducible repeat (first | refine blk_drewN ?_ _ | refine blk_drew ?_ | refine blk_alloc ?_ _)); refine blk_far ?_ NB295_298.out _; (with_reducible repeat (first | refine blk_drewN ?_ _ | refine blk_drew ?_ | refine blk_alloc ?_ _)); refine blk_far ?_ NB295_298.out _; (with_reducible repeat (first | refine blk_drewN ?_ _ | refine blk_drew ?_ | refine blk_alloc ?_ _)); refine blk_far ?_ NB295_298.out _; (with_reducible repeat (first | refine blk_drewN ?_ _ | refine blk_drew ?_ | refine blk_alloc ?_ _)); refine blk_far ?_ NB295_298.out _; (with_reducible repeat (first | refine blk_drewN ?_ _ | refine blk_drew ?_ | refine blk_alloc ?_ _)); refine blk_far ?_ NB295_298.out _; (with_reducible repeat (first | refine blk_drewN ?_ _ | refine blk_drew ?_ | refine blk_alloc ?_ _)); refine blk_far ?_ NB295_298.out _; (with_reducible repeat (first | refine blk_drewN ?_ _ | refine blk_drew ?_ | refine blk_alloc ?_ _)); exact BK295.out) hb); have n3_ := Aside0.mk (blk_below (g := gb298) (o := .cells #[.int .i64 ((rd_T45 t274 t296).f0), .bool ((rd_T45 t274 t296).f1), .int .u64 ((rd_T45 t274 t296).f2), .int .i64 ((rd_T45 t274 t296).f3), .int .i64 ((rd_T45 t274 t296).f4), .int .i64 ((rd_T45 t274 t296).f5)] 45 (0, 0)) (by (with_reducible repeat (first | refine blk_drewN ?_ _ | refine blk_drew ?_ | refine blk_alloc ?_ _)); refine blk_put (cs := #[.int .i64 ((rd_T45 t274 t296).f0), .bool ((rd_T45 t274 t296).f1), .int .u64 ((rd_T45 t274 t296).f2), .int .i64 ((rd_T45 t274 t296).f3), .int .i64 ((rd_T45 t274 t296).f4), .int .i64 0]) ?_ 5 _ rfl; (with_reducible repeat (first | refine blk_drewN ?_ _ | refine blk_drew ?_ | refine blk_alloc ?_ _)); refine blk_put (cs := #[.int .i64 ((rd_T45 t274 t296).f0), .bool ((rd_T45 t274 t296).f1), .int .u64 ((rd_T45 t274 t296).f2), .int .i64 ((rd_T45 t274 t296).f3), .int .i64 0, .int .i64 0]) ?_ 4 _ rfl; (with_reducible repeat (first | refine blk_drewN ?_ _ | refine blk_drew ?_ | refine blk_alloc ?_ _)); refine blk_put (cs := #[.int .i64 ((rd_T45 t274 t296).f0), .bool ((rd_T45 t274 t296).f1), .int .u64 ((rd_T45 t274 t296).f2), .int .i64 0, .int .i64 0, .int .i64 0]) ?_ 3 _ rfl; (with_reducible repeat (first | refine blk_drewN ?_ _ | refine blk_drew ?_ | refine blk_alloc ?_ _)); refine blk_put (cs := #[.int .i64 ((rd_T45 t274 t296).f0), .bool ((rd_T45 t274 t296).f1), .int .u64 0, .int .i64 0, .int .i64 0, .int .i64 0]) ?_ 2 _ rfl; (with_reducible repeat (first | refine blk_drewN ?_ _ | refine blk_drew ?_ | refine blk_alloc ?_ _)); refine blk_put (cs := #[.int .i64 ((rd_T45 t274 t296).f0), .bool false, .int .u64 0, .int .i64 0, .int .i64 0, .int .i64 0]) ?_ 1 _ rfl; (with_reducible repeat (first | refine blk_drewN ?_ _ | refine blk_drew ?_ | refine blk_alloc ?_ _)); refine blk_put (cs := #[.int .i64 0, .bool false, .int .u64 0, .int .i64 0, .int .i64 0, .int .i64 0]) ?_ 0 _ rfl; (with_reducible repeat (first | refine blk_drewN ?_ _ | refine blk_drew ?_ | refine blk_alloc ?_ _)); exact BK298.out) hb); have n4_ := Aside0.mk (below_step (by with_reducible repeat (first | exact HB.out | apply below_alloc | apply pw_below_drewN | apply below_drew1 | refine below_set ?_ GE292.out | refine below_set ?_ GE295.out | refine below_set ?_ GE298.out)) hb); clear HO_10; clear BK292; clear BK295; clear BK298; clear HB; have HO_10 := n0_; have BK292 := n1_; have BK295 := n2_; have BK298 := n3_; have HB := n4_; clear n0_ n1_ n2_ n3_ n4_; (try clear hb); (try clear hb2); (try clear hk); (try clear hi); have hcz101_0 : w100.cell? ⟨gb292, 0, none⟩ = some (.int .i64 ((rd_T45 t274 t290).f0)) := (blk_cell BK292.out 0).trans rfl; have hcz101_1 : w100.cell? ⟨gb292, 1, none⟩ = some (.bool ((rd_T45 t274 t290).f1)) := (blk_cell BK292.out 1).trans rfl; have hcz101_2 : w100.cell? ⟨gb292, 2, none⟩ = some (.int .u64 ((rd_T45 t274 t290).f2)) := (blk_cell BK292.out 2).trans rfl; have hcz101_3 : w100.cell? ⟨gb292, 3, none⟩ = some (.int .i64 ((rd_T45 t274 t290).f3)) := (blk_cell BK292.out 3).trans rfl; have hcz101_4 : w100.cell? ⟨gb292, 4, none⟩ = some (.int .i64 ((rd_T45 t274 t290).f4)) := (blk_cell BK292.out 4).trans rfl; have hcz101_5 : w100.cell? ⟨gb292, 5, none⟩ = some (.int .i64 ((rd_T45 t274 t290).f5)) := (blk_cell BK292.out 5).trans rfl; have hfz101_0 := blk_frozen BK292.out 0; have hfz101_1 := blk_frozen BK292.out 1; have hfz101_2 := blk_frozen BK292.out 2; have hfz101_3 := blk_frozen BK292.out 3; have hfz101_4 := blk_frozen BK292.out 4; have hfz101_5 := blk_frozen BK292.out 5; have hcz102_0 : w100.cell? ⟨gb295, 0, none⟩ = some (.int .i64 ((rd_T45 t274 t293).f0)) := (blk_cell BK295.out 0).trans rfl; have hcz102_1 : w100.cell? ⟨gb295, 1, none⟩ = some (.bool ((rd_T45 t274 t293).f1)) := (blk_cell BK295.out 1).trans rfl; have hcz102_2 : w100.cell? ⟨gb295, 2, none⟩ = some (.int .u64 ((rd_T45 t274 t293).f2)) := (blk_cell BK295.out 2).trans rfl; have hcz102_3 : w100.cell? ⟨gb295, 3, none⟩ = some (.int .i64 ((rd_T45 t274 t293).f3)) := (blk_cell BK295.out 3).trans rfl; have hcz102_4 : w100.cell? ⟨gb295, 4, none⟩ = some (.int .i64 ((rd_T45 t274 t293).f4)) := (blk_cell BK295.out 4).trans rfl; have hcz102_5 : w100.cell? ⟨gb295, 5, none⟩ = some (.int .i64 ((rd_T45 t274 t293).f5)) := (blk_cell BK295.out 5).trans rfl; have hfz102_0 := blk_frozen BK295.out 0; have hfz102_1 := blk_frozen BK295.out 1; have hfz102_2 := blk_frozen BK295.out 2; have hfz102_3 := blk_frozen BK295.out 3; have hfz102_4 := blk_frozen BK295.out 4; have hfz102_5 := blk_frozen BK295.out 5) | (go_at_call 19; (with_reducible refine (history_Ahead.calls ((rd_T45 t274 t290).f0) ((rd_T45 t274 t290).f1) ((rd_T45 t274 t290).f2) ((rd_T45 t274 t290).f3) ((rd_T45 t274 t290).f4) ((rd_T45 t274 t290).f5) ((rd_T45 t274 t293).f0) ((rd_T45 t274 t293).f1) ((rd_T45 t274 t293).f2) ((rd_T45 t274 t293).f3) ((rd_T45 t274 t293).f4) ((rd_T45 t274 t293).f5) true _ A61.out).mono ?_); rintro e w103 ⟨rfl, hb⟩; have n0_ := Aside0.mk (Kd.R_below (by (with_reducible repeat (first | apply Kd.R_alloc | apply Kd.R_drewN | apply Kd.R_drew)); exact HO_10.out) hb); have n1_ := Aside0.mk (blk_below (g := gb292) (o := .cells #[.int .i64 ((rd_T45 t274 t290).f0), .bool ((rd_T45 t274 t290).f1), .int .u64 ((rd_T45 t274 t290).f2), .int .i64 ((rd_T45 t274 t290).f3), .int .i64 ((rd_T45 t274 t290).f4), .int .i64 ((rd_T45 t274 t290).f5)] 45 (0, 0)) (by (with_reducible repeat (first | refine blk_drewN ?_ _ | refine blk_drew ?_ | refine blk_alloc ?_ _)); exact BK292.out) hb); have n2_ := Aside0.mk (blk_below (g := gb295) (o := .cells #[.int .i64 ((rd_T45 t274 t293).f0), .bool ((rd_T45 t274 t293).f1), .int .u64 ((rd_T45 t274 t293).f2), .int .i64 ((rd_T45 t274 t293).f3), .int .i64 ((rd_T45 t274 t293).f4), .int .i64 ((rd_T45 t274 t293).f5)] 45 (0, 0)) (by (with_reducible repeat (first | refine blk_drewN ?_ _ | refine blk_drew ?_ | refine blk_alloc ?_ _)); exact BK295.out) hb); have n3_ := Aside0.mk (blk_below (g := gb298) (o := .cells #[.int .i64 ((rd_T45 t274 t296).f0), .bool ((rd_T45 t274 t296).f1), .int .u64 ((rd_T45 t274 t296).f2), .int .i64 ((rd_T45 t274 t296).f3), .int .i64 ((rd_T45 t274 t296).f4), .int .i64 ((rd_T45 t274 t296).f5)] 45 (0, 0)) (by (with_reducible repeat (first | refine blk_drewN ?_ _ | refine blk_drew ?_ | refine blk_alloc ?_ _)); exact BK298.out) hb); have n4_ := Aside0.mk (below_step (by with_reducible repeat (first | exact HB.out | apply below_alloc | apply pw_below_drewN | apply below_drew1 | refine below_set ?_ GE292.out | refine below_set ?_ GE295.out | refine below_set ?_ GE298.out)) hb); clear HO_10; clear BK292; clear BK295; clear BK298; clear HB; have HO_10 := n0_; have BK292 := n1_; have BK295 := n2_; have BK298 := n3_; have HB := n4_; clear n0_ n1_ n2_ n3_ n4_; (try clear hb); (try clear hb2); (try clear hk); (try clear hi); have hcz104_0 : w103.cell? ⟨gb295, 0, none⟩ = some (.int .i64 ((rd_T45 t274 t293).f0)) := (blk_cell BK295.out 0).trans rfl; have hcz104_1 : w103.cell? ⟨gb295, 1, none⟩ = some (.bool ((rd_T45 t274 t293).f1)) := (blk_cell BK295.out 1).trans rfl; have hcz104_2 : w103.cell? ⟨gb295, 2, none⟩ = some (.int .u64 ((rd_T45 t274 t293).f2)) := (blk_cell BK295.out 2).trans rfl; have hcz104_3 : w103.cell? ⟨gb295, 3, none⟩ = some (.int .i64 ((rd_T45 t274 t293).f3)) := (blk_cell BK295.out 3).trans rfl; have hcz104_4 : w103.cell? ⟨gb295, 4, none⟩ = some (.int .i64 ((rd_T45 t274 t293).f4)) := (blk_cell BK295.out 4).trans rfl; have hcz104_5 : w103.cell? ⟨gb295, 5, none⟩ = some (.int .i64 ((rd_T45 t274 t293).f5)) := (blk_cell BK295.out 5).trans rfl; have hfz104_0 := blk_frozen BK295.out 0; have hfz104_1 := blk_frozen BK295.out 1; have hfz104_2 := blk_frozen BK295.out 2; have hfz104_3 := blk_frozen BK295.out 3; have hfz104_4 := blk_frozen BK295.out 4; have hfz104_5 := blk_frozen BK295.out 5; have hcz105_0 : w103.cell? ⟨gb298, 0, none⟩ = some (.int .i64 ((rd_T45 t274 t296).f0)) := (blk_cell BK298.out 0).trans rfl; have hcz105_1 : w103.cell? ⟨gb298, 1, none⟩ = some (.bool ((rd_T45 t274 t296).f1)) := (blk_cell BK298.out 1).trans rfl; have hcz105_2 : w103.cell? ⟨gb298, 2, none⟩ = some (.int .u64 ((rd_T45 t274 t296).f2)) := (blk_cell BK298.out 2).trans rfl; have hcz105_3 : w103.cell? ⟨gb298, 3, none⟩ = some (.int .i64 ((rd_T45 t274 t296).f3)) := (blk_cell BK298.out 3).trans rfl; have hcz105_4 : w103.cell? ⟨gb298, 4, none⟩ = some (.int .i64 ((rd_T45 t274 t296).f4)) := (blk_cell BK298.out 4).trans rfl; have hcz105_5 : w103.cell? ⟨gb298, 5, none⟩ = some (.int .i64 ((rd_T45 t274 t296).f5)) := (blk_cell BK298.out 5).trans rfl; have hfz105_0 := blk_frozen BK298.out 0; have hfz105_1 := blk_frozen BK298.out 1; have hfz105_2 := blk_frozen BK298.out 2; have hfz105_3 := blk_frozen BK298.out 3; have hfz105_4 := blk_frozen BK298.out 4; have hfz105_5 := blk_frozen BK298.out 5) | (go_at_call 19; (with_reducible refine (history_Ahead.calls ((rd_T45 t274 t293).f0) ((rd_T45 t274 t293).f1) ((rd_T45 t274 t293).f2) ((rd_T45 t274 t293).f3) ((rd_T45 t274 t293).f4) ((rd_T45 t274 t293).f5) ((rd_T45 t274 t296).f0) ((rd_T45 t274 t296).f1) ((rd_T45 t274 t296).f2) ((rd_T45 t274 t296).f3) ((rd_T45 t274 t296).f4) ((rd_T45 t274 t296).f5) false _ A63.out).mono ?_); rintro e w106 ⟨rfl, hb⟩; have n0_ := Aside0.mk (Kd.R_below (by (with_reducible repeat (first | apply Kd.R_alloc | apply Kd.R_drewN | apply Kd.R_drew)); exact HO_10.out) hb); have n1_ := Aside0.mk (blk_below (g := gb292) (o := .cells #[.int .i64 ((rd_T45 t274 t290).f0), .bool ((rd_T45 t274 t290).f1), .int .u64 ((rd_T45 t274 t290).f2), .int .i64 ((rd_T45 t274 t290).f3), .int .i64 ((rd_T45 t274 t290).f4), .int .i64 ((rd_T45 t274 t290).f5)] 45 (0, 0)) (by (with_reducible repeat (first | refine blk_drewN ?_ _ | refine blk_drew ?_ | refine blk_alloc ?_ _)); exact BK292.out) hb); have n2_ := Aside0.mk (blk_below (g := gb295) (o := .cells #[.int .i64 ((rd_T45 t274 t293).f0), .bool ((rd_T45 t274 t293).f1), .int .u64 ((rd_T45 t274 t293).f2), .int .i64 ((rd_T45 t274 t293).f3), .int .i64 ((rd_T45 t274 t293).f4), .int .i64 ((rd_T45 t274 t293).f5)] 45 (0, 0)) (by (with_reducible repeat (first | refine blk_drewN ?_ _ | refine blk_drew ?_ | refine blk_alloc ?_ _)); exact BK295.out) hb); have n3_ := Aside0.mk (blk_below (g := gb298) (o := .cells #[.int .i64 ((rd_T45 t274 t296).f0), .bool ((rd_T45 t274 t296).f1), .int .u64 ((rd_T45 t274 t296).f2), .int .i64 ((rd_T45 t274 t296).f3), .int .i64 ((rd_T45 t274 t296).f4), .int .i64 ((rd_T45 t274 t296).f5)] 45 (0, 0)) (by (with_reducible repeat (first | refine blk_drewN ?_ _ | refine blk_drew ?_ | refine blk_alloc ?_ _)); exact BK298.out) hb); have n4_ := Aside0.mk (below_step (by with_reducible repeat (first | exact HB.out | apply below_alloc | apply pw_below_drewN | apply below_drew1 | refine below_set ?_ GE292.out | refine below_set ?_ GE295.out | refine below_set ?_ GE298.out)) hb); clear HO_10; clear BK292; clear BK295; clear BK298; clear HB; have HO_10 := n0_; have BK292 := n1_; have BK295 := n2_; have BK298 := n3_; have HB := n4_; clear n0_ n1_ n2_ n3_ n4_; (try clear hb); (try clear hb2); (try clear hk); (try clear hi)))
                   go_ret
                   exact ⟨by first | rfl | (simp [errW_none, errW_some] <;> rfl) | (simp [*, errW_none, errW_some] <;> rfl), by repeat (first | (with_reducible first | exact HB.out | apply below_alloc | apply pw_below_drewN | apply below_drew1 | refine below_set ?_ GE292.out | refine below_set ?_ GE295.out | refine below_set ?_ GE298.out) | exact HB.out)⟩
                 ·replace c62 := Bool.eq_false_iff.mpr c62
                  subst c62
                  have H1 : (some true) = some r := by rw [if_neg (show ¬ (false = true) by decide)] at H; exact H
                  clear H
                  have H := H1
                  clear H1
                  obtain rfl := Option.some.inj H
                  go_wp2_with (first | ((with_reducible refine gate_callee (f := 19) rfl ?_); refine goesL_ (some 125) rfl rfl Try.func19 (by kernel_rfl) rfl #[.agg #[.int .i64 ((rd_T45 t274 t290).f0), .bool ((rd_T45 t274 t290).f1), .int .u64 ((rd_T45 t274 t290).f2), .int .i64 ((rd_T45 t274 t290).f3), .int .i64 ((rd_T45 t274 t290).f4), .int .i64 ((rd_T45 t274 t290).f5)], .agg #[.int .i64 ((rd_T45 t274 t290).f0), .bool ((rd_T45 t274 t290).f1), .int .u64 ((rd_T45 t274 t290).f2), .int .i64 ((rd_T45 t274 t290).f3), .int .i64 ((rd_T45 t274 t290).f4), .int .i64 ((rd_T45 t274 t290).f5)]] rfl (by first | rfl | ((try simp only [List.map_toArray, List.map_cons, List.map_nil]); first | done | rfl)) ?_; (with_reducible refine (history_Ahead.calls ((rd_T45 t274 t290).f0) ((rd_T45 t274 t290).f1) ((rd_T45 t274 t290).f2) ((rd_T45 t274 t290).f3) ((rd_T45 t274 t290).f4) ((rd_T45 t274 t290).f5) ((rd_T45 t274 t290).f0) ((rd_T45 t274 t290).f1) ((rd_T45 t274 t290).f2) ((rd_T45 t274 t290).f3) ((rd_T45 t274 t290).f4) ((rd_T45 t274 t290).f5) false _ A59.out).mono ?_); rintro e w119 ⟨rfl, hb⟩; refine ⟨_, rfl, ?_⟩; have n0_ := Aside0.mk (Kd.R_below (by (with_reducible repeat (first | apply Kd.R_alloc | apply Kd.R_drewN | apply Kd.R_drew)); exact (Kd.R_mono (Kd.R_far (p := ⟨gb298, 5, none⟩) (Kd.R_far (p := ⟨gb298, 4, none⟩) (Kd.R_far (p := ⟨gb298, 3, none⟩) (Kd.R_far (p := ⟨gb298, 2, none⟩) (Kd.R_far (p := ⟨gb298, 1, none⟩) (Kd.R_far (p := ⟨gb298, 0, none⟩) (Kd.R_mono HO_10.out (fun k_ hk => (⟨hk, hk.2⟩ : _ ∧ k_ ≠ gb298))) (fun _ hk => hk.2) (.int .i64 ((rd_T45 t274 t296).f0))) (fun _ hk => hk.2) (.bool ((rd_T45 t274 t296).f1))) (fun _ hk => hk.2) (.int .u64 ((rd_T45 t274 t296).f2))) (fun _ hk => hk.2) (.int .i64 ((rd_T45 t274 t296).f3))) (fun _ hk => hk.2) (.int .i64 ((rd_T45 t274 t296).f4))) (fun _ hk => hk.2) (.int .i64 ((rd_T45 t274 t296).f5))) (fun _ h_ => h_.1))) hb); have n1_ := Aside0.mk (blk_below (g := gb292) (o := .cells #[.int .i64 ((rd_T45 t274 t290).f0), .bool ((rd_T45 t274 t290).f1), .int .u64 ((rd_T45 t274 t290).f2), .int .i64 ((rd_T45 t274 t290).f3), .int .i64 ((rd_T45 t274 t290).f4), .int .i64 ((rd_T45 t274 t290).f5)] 45 (0, 0)) (by (with_reducible repeat (first | refine blk_drewN ?_ _ | refine blk_drew ?_ | refine blk_alloc ?_ _)); refine blk_far ?_ NB292_298.out _; (with_reducible repeat (first | refine blk_drewN ?_ _ | refine blk_drew ?_ | refine blk_alloc ?_ _)); refine blk_far ?_ NB292_298.out _; (with_reducible repeat (first | refine blk_drewN ?_ _ | refine blk_drew ?_ | refine blk_alloc ?_ _)); refine blk_far ?_ NB292_298.out _; (with_reducible repeat (first | refine blk_drewN ?_ _ | refine blk_drew ?_ | refine blk_alloc ?_ _)); refine blk_far ?_ NB292_298.out _; (with_reducible repeat (first | refine blk_drewN ?_ _ | refine blk_drew ?_ | refine blk_alloc ?_ _)); refine blk_far ?_ NB292_298.out _; (with_reducible repeat (first | refine blk_drewN ?_ _ | refine blk_drew ?_ | refine blk_alloc ?_ _)); refine blk_far ?_ NB292_298.out _; (with_reducible repeat (first | refine blk_drewN ?_ _ | refine blk_drew ?_ | refine blk_alloc ?_ _)); exact BK292.out) hb); have n2_ := Aside0.mk (blk_below (g := gb295) (o := .cells #[.int .i64 ((rd_T45 t274 t293).f0), .bool ((rd_T45 t274 t293).f1), .int .u64 ((rd_T45 t274 t293).f2), .int .i64 ((rd_T45 t274 t293).f3), .int .i64 ((rd_T45 t274 t293).f4), .int .i64 ((rd_T45 t274 t293).f5)] 45 (0, 0)) (by (with_reducible repeat (first | refine blk_drewN ?_ _ | refine blk_drew ?_ | refine blk_alloc ?_ _)); refine blk_far ?_ NB295_298.out _; (with_reducible repeat (first | refine blk_drewN ?_ _ | refine blk_drew ?_ | refine blk_alloc ?_ _)); refine blk_far ?_ NB295_298.out _; (with_reducible repeat (first | refine blk_drewN ?_ _ | refine blk_drew ?_ | refine blk_alloc ?_ _)); refine blk_far ?_ NB295_298.out _; (with_reducible repeat (first | refine blk_drewN ?_ _ | refine blk_drew ?_ | refine blk_alloc ?_ _)); refine blk_far ?_ NB295_298.out _; (with_reducible repeat (first | refine blk_drewN ?_ _ | refine blk_drew ?_ | refine blk_alloc ?_ _)); refine blk_far ?_ NB295_298.out _; (with_reducible repeat (first | refine blk_drewN ?_ _ | refine blk_drew ?_ | refine blk_alloc ?_ _)); refine blk_far ?_ NB295_298.out _; (with_reducible repeat (first | refine blk_drewN ?_ _ | refine blk_drew ?_ | refine blk_alloc ?_ _)); exact BK295.out) hb); have n3_ := Aside0.mk (blk_below (g := gb298) (o := .cells #[.int .i64 ((rd_T45 t274 t296).f0), .bool ((rd_T45 t274 t296).f1), .int .u64 ((rd_T45 t274 t296).f2), .int .i64 ((rd_T45 t274 t296).f3), .int .i64 ((rd_T45 t274 t296).f4), .int .i64 ((rd_T45 t274 t296).f5)] 45 (0, 0)) (by (with_reducible repeat (first | refine blk_drewN ?_ _ | refine blk_drew ?_ | refine blk_alloc ?_ _)); refine blk_put (cs := #[.int .i64 ((rd_T45 t274 t296).f0), .bool ((rd_T45 t274 t296).f1), .int .u64 ((rd_T45 t274 t296).f2), .int .i64 ((rd_T45 t274 t296).f3), .int .i64 ((rd_T45 t274 t296).f4), .int .i64 0]) ?_ 5 _ rfl; (with_reducible repeat (first | refine blk_drewN ?_ _ | refine blk_drew ?_ | refine blk_alloc ?_ _)); refine blk_put (cs := #[.int .i64 ((rd_T45 t274 t296).f0), .bool ((rd_T45 t274 t296).f1), .int .u64 ((rd_T45 t274 t296).f2), .int .i64 ((rd_T45 t274 t296).f3), .int .i64 0, .int .i64 0]) ?_ 4 _ rfl; (with_reducible repeat (first | refine blk_drewN ?_ _ | refine blk_drew ?_ | refine blk_alloc ?_ _)); refine blk_put (cs := #[.int .i64 ((rd_T45 t274 t296).f0), .bool ((rd_T45 t274 t296).f1), .int .u64 ((rd_T45 t274 t296).f2), .int .i64 0, .int .i64 0, .int .i64 0]) ?_ 3 _ rfl; (with_reducible repeat (first | refine blk_drewN ?_ _ | refine blk_drew ?_ | refine blk_alloc ?_ _)); refine blk_put (cs := #[.int .i64 ((rd_T45 t274 t296).f0), .bool ((rd_T45 t274 t296).f1), .int .u64 0, .int .i64 0, .int .i64 0, .int .i64 0]) ?_ 2 _ rfl; (with_reducible repeat (first | refine blk_drewN ?_ _ | refine blk_drew ?_ | refine blk_alloc ?_ _)); refine blk_put (cs := #[.int .i64 ((rd_T45 t274 t296).f0), .bool false, .int .u64 0, .int .i64 0, .int .i64 0, .int .i64 0]) ?_ 1 _ rfl; (with_reducible repeat (first | refine blk_drewN ?_ _ | refine blk_drew ?_ | refine blk_alloc ?_ _)); refine blk_put (cs := #[.int .i64 0, .bool false, .int .u64 0, .int .i64 0, .int .i64 0, .int .i64 0]) ?_ 0 _ rfl; (with_reducible repeat (first | refine blk_drewN ?_ _ | refine blk_drew ?_ | refine blk_alloc ?_ _)); exact BK298.out) hb); have n4_ := Aside0.mk (below_step (by with_reducible repeat (first | exact HB.out | apply below_alloc | apply pw_below_drewN | apply below_drew1 | refine below_set ?_ GE292.out | refine below_set ?_ GE295.out | refine below_set ?_ GE298.out)) hb); clear HO_10; clear BK292; clear BK295; clear BK298; clear HB; have HO_10 := n0_; have BK292 := n1_; have BK295 := n2_; have BK298 := n3_; have HB := n4_; clear n0_ n1_ n2_ n3_ n4_; (try clear hb); (try clear hb2); (try clear hk); (try clear hi); have hcz120_0 : w119.cell? ⟨gb292, 0, none⟩ = some (.int .i64 ((rd_T45 t274 t290).f0)) := (blk_cell BK292.out 0).trans rfl; have hcz120_1 : w119.cell? ⟨gb292, 1, none⟩ = some (.bool ((rd_T45 t274 t290).f1)) := (blk_cell BK292.out 1).trans rfl; have hcz120_2 : w119.cell? ⟨gb292, 2, none⟩ = some (.int .u64 ((rd_T45 t274 t290).f2)) := (blk_cell BK292.out 2).trans rfl; have hcz120_3 : w119.cell? ⟨gb292, 3, none⟩ = some (.int .i64 ((rd_T45 t274 t290).f3)) := (blk_cell BK292.out 3).trans rfl; have hcz120_4 : w119.cell? ⟨gb292, 4, none⟩ = some (.int .i64 ((rd_T45 t274 t290).f4)) := (blk_cell BK292.out 4).trans rfl; have hcz120_5 : w119.cell? ⟨gb292, 5, none⟩ = some (.int .i64 ((rd_T45 t274 t290).f5)) := (blk_cell BK292.out 5).trans rfl; have hfz120_0 := blk_frozen BK292.out 0; have hfz120_1 := blk_frozen BK292.out 1; have hfz120_2 := blk_frozen BK292.out 2; have hfz120_3 := blk_frozen BK292.out 3; have hfz120_4 := blk_frozen BK292.out 4; have hfz120_5 := blk_frozen BK292.out 5; have hcz121_0 : w119.cell? ⟨gb295, 0, none⟩ = some (.int .i64 ((rd_T45 t274 t293).f0)) := (blk_cell BK295.out 0).trans rfl; have hcz121_1 : w119.cell? ⟨gb295, 1, none⟩ = some (.bool ((rd_T45 t274 t293).f1)) := (blk_cell BK295.out 1).trans rfl; have hcz121_2 : w119.cell? ⟨gb295, 2, none⟩ = some (.int .u64 ((rd_T45 t274 t293).f2)) := (blk_cell BK295.out 2).trans rfl; have hcz121_3 : w119.cell? ⟨gb295, 3, none⟩ = some (.int .i64 ((rd_T45 t274 t293).f3)) := (blk_cell BK295.out 3).trans rfl; have hcz121_4 : w119.cell? ⟨gb295, 4, none⟩ = some (.int .i64 ((rd_T45 t274 t293).f4)) := (blk_cell BK295.out 4).trans rfl; have hcz121_5 : w119.cell? ⟨gb295, 5, none⟩ = some (.int .i64 ((rd_T45 t274 t293).f5)) := (blk_cell BK295.out 5).trans rfl; have hfz121_0 := blk_frozen BK295.out 0; have hfz121_1 := blk_frozen BK295.out 1; have hfz121_2 := blk_frozen BK295.out 2; have hfz121_3 := blk_frozen BK295.out 3; have hfz121_4 := blk_frozen BK295.out 4; have hfz121_5 := blk_frozen BK295.out 5) | (go_at_call 19; (with_reducible refine (history_Ahead.calls ((rd_T45 t274 t290).f0) ((rd_T45 t274 t290).f1) ((rd_T45 t274 t290).f2) ((rd_T45 t274 t290).f3) ((rd_T45 t274 t290).f4) ((rd_T45 t274 t290).f5) ((rd_T45 t274 t293).f0) ((rd_T45 t274 t293).f1) ((rd_T45 t274 t293).f2) ((rd_T45 t274 t293).f3) ((rd_T45 t274 t293).f4) ((rd_T45 t274 t293).f5) false _ A61.out).mono ?_); rintro e w122 ⟨rfl, hb⟩; have n0_ := Aside0.mk (Kd.R_below (by (with_reducible repeat (first | apply Kd.R_alloc | apply Kd.R_drewN | apply Kd.R_drew)); exact HO_10.out) hb); have n1_ := Aside0.mk (blk_below (g := gb292) (o := .cells #[.int .i64 ((rd_T45 t274 t290).f0), .bool ((rd_T45 t274 t290).f1), .int .u64 ((rd_T45 t274 t290).f2), .int .i64 ((rd_T45 t274 t290).f3), .int .i64 ((rd_T45 t274 t290).f4), .int .i64 ((rd_T45 t274 t290).f5)] 45 (0, 0)) (by (with_reducible repeat (first | refine blk_drewN ?_ _ | refine blk_drew ?_ | refine blk_alloc ?_ _)); exact BK292.out) hb); have n2_ := Aside0.mk (blk_below (g := gb295) (o := .cells #[.int .i64 ((rd_T45 t274 t293).f0), .bool ((rd_T45 t274 t293).f1), .int .u64 ((rd_T45 t274 t293).f2), .int .i64 ((rd_T45 t274 t293).f3), .int .i64 ((rd_T45 t274 t293).f4), .int .i64 ((rd_T45 t274 t293).f5)] 45 (0, 0)) (by (with_reducible repeat (first | refine blk_drewN ?_ _ | refine blk_drew ?_ | refine blk_alloc ?_ _)); exact BK295.out) hb); have n3_ := Aside0.mk (blk_below (g := gb298) (o := .cells #[.int .i64 ((rd_T45 t274 t296).f0), .bool ((rd_T45 t274 t296).f1), .int .u64 ((rd_T45 t274 t296).f2), .int .i64 ((rd_T45 t274 t296).f3), .int .i64 ((rd_T45 t274 t296).f4), .int .i64 ((rd_T45 t274 t296).f5)] 45 (0, 0)) (by (with_reducible repeat (first | refine blk_drewN ?_ _ | refine blk_drew ?_ | refine blk_alloc ?_ _)); exact BK298.out) hb); have n4_ := Aside0.mk (below_step (by with_reducible repeat (first | exact HB.out | apply below_alloc | apply pw_below_drewN | apply below_drew1 | refine below_set ?_ GE292.out | refine below_set ?_ GE295.out | refine below_set ?_ GE298.out)) hb); clear HO_10; clear BK292; clear BK295; clear BK298; clear HB; have HO_10 := n0_; have BK292 := n1_; have BK295 := n2_; have BK298 := n3_; have HB := n4_; clear n0_ n1_ n2_ n3_ n4_; (try clear hb); (try clear hb2); (try clear hk); (try clear hi)))
                  go_ret
                  exact ⟨by first | rfl | (simp [errW_none, errW_some] <;> rfl) | (simp [*, errW_none, errW_some] <;> rfl), by repeat (first | (with_reducible first | exact HB.out | apply below_alloc | apply pw_below_drewN | apply below_drew1 | refine below_set ?_ GE292.out | refine below_set ?_ GE295.out | refine below_set ?_ GE298.out) | exact HB.out)⟩
               ·rw [if_neg c58] at H
                exact absurd H (by simp)
              ·rw [if_neg c57] at H
               exact absurd H (by simp)
             ·rw [if_neg c55] at H
              exact absurd H (by simp)
            ·rw [if_neg c54] at H
             exact absurd H (by simp)
           ·rw [if_neg c52] at H
            exact absurd H (by simp)
          ·rw [if_neg c51] at H
           exact absurd H (by simp)
    ·rw [if_neg c12] at H
     have c12b0 : (t275 == 0) = false := beq_eq_false_iff_ne.mpr c12
     have c12b1 : (t275 != 0) = true := bne_iff_ne.mpr c12
     exact absurd ((Option.some.inj H).trans HT0.out) (by decide)

/-- THE ONE PURE STATEMENT of hatstandlaw14_HistoryOrder. -/
def hatstandlaw14_HistoryOrder.Pure : Prop := ∀ (l0 : List (S61)) (a1 : Int) (a2 : Int) (a3 : Int), l0.length ≤ maxLen → l0.length * 32 ≤ 140737488351232 → (∀ x ∈ l0, (Lit.int .i64 x.f0).wf = true ∧ (Lit.int .i64 x.f1).wf = true ∧ (Lit.int .u64 x.f3).wf = true) → (Lit.int .i64 a1).wf = true → (Lit.int .i64 a2).wf = true → (Lit.int .i64 a3).wf = true → ∃ k, hatstandlaw14_HistoryOrder.f k l0 a1 a2 a3 = some true
theorem hatstandlaw14_HistoryOrder.walk (P : hatstandlaw14_HistoryOrder.Pure) (A0 : Option Addr) (c0 : Nat) (l0 : List (S61)) (a1 : Int) (a2 : Int) (a3 : Int) (w : World) (hr0 : Kd.C k61 w A0 l0.length l0) (hc0 : l0.length ≤ c0) (hm0 : l0.length ≤ maxLen) (y0 : l0.length * 32 ≤ 140737488351232) (hw0 : (∀ x ∈ l0, (Lit.int .i64 x.f0).wf = true ∧ (Lit.int .i64 x.f1).wf = true ∧ (Lit.int .u64 x.f3).wf = true)) (hw1 : (Lit.int .i64 a1).wf = true) (hw2 : (Lit.int .i64 a2).wf = true) (hw3 : (Lit.int .i64 a3).wf = true) :
  Calls Try.prog 7 #[.slice A0 l0.length c0, .int .i64 a1, .int .i64 a2, .int .i64 a3] w fun e w' => e = .returned (.bool true) ∧ Below w.heap.size w w' := by
 obtain ⟨k, h⟩ := P l0 a1 a2 a3 hm0 y0 hw0 hw1 hw2 hw3
 refine (hatstandlaw14_HistoryOrder.calls k A0 c0 l0 a1 a2 a3 true w hr0 hc0 h rfl).mono ?_
 rintro e w' ⟨rfl, hd⟩
 exact ⟨rfl, hd⟩

end Go.Proofs.Ytmdjmfbinjnlcaa.P
