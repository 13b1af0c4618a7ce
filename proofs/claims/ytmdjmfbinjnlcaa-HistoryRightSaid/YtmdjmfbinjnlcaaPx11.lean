/- Walks, written by a program for this claim: each Go function that the laws reach comes to what its Lean function says. -/
import Derived.Test.YtmdjmfbinjnlcaaLex
import Derived.Test.YtmdjmfbinjnlcaaPx0
import Derived.Test.YtmdjmfbinjnlcaaPx4
import Derived.Test.YtmdjmfbinjnlcaaPx6
import Derived.Test.YtmdjmfbinjnlcaaPx7
namespace Go.Proofs.Ytmdjmfbinjnlcaa.P
open Go.RowKit Go.Proofs.YtmdjmfbinjnlcaaW.PrintWords Go.Proofs.YtmdjmfbinjnlcaaW.PrintLast Go.Proofs.YtmdjmfbinjnlcaaW.PrintMore
attribute [local go_sem] max2_int min2_int max_two min_two max_three min_three max_four min_four   -- for this text's walks alone
set_option linter.unusedVariables false
set_option linter.unusedSimpArgs false
theorem drewn_set (w : World) (n : Nat) (a : Addr) (v : Value) : (w.drewN n).setCell a v = (w.setCell a v).drewN n := Eq.trans rfl rfl
theorem cell_drewn6 {w : World} {a0 a1 a2 a3 a4 a5 a : Addr} {v0 v1 v2 v3 v4 v5 v : Value} (n : Nat) (h : ((((((w.setCell a0 v0).setCell a1 v1).setCell a2 v2).setCell a3 v3).setCell a4 v4).setCell a5 v5).cell? a = some v) : (((((((w.drewN n).setCell a0 v0).setCell a1 v1).setCell a2 v2).setCell a3 v3).setCell a4 v4).setCell a5 v5).cell? a = some v := by
  simp only [drewn_set]
  exact (World.cell?_drewN _ _ _).trans h

/-! ### hatstandlaw14_HistoryRight: function 4 -/
mutual
def hatstandlaw14_HistoryRight.j0 : Nat → List (S61) → Bool → Bool → Option (Bool)
 | 0, _, _, _ => none
 | k + 1, x0, x3, x20 => if x20 = true then (some x3) else ((hatstandlaw14_events.f k x0).bind fun t243 => ((history_Check.f t243).bind fun bt246 => ((history_Calls.f t243).bind fun bt248 => (if bt246.2 = 0 then (if bt248.2 = 0 then (hatstandlaw14_HistoryRight.j1 k t243 bt248.1 (bt246.1 != (t243.length : Int))) else (hatstandlaw14_HistoryRight.j1 k t243 bt248.1 true)) else (hatstandlaw14_HistoryRight.j1 k t243 bt248.1 true)))))
def hatstandlaw14_HistoryRight.j1 : Nat → List (S47) → List (S45) → Bool → Option (Bool)
 | 0, _, _, _ => none
 | k + 1, x4, x7, x45 => if x45 = true then (some false) else (if 0 ≤ (x4.length : Int) then (if ((x4.length : Int) : Int).toNat ≤ 35184372088832 then (hatstandlaw14_HistoryRight.l0 k x4 x7 (List.replicate ((x4.length : Int) : Int).toNat 0) 0) else (none)) else (none))
def hatstandlaw14_HistoryRight.l0 : Nat → List (S47) → List (S45) → List Int → Int → Option (Bool)
 | 0, _, _, _, _ => none
 | k + 1, x4, x7, x9, x10 => if x10 < (x7.length : Int) then (if 0 ≤ x10 then (if ((rd_T45 x7 x10).f4) < 0 then (hatstandlaw14_HistoryRight.j3 k x4 x7 x9 x10 true ((rd_T45 x7 x10).f0) ((rd_T45 x7 x10).f1) ((rd_T45 x7 x10).f2) ((rd_T45 x7 x10).f3) ((rd_T45 x7 x10).f4) ((rd_T45 x7 x10).f5)) else (if ((rd_T45 x7 x10).f4) ≥ (x4.length : Int) then (hatstandlaw14_HistoryRight.j3 k x4 x7 x9 x10 true ((rd_T45 x7 x10).f0) ((rd_T45 x7 x10).f1) ((rd_T45 x7 x10).f2) ((rd_T45 x7 x10).f3) ((rd_T45 x7 x10).f4) ((rd_T45 x7 x10).f5)) else (if ((rd_T45 x7 x10).f5) ≥ (x4.length : Int) then (hatstandlaw14_HistoryRight.j3 k x4 x7 x9 x10 true ((rd_T45 x7 x10).f0) ((rd_T45 x7 x10).f1) ((rd_T45 x7 x10).f2) ((rd_T45 x7 x10).f3) ((rd_T45 x7 x10).f4) ((rd_T45 x7 x10).f5)) else (if ((rd_T45 x7 x10).f5) ≥ 0 then (if ((rd_T45 x7 x10).f5) ≤ ((rd_T45 x7 x10).f4) then (hatstandlaw14_HistoryRight.j3 k x4 x7 x9 x10 true ((rd_T45 x7 x10).f0) ((rd_T45 x7 x10).f1) ((rd_T45 x7 x10).f2) ((rd_T45 x7 x10).f3) ((rd_T45 x7 x10).f4) ((rd_T45 x7 x10).f5)) else (if x10 > 0 then (if 0 ≤ (wrap64 (x10 - 1)) then (if (wrap64 (x10 - 1)) < (x7.length : Int) then (hatstandlaw14_HistoryRight.j3 k x4 x7 x9 x10 (decide (((rd_T45 x7 x10).f4) ≤ ((rd_T45 x7 (wrap64 (x10 - 1))).f4))) ((rd_T45 x7 x10).f0) ((rd_T45 x7 x10).f1) ((rd_T45 x7 x10).f2) ((rd_T45 x7 x10).f3) ((rd_T45 x7 x10).f4) ((rd_T45 x7 x10).f5)) else (none)) else (none)) else (hatstandlaw14_HistoryRight.j3 k x4 x7 x9 x10 false ((rd_T45 x7 x10).f0) ((rd_T45 x7 x10).f1) ((rd_T45 x7 x10).f2) ((rd_T45 x7 x10).f3) ((rd_T45 x7 x10).f4) ((rd_T45 x7 x10).f5)))) else (if x10 > 0 then (if 0 ≤ (wrap64 (x10 - 1)) then (if (wrap64 (x10 - 1)) < (x7.length : Int) then (hatstandlaw14_HistoryRight.j3 k x4 x7 x9 x10 (decide (((rd_T45 x7 x10).f4) ≤ ((rd_T45 x7 (wrap64 (x10 - 1))).f4))) ((rd_T45 x7 x10).f0) ((rd_T45 x7 x10).f1) ((rd_T45 x7 x10).f2) ((rd_T45 x7 x10).f3) ((rd_T45 x7 x10).f4) ((rd_T45 x7 x10).f5)) else (none)) else (none)) else (hatstandlaw14_HistoryRight.j3 k x4 x7 x9 x10 false ((rd_T45 x7 x10).f0) ((rd_T45 x7 x10).f1) ((rd_T45 x7 x10).f2) ((rd_T45 x7 x10).f3) ((rd_T45 x7 x10).f4) ((rd_T45 x7 x10).f5))))))) else (none)) else (hatstandlaw14_HistoryRight.l1 k x9 0)
def hatstandlaw14_HistoryRight.j3 : Nat → List (S47) → List (S45) → List Int → Int → Bool → Int → Bool → Int → Int → Int → Int → Option (Bool)
 | 0, _, _, _, _, _, _, _, _, _, _, _ => none
 | k + 1, x4, x7, x9, x10, x102, x257000, x257001, x257002, x257003, x257004, x257005 => if x102 = true then (some false) else (if 0 ≤ x257004 then (if x257004 < (x9.length : Int) then ((some (x9.set (x257004 : Int).toNat (wrap64 ((rd x9 x257004) + 1)) : List Int)).bind fun y260 => (if x257004 < (x4.length : Int) then (if (rd_T47 x4 x257004).f1 = true then (hatstandlaw14_HistoryRight.j4 k x4 x7 y260 x10 true x257000 x257001 x257002 x257003 x257004 x257005) else (if ((rd_T47 x4 x257004).f0) = x257000 then (hatstandlaw14_HistoryRight.j4 k x4 x7 y260 x10 (((rd_T47 x4 x257004).f2) != x257001) x257000 x257001 x257002 x257003 x257004 x257005) else (hatstandlaw14_HistoryRight.j4 k x4 x7 y260 x10 true x257000 x257001 x257002 x257003 x257004 x257005))) else (none))) else (none)) else (none))
def hatstandlaw14_HistoryRight.j4 : Nat → List (S47) → List (S45) → List Int → Int → Bool → Int → Bool → Int → Int → Int → Int → Option (Bool)
 | 0, _, _, _, _, _, _, _, _, _, _, _ => none
 | k + 1, x4, x7, x9, x10, x137, x257000, x257001, x257002, x257003, x257004, x257005 => if x137 = true then (some false) else (if x257005 < 0 then (if x257005 = (-1) then (hatstandlaw14_HistoryRight.j5 k x4 x7 x9 x10 (x257003 != 0)) else (hatstandlaw14_HistoryRight.j5 k x4 x7 x9 x10 true)) else (if 0 ≤ x257005 then (if x257005 < (x9.length : Int) then ((some (x9.set (x257005 : Int).toNat (wrap64 ((rd x9 x257005) + 1)) : List Int)).bind fun y265 => (if x257005 < (x4.length : Int) then (if ((rd_T47 x4 x257005).f1 = true) then (if ((rd_T47 x4 x257005).f0) = x257000 then (hatstandlaw14_HistoryRight.j6 k x4 x7 y265 x10 (((rd_T47 x4 x257005).f4) != x257003)) else (hatstandlaw14_HistoryRight.j6 k x4 x7 y265 x10 true)) else (hatstandlaw14_HistoryRight.j6 k x4 x7 y265 x10 true)) else (none))) else (none)) else (none)))
def hatstandlaw14_HistoryRight.j5 : Nat → List (S47) → List (S45) → List Int → Int → Bool → Option (Bool)
 | 0, _, _, _, _, _ => none
 | k + 1, x4, x7, x9, x10, x148 => if x148 = true then (some false) else (hatstandlaw14_HistoryRight.l0 k x4 x7 x9 (wrap64 (x10 + 1)))
def hatstandlaw14_HistoryRight.j6 : Nat → List (S47) → List (S45) → List Int → Int → Bool → Option (Bool)
 | 0, _, _, _, _, _ => none
 | k + 1, x4, x7, x9, x10, x184 => if x184 = true then (some false) else (hatstandlaw14_HistoryRight.l0 k x4 x7 x9 (wrap64 (x10 + 1)))
def hatstandlaw14_HistoryRight.l1 : Nat → List Int → Int → Option (Bool)
 | 0, _, _ => none
 | k + 1, x9, x12 => if x12 < (x9.length : Int) then (if 0 ≤ x12 then (if (rd x9 x12) = 1 then (hatstandlaw14_HistoryRight.l1 k x9 (wrap64 (x12 + 1))) else (some false)) else (none)) else (some true)
end
def hatstandlaw14_HistoryRight.f (k : Nat) (l0 : List (S61)) : Option (Bool) := (hatstandlaw14_shown.f k).bind fun t242 => (if t242 = true then (hatstandlaw14_HistoryRight.j0 k l0 t242 (decide ((l0.length : Int) > 200))) else (hatstandlaw14_HistoryRight.j0 k l0 t242 true))
theorem hatstandlaw14_HistoryRight.mono_l : ∀ k, (∀ y0 y1 y2, LeO (hatstandlaw14_HistoryRight.j0 k y0 y1 y2) (hatstandlaw14_HistoryRight.j0 (k + 1) y0 y1 y2)) ∧ (∀ y0 y1 y2, LeO (hatstandlaw14_HistoryRight.j1 k y0 y1 y2) (hatstandlaw14_HistoryRight.j1 (k + 1) y0 y1 y2)) ∧ (∀ y0 y1 y2 y3, LeO (hatstandlaw14_HistoryRight.l0 k y0 y1 y2 y3) (hatstandlaw14_HistoryRight.l0 (k + 1) y0 y1 y2 y3)) ∧ (∀ y0 y1 y2 y3 y4 y5 y6 y7 y8 y9 y10, LeO (hatstandlaw14_HistoryRight.j3 k y0 y1 y2 y3 y4 y5 y6 y7 y8 y9 y10) (hatstandlaw14_HistoryRight.j3 (k + 1) y0 y1 y2 y3 y4 y5 y6 y7 y8 y9 y10)) ∧ (∀ y0 y1 y2 y3 y4 y5 y6 y7 y8 y9 y10, LeO (hatstandlaw14_HistoryRight.j4 k y0 y1 y2 y3 y4 y5 y6 y7 y8 y9 y10) (hatstandlaw14_HistoryRight.j4 (k + 1) y0 y1 y2 y3 y4 y5 y6 y7 y8 y9 y10)) ∧ (∀ y0 y1 y2 y3 y4, LeO (hatstandlaw14_HistoryRight.j5 k y0 y1 y2 y3 y4) (hatstandlaw14_HistoryRight.j5 (k + 1) y0 y1 y2 y3 y4)) ∧ (∀ y0 y1 y2 y3 y4, LeO (hatstandlaw14_HistoryRight.j6 k y0 y1 y2 y3 y4) (hatstandlaw14_HistoryRight.j6 (k + 1) y0 y1 y2 y3 y4)) ∧ (∀ y0 y1, LeO (hatstandlaw14_HistoryRight.l1 k y0 y1) (hatstandlaw14_HistoryRight.l1 (k + 1) y0 y1))
 | 0 => ⟨fun _ _ _ r h => by simp [hatstandlaw14_HistoryRight.j0] at h, fun _ _ _ r h => by simp [hatstandlaw14_HistoryRight.j1] at h, fun _ _ _ _ r h => by simp [hatstandlaw14_HistoryRight.l0] at h, fun _ _ _ _ _ _ _ _ _ _ _ r h => by simp [hatstandlaw14_HistoryRight.j3] at h, fun _ _ _ _ _ _ _ _ _ _ _ r h => by simp [hatstandlaw14_HistoryRight.j4] at h, fun _ _ _ _ _ r h => by simp [hatstandlaw14_HistoryRight.j5] at h, fun _ _ _ _ _ r h => by simp [hatstandlaw14_HistoryRight.j6] at h, fun _ _ r h => by simp [hatstandlaw14_HistoryRight.l1] at h⟩
 | k + 1 => by
  obtain ⟨ih0, ih1, ih2, ih3, ih4, ih5, ih6, ih7⟩ := hatstandlaw14_HistoryRight.mono_l k
  refine ⟨?_, ?_, ?_, ?_, ?_, ?_, ?_, ?_⟩
  ·intro y0 y1 y2
   unfold hatstandlaw14_HistoryRight.j0
   repeat' first
   | (with_reducible exact ih0 _ _ _)
   | (with_reducible exact ih1 _ _ _)
   | (with_reducible exact ih2 _ _ _ _)
   | (with_reducible exact ih3 _ _ _ _ _ _ _ _ _ _ _)
   | (with_reducible exact ih4 _ _ _ _ _ _ _ _ _ _ _)
   | (with_reducible exact ih5 _ _ _ _ _)
   | (with_reducible exact ih6 _ _ _ _ _)
   | (with_reducible exact ih7 _ _)
   | (with_reducible exact hatstandlaw14_events.mono _ _)
   | (with_reducible exact hatstandlaw14_shown.mono _)
   | (with_reducible exact LeO.refl _)
   | (with_reducible exact LeO.none _)
   | (with_reducible refine LeO.ite ?_ ?_)
   | (with_reducible refine LeO.bind ?_ (fun _ => ?_))
   | exact ih0 _ _ _
   | exact ih1 _ _ _
   | exact ih2 _ _ _ _
   | exact ih3 _ _ _ _ _ _ _ _ _ _ _
   | exact ih4 _ _ _ _ _ _ _ _ _ _ _
   | exact ih5 _ _ _ _ _
   | exact ih6 _ _ _ _ _
   | exact ih7 _ _
   | exact hatstandlaw14_events.mono _ _
   | exact hatstandlaw14_shown.mono _
   | exact LeO.none _
   | refine LeO.ite ?_ ?_
   | refine LeO.bind ?_ (fun _ => ?_)
  ·intro y0 y1 y2
   unfold hatstandlaw14_HistoryRight.j1
   repeat' first
   | (with_reducible exact ih0 _ _ _)
   | (with_reducible exact ih1 _ _ _)
   | (with_reducible exact ih2 _ _ _ _)
   | (with_reducible exact ih3 _ _ _ _ _ _ _ _ _ _ _)
   | (with_reducible exact ih4 _ _ _ _ _ _ _ _ _ _ _)
   | (with_reducible exact ih5 _ _ _ _ _)
   | (with_reducible exact ih6 _ _ _ _ _)
   | (with_reducible exact ih7 _ _)
   | (with_reducible exact hatstandlaw14_events.mono _ _)
   | (with_reducible exact hatstandlaw14_shown.mono _)
   | (with_reducible exact LeO.refl _)
   | (with_reducible exact LeO.none _)
   | (with_reducible refine LeO.ite ?_ ?_)
   | (with_reducible refine LeO.bind ?_ (fun _ => ?_))
   | exact ih0 _ _ _
   | exact ih1 _ _ _
   | exact ih2 _ _ _ _
   | exact ih3 _ _ _ _ _ _ _ _ _ _ _
   | exact ih4 _ _ _ _ _ _ _ _ _ _ _
   | exact ih5 _ _ _ _ _
   | exact ih6 _ _ _ _ _
   | exact ih7 _ _
   | exact hatstandlaw14_events.mono _ _
   | exact hatstandlaw14_shown.mono _
   | exact LeO.none _
   | refine LeO.ite ?_ ?_
   | refine LeO.bind ?_ (fun _ => ?_)
  ·intro y0 y1 y2 y3
   unfold hatstandlaw14_HistoryRight.l0
   repeat' first
   | (with_reducible exact ih0 _ _ _)
   | (with_reducible exact ih1 _ _ _)
   | (with_reducible exact ih2 _ _ _ _)
   | (with_reducible exact ih3 _ _ _ _ _ _ _ _ _ _ _)
   | (with_reducible exact ih4 _ _ _ _ _ _ _ _ _ _ _)
   | (with_reducible exact ih5 _ _ _ _ _)
   | (with_reducible exact ih6 _ _ _ _ _)
   | (with_reducible exact ih7 _ _)
   | (with_reducible exact hatstandlaw14_events.mono _ _)
   | (with_reducible exact hatstandlaw14_shown.mono _)
   | (with_reducible exact LeO.refl _)
   | (with_reducible exact LeO.none _)
   | (with_reducible refine LeO.ite ?_ ?_)
   | (with_reducible refine LeO.bind ?_ (fun _ => ?_))
   | exact ih0 _ _ _
   | exact ih1 _ _ _
   | exact ih2 _ _ _ _
   | exact ih3 _ _ _ _ _ _ _ _ _ _ _
   | exact ih4 _ _ _ _ _ _ _ _ _ _ _
   | exact ih5 _ _ _ _ _
   | exact ih6 _ _ _ _ _
   | exact ih7 _ _
   | exact hatstandlaw14_events.mono _ _
   | exact hatstandlaw14_shown.mono _
   | exact LeO.none _
   | refine LeO.ite ?_ ?_
   | refine LeO.bind ?_ (fun _ => ?_)
  ·intro y0 y1 y2 y3 y4 y5 y6 y7 y8 y9 y10
   unfold hatstandlaw14_HistoryRight.j3
   repeat' first
   | (with_reducible exact ih0 _ _ _)
   | (with_reducible exact ih1 _ _ _)
   | (with_reducible exact ih2 _ _ _ _)
   | (with_reducible exact ih3 _ _ _ _ _ _ _ _ _ _ _)
   | (with_reducible exact ih4 _ _ _ _ _ _ _ _ _ _ _)
   | (with_reducible exact ih5 _ _ _ _ _)
   | (with_reducible exact ih6 _ _ _ _ _)
   | (with_reducible exact ih7 _ _)
   | (with_reducible exact hatstandlaw14_events.mono _ _)
   | (with_reducible exact hatstandlaw14_shown.mono _)
   | (with_reducible exact LeO.refl _)
   | (with_reducible exact LeO.none _)
   | (with_reducible refine LeO.ite ?_ ?_)
   | (with_reducible refine LeO.bind ?_ (fun _ => ?_))
   | exact ih0 _ _ _
   | exact ih1 _ _ _
   | exact ih2 _ _ _ _
   | exact ih3 _ _ _ _ _ _ _ _ _ _ _
   | exact ih4 _ _ _ _ _ _ _ _ _ _ _
   | exact ih5 _ _ _ _ _
   | exact ih6 _ _ _ _ _
   | exact ih7 _ _
   | exact hatstandlaw14_events.mono _ _
   | exact hatstandlaw14_shown.mono _
   | exact LeO.none _
   | refine LeO.ite ?_ ?_
   | refine LeO.bind ?_ (fun _ => ?_)
  ·intro y0 y1 y2 y3 y4 y5 y6 y7 y8 y9 y10
   unfold hatstandlaw14_HistoryRight.j4
   repeat' first
   | (with_reducible exact ih0 _ _ _)
   | (with_reducible exact ih1 _ _ _)
   | (with_reducible exact ih2 _ _ _ _)
   | (with_reducible exact ih3 _ _ _ _ _ _ _ _ _ _ _)
   | (with_reducible exact ih4 _ _ _ _ _ _ _ _ _ _ _)
   | (with_reducible exact ih5 _ _ _ _ _)
   | (with_reducible exact ih6 _ _ _ _ _)
   | (with_reducible exact ih7 _ _)
   | (with_reducible exact hatstandlaw14_events.mono _ _)
   | (with_reducible exact hatstandlaw14_shown.mono _)
   | (with_reducible exact LeO.refl _)
   | (with_reducible exact LeO.none _)
   | (with_reducible refine LeO.ite ?_ ?_)
   | (with_reducible refine LeO.bind ?_ (fun _ => ?_))
   | exact ih0 _ _ _
   | exact ih1 _ _ _
   | exact ih2 _ _ _ _
   | exact ih3 _ _ _ _ _ _ _ _ _ _ _
   | exact ih4 _ _ _ _ _ _ _ _ _ _ _
   | exact ih5 _ _ _ _ _
   | exact ih6 _ _ _ _ _
   | exact ih7 _ _
   | exact hatstandlaw14_events.mono _ _
   | exact hatstandlaw14_shown.mono _
   | exact LeO.none _
   | refine LeO.ite ?_ ?_
   | refine LeO.bind ?_ (fun _ => ?_)
  ·intro y0 y1 y2 y3 y4
   unfold hatstandlaw14_HistoryRight.j5
   repeat' first
   | (with_reducible exact ih0 _ _ _)
   | (with_reducible exact ih1 _ _ _)
   | (with_reducible exact ih2 _ _ _ _)
   | (with_reducible exact ih3 _ _ _ _ _ _ _ _ _ _ _)
   | (with_reducible exact ih4 _ _ _ _ _ _ _ _ _ _ _)
   | (with_reducible exact ih5 _ _ _ _ _)
   | (with_reducible exact ih6 _ _ _ _ _)
   | (with_reducible exact ih7 _ _)
   | (with_reducible exact hatstandlaw14_events.mono _ _)
   | (with_reducible exact hatstandlaw14_shown.mono _)
   | (with_reducible exact LeO.refl _)
   | (with_reducible exact LeO.none _)
   | (with_reducible refine LeO.ite ?_ ?_)
   | (with_reducible refine LeO.bind ?_ (fun _ => ?_))
   | exact ih0 _ _ _
   | exact ih1 _ _ _
   | exact ih2 _ _ _ _
   | exact ih3 _ _ _ _ _ _ _ _ _ _ _
   | exact ih4 _ _ _ _ _ _ _ _ _ _ _
   | exact ih5 _ _ _ _ _
   | exact ih6 _ _ _ _ _
   | exact ih7 _ _
   | exact hatstandlaw14_events.mono _ _
   | exact hatstandlaw14_shown.mono _
   | exact LeO.none _
   | refine LeO.ite ?_ ?_
   | refine LeO.bind ?_ (fun _ => ?_)
  ·intro y0 y1 y2 y3 y4
   unfold hatstandlaw14_HistoryRight.j6
   repeat' first
   | (with_reducible exact ih0 _ _ _)
   | (with_reducible exact ih1 _ _ _)
   | (with_reducible exact ih2 _ _ _ _)
   | (with_reducible exact ih3 _ _ _ _ _ _ _ _ _ _ _)
   | (with_reducible exact ih4 _ _ _ _ _ _ _ _ _ _ _)
   | (with_reducible exact ih5 _ _ _ _ _)
   | (with_reducible exact ih6 _ _ _ _ _)
   | (with_reducible exact ih7 _ _)
   | (with_reducible exact hatstandlaw14_events.mono _ _)
   | (with_reducible exact hatstandlaw14_shown.mono _)
   | (with_reducible exact LeO.refl _)
   | (with_reducible exact LeO.none _)
   | (with_reducible refine LeO.ite ?_ ?_)
   | (with_reducible refine LeO.bind ?_ (fun _ => ?_))
   | exact ih0 _ _ _
   | exact ih1 _ _ _
   | exact ih2 _ _ _ _
   | exact ih3 _ _ _ _ _ _ _ _ _ _ _
   | exact ih4 _ _ _ _ _ _ _ _ _ _ _
   | exact ih5 _ _ _ _ _
   | exact ih6 _ _ _ _ _
   | exact ih7 _ _
   | exact hatstandlaw14_events.mono _ _
   | exact hatstandlaw14_shown.mono _
   | exact LeO.none _
   | refine LeO.ite ?_ ?_
   | refine LeO.bind ?_ (fun _ => ?_)
  ·intro y0 y1
   unfold hatstandlaw14_HistoryRight.l1
   repeat' first
   | (with_reducible exact ih0 _ _ _)
   | (with_reducible exact ih1 _ _ _)
   | (with_reducible exact ih2 _ _ _ _)
   | (with_reducible exact ih3 _ _ _ _ _ _ _ _ _ _ _)
   | (with_reducible exact ih4 _ _ _ _ _ _ _ _ _ _ _)
   | (with_reducible exact ih5 _ _ _ _ _)
   | (with_reducible exact ih6 _ _ _ _ _)
   | (with_reducible exact ih7 _ _)
   | (with_reducible exact hatstandlaw14_events.mono _ _)
   | (with_reducible exact hatstandlaw14_shown.mono _)
   | (with_reducible exact LeO.refl _)
   | (with_reducible exact LeO.none _)
   | (with_reducible refine LeO.ite ?_ ?_)
   | (with_reducible refine LeO.bind ?_ (fun _ => ?_))
   | exact ih0 _ _ _
   | exact ih1 _ _ _
   | exact ih2 _ _ _ _
   | exact ih3 _ _ _ _ _ _ _ _ _ _ _
   | exact ih4 _ _ _ _ _ _ _ _ _ _ _
   | exact ih5 _ _ _ _ _
   | exact ih6 _ _ _ _ _
   | exact ih7 _ _
   | exact hatstandlaw14_events.mono _ _
   | exact hatstandlaw14_shown.mono _
   | exact LeO.none _
   | refine LeO.ite ?_ ?_
   | refine LeO.bind ?_ (fun _ => ?_)
theorem hatstandlaw14_HistoryRight.mono : ∀ a0 k, LeO (hatstandlaw14_HistoryRight.f k a0) (hatstandlaw14_HistoryRight.f (k + 1) a0) := by
 intro a0 k
 obtain ⟨ih0, ih1, ih2, ih3, ih4, ih5, ih6, ih7⟩ := hatstandlaw14_HistoryRight.mono_l k
 unfold hatstandlaw14_HistoryRight.f
 repeat' first
   | (with_reducible exact ih0 _ _ _)
   | (with_reducible exact ih1 _ _ _)
   | (with_reducible exact ih2 _ _ _ _)
   | (with_reducible exact ih3 _ _ _ _ _ _ _ _ _ _ _)
   | (with_reducible exact ih4 _ _ _ _ _ _ _ _ _ _ _)
   | (with_reducible exact ih5 _ _ _ _ _)
   | (with_reducible exact ih6 _ _ _ _ _)
   | (with_reducible exact ih7 _ _)
   | (with_reducible exact hatstandlaw14_events.mono _ _)
   | (with_reducible exact hatstandlaw14_shown.mono _)
   | (with_reducible exact LeO.refl _)
   | (with_reducible exact LeO.none _)
   | (with_reducible refine LeO.ite ?_ ?_)
   | (with_reducible refine LeO.bind ?_ (fun _ => ?_))
   | exact ih0 _ _ _
   | exact ih1 _ _ _
   | exact ih2 _ _ _ _
   | exact ih3 _ _ _ _ _ _ _ _ _ _ _
   | exact ih4 _ _ _ _ _ _ _ _ _ _ _
   | exact ih5 _ _ _ _ _
   | exact ih6 _ _ _ _ _
   | exact ih7 _ _
   | exact hatstandlaw14_events.mono _ _
   | exact hatstandlaw14_shown.mono _
   | exact LeO.none _
   | refine LeO.ite ?_ ?_
   | refine LeO.bind ?_ (fun _ => ?_)
theorem hatstandlaw14_HistoryRight.j1_dead {k : Nat} {y0 : List (S47)} {y1 : List (S45)} {r : Bool} (h : hatstandlaw14_HistoryRight.j1 k y0 y1 true = some r) (hr : r = true) : ∀ {p : Prop}, p := by
  cases k with
  | zero => exact absurd h (by simp [hatstandlaw14_HistoryRight.j1])
  | succ k => exact absurd h (by rw [hatstandlaw14_HistoryRight.j1, if_pos rfl, hr]; exact fun e => Bool.noConfusion (Option.some.inj e))
theorem hatstandlaw14_HistoryRight.j3_dead {k : Nat} {y0 : List (S47)} {y1 : List (S45)} {y2 : List Int} {y3 : Int} {y5 : Int} {y6 : Bool} {y7 : Int} {y8 : Int} {y9 : Int} {y10 : Int} {r : Bool} (h : hatstandlaw14_HistoryRight.j3 k y0 y1 y2 y3 true y5 y6 y7 y8 y9 y10 = some r) (hr : r = true) : ∀ {p : Prop}, p := by
  cases k with
  | zero => exact absurd h (by simp [hatstandlaw14_HistoryRight.j3])
  | succ k => exact absurd h (by rw [hatstandlaw14_HistoryRight.j3, if_pos rfl, hr]; exact fun e => Bool.noConfusion (Option.some.inj e))
theorem hatstandlaw14_HistoryRight.j4_dead {k : Nat} {y0 : List (S47)} {y1 : List (S45)} {y2 : List Int} {y3 : Int} {y5 : Int} {y6 : Bool} {y7 : Int} {y8 : Int} {y9 : Int} {y10 : Int} {r : Bool} (h : hatstandlaw14_HistoryRight.j4 k y0 y1 y2 y3 true y5 y6 y7 y8 y9 y10 = some r) (hr : r = true) : ∀ {p : Prop}, p := by
  cases k with
  | zero => exact absurd h (by simp [hatstandlaw14_HistoryRight.j4])
  | succ k => exact absurd h (by rw [hatstandlaw14_HistoryRight.j4, if_pos rfl, hr]; exact fun e => Bool.noConfusion (Option.some.inj e))
theorem hatstandlaw14_HistoryRight.j5_dead {k : Nat} {y0 : List (S47)} {y1 : List (S45)} {y2 : List Int} {y3 : Int} {r : Bool} (h : hatstandlaw14_HistoryRight.j5 k y0 y1 y2 y3 true = some r) (hr : r = true) : ∀ {p : Prop}, p := by
  cases k with
  | zero => exact absurd h (by simp [hatstandlaw14_HistoryRight.j5])
  | succ k => exact absurd h (by rw [hatstandlaw14_HistoryRight.j5, if_pos rfl, hr]; exact fun e => Bool.noConfusion (Option.some.inj e))
theorem hatstandlaw14_HistoryRight.j6_dead {k : Nat} {y0 : List (S47)} {y1 : List (S45)} {y2 : List Int} {y3 : Int} {r : Bool} (h : hatstandlaw14_HistoryRight.j6 k y0 y1 y2 y3 true = some r) (hr : r = true) : ∀ {p : Prop}, p := by
  cases k with
  | zero => exact absurd h (by simp [hatstandlaw14_HistoryRight.j6])
  | succ k => exact absurd h (by rw [hatstandlaw14_HistoryRight.j6, if_pos rfl, hr]; exact fun e => Bool.noConfusion (Option.some.inj e))
set_option maxHeartbeats 8000000 in
set_option maxRecDepth 100000 in
theorem hatstandlaw14_HistoryRight.calls (k : Nat) (A0 : Option Addr) (c0 : Nat) (l0 : List (S61)) (r : Bool) (w : World) (hr0 : Kd.C k61 w A0 l0.length l0) (hc0 : l0.length ≤ c0) (h : hatstandlaw14_HistoryRight.f k l0 = some r) (ht_ : r = true) :
  Calls Try.prog 4 #[.slice A0 l0.length c0] w fun e w' => e = .returned (.bool r) ∧ Below w.heap.size w w' := by
 have hu45 := Try.underlying45
 have HR0 := Aside0.mk hr0
 have HC0 := Aside0.mk hc0
 clear hr0 hc0
 have HB := Aside0.mk (Below.refl w.heap.size w)
 have HT0 := Aside0.mk ht_
 clear ht_
 have H : ((hatstandlaw14_shown.f k).bind fun t242 => (if t242 = true then (hatstandlaw14_HistoryRight.j0 k l0 t242 (decide ((l0.length : Int) > 200))) else (hatstandlaw14_HistoryRight.j0 k l0 t242 true))) = some r := h
 clear h
 replace H := Option.bind_eq_some_iff.mp H
 obtain ⟨t242, A20, H⟩ := H
 replace H : (if t242 = true then (hatstandlaw14_HistoryRight.j0 k l0 t242 (decide ((l0.length : Int) > 200))) else (hatstandlaw14_HistoryRight.j0 k l0 t242 true)) = some r := H
 have A2 := Aside0.mk A20
 clear A20
 have HC3 := Aside0.mk H
 clear H
 go_enter Try.func4, Try.ntmps4
 go_upto_region 2 with (first | (go_at_call 9; (with_reducible refine (hatstandlaw14_shown.calls k  t242 _ A2.out).mono ?_); rintro e w4 ⟨rfl, hb⟩; have n0_ := Aside0.mk (below_step (by with_reducible repeat (first | exact HB.out | apply below_alloc | apply pw_below_drewN | apply below_drew1)) hb); clear HB; have HB := n0_; clear n0_; (try clear hb); (try clear hb2); (try clear hk); (try clear hi)))
 repeat (go_quiet (first | (go_at_call 9; (with_reducible refine (hatstandlaw14_shown.calls k  t242 _ A2.out).mono ?_); rintro e w4 ⟨rfl, hb⟩; have n0_ := Aside0.mk (below_step (by with_reducible repeat (first | exact HB.out | apply below_alloc | apply pw_below_drewN | apply below_drew1)) hb); clear HB; have HB := n0_; clear n0_; (try clear hb); (try clear hb2); (try clear hk); (try clear hi))); go_upto_region 2 with (first | (go_at_call 9; (with_reducible refine (hatstandlaw14_shown.calls k  t242 _ A2.out).mono ?_); rintro e w4 ⟨rfl, hb⟩; have n0_ := Aside0.mk (below_step (by with_reducible repeat (first | exact HB.out | apply below_alloc | apply pw_below_drewN | apply below_drew1)) hb); clear HB; have HB := n0_; clear n0_; (try clear hb); (try clear hb2); (try clear hk); (try clear hi))))
 (try simp only [Act.put, List.setIfInBounds_toArray, List.set_cons_zero, List.set_cons_succ])
 go_cut [20] (fun v20 wc => ∃ (kq : Nat) (x20_2 : Bool), v20 = .bool x20_2 ∧ Aside0 (hatstandlaw14_HistoryRight.j0 kq l0 t242 x20_2 = some r) ∧ Aside0 (kq ≤ k) ∧ Aside0 (Below w.heap.size w wc))
 case first =>
  have H := HC3.out
  clear HC3
  by_cases c5 : t242 = true
  ·subst c5
   have H1 : (hatstandlaw14_HistoryRight.j0 k l0 true (decide ((l0.length : Int) > 200))) = some r := by rw [if_pos rfl] at H; exact H
   clear H
   have H := H1
   clear H1
   have H' := Aside0.mk H
   clear H
   go_wp2
   repeat (go_quiet (fail); try go_wp2)
   go_meet
   case rel => exact ⟨_, (decide ((l0.length : Int) > 200)), (by first | rfl | (simp; done) | (simp [*]; done)), H', ⟨by first | omega | exact Nat.le_refl _⟩, ⟨by repeat (first | (with_reducible first | exact HB.out | apply below_alloc | apply pw_below_drewN | apply below_drew1) | exact HB.out)⟩⟩
  ·replace c5 := Bool.eq_false_iff.mpr c5
   subst c5
   have H1 : (hatstandlaw14_HistoryRight.j0 k l0 false true) = some r := by rw [if_neg (show ¬ (false = true) by decide)] at H; exact H
   clear H
   have H := H1
   clear H1
   have H' := Aside0.mk H
   clear H
   go_wp2
   repeat (go_quiet (fail); try go_wp2)
   go_meet
   case rel => exact ⟨_, (true), (by first | rfl | (simp; done) | (simp [*]; done)), H', ⟨by first | omega | exact Nat.le_refl _⟩, ⟨by repeat (first | (with_reducible first | exact HB.out | apply below_alloc | apply pw_below_drewN | apply below_drew1) | exact HB.out)⟩⟩
 case rest =>
  clear HC3
  try clear p2
  try clear c4
  try clear c5
  obtain ⟨kq, x20_2, rfl, HA, HJ2, HB⟩ := hcut
  cases kq with
  | zero => exact absurd HA.out (by simp [hatstandlaw14_HistoryRight.j0])
  | succ kj2 =>
   have H := HA.out
   clear HA
   simp only [hatstandlaw14_HistoryRight.j0] at H
   by_cases c6 : x20_2 = true
   ·subst c6
    have H1 : (some t242) = some r := by rw [if_pos rfl] at H; exact H
    clear H
    have H := H1
    clear H1
    obtain rfl := Option.some.inj H
    go_wp2
    repeat (go_quiet (fail); try go_wp2)
    go_ret
    exact ⟨by first | rfl | (simp [errW_none, errW_some] <;> rfl) | (simp [*, errW_none, errW_some] <;> rfl), by repeat (first | (with_reducible first | exact HB.out | apply below_alloc | apply pw_below_drewN | apply below_drew1) | exact HB.out)⟩
   ·replace c6 := Bool.eq_false_iff.mpr c6
    subst c6
    have H1 : ((hatstandlaw14_events.f kj2 l0).bind fun t243 => ((history_Check.f t243).bind fun bt246 => ((history_Calls.f t243).bind fun bt248 => (if bt246.2 = 0 then (if bt248.2 = 0 then (hatstandlaw14_HistoryRight.j1 kj2 t243 bt248.1 (bt246.1 != (t243.length : Int))) else (hatstandlaw14_HistoryRight.j1 kj2 t243 bt248.1 true)) else (hatstandlaw14_HistoryRight.j1 kj2 t243 bt248.1 true))))) = some r := by rw [if_neg (show ¬ (false = true) by decide)] at H; exact H
    clear H
    have H := H1
    clear H1
    replace H := Option.bind_eq_some_iff.mp H
    obtain ⟨t243, A70, H⟩ := H
    replace H : ((history_Check.f t243).bind fun bt246 => ((history_Calls.f t243).bind fun bt248 => (if bt246.2 = 0 then (if bt248.2 = 0 then (hatstandlaw14_HistoryRight.j1 kj2 t243 bt248.1 (bt246.1 != (t243.length : Int))) else (hatstandlaw14_HistoryRight.j1 kj2 t243 bt248.1 true)) else (hatstandlaw14_HistoryRight.j1 kj2 t243 bt248.1 true)))) = some r := H
    have A7 := Aside0.mk A70
    clear A70
    replace H := Option.bind_eq_some_iff.mp H
    obtain ⟨⟨t246, t247⟩, A80, H⟩ := H
    replace H : ((history_Calls.f t243).bind fun bt248 => (if t247 = 0 then (if bt248.2 = 0 then (hatstandlaw14_HistoryRight.j1 kj2 t243 bt248.1 (t246 != (t243.length : Int))) else (hatstandlaw14_HistoryRight.j1 kj2 t243 bt248.1 true)) else (hatstandlaw14_HistoryRight.j1 kj2 t243 bt248.1 true))) = some r := H
    have A8 := Aside0.mk A80
    clear A80
    replace H := Option.bind_eq_some_iff.mp H
    obtain ⟨⟨t248, t249⟩, A90, H⟩ := H
    replace H : (if t247 = 0 then (if t249 = 0 then (hatstandlaw14_HistoryRight.j1 kj2 t243 t248 (t246 != (t243.length : Int))) else (hatstandlaw14_HistoryRight.j1 kj2 t243 t248 true)) else (hatstandlaw14_HistoryRight.j1 kj2 t243 t248 true)) = some r := H
    have A9 := Aside0.mk A90
    clear A90
    have HC10 := Aside0.mk H
    clear H
    go_upto_region 7 with (first | (go_at_call 17; (with_reducible refine (hatstandlaw14_events.calls kj2 _ _ l0 t243 _ ?side1 ?side2 A7.out).mono ?_); (case side1 => repeat (first | exact (Kd.C_below HR0.out HB.out) | (with_reducible refine Kd.C_alloc ?_ _) | (with_reducible refine Kd.C_drewN ?_ _) | (with_reducible refine Kd.C_drew ?_))); (case side2 => exact HC0.out); rintro e w11 ⟨v244, rfl, ho0, hb⟩; have n0_ := Aside0.mk (Kd.R_lower ho0 (below_size (by with_reducible repeat (first | exact HB.out | apply below_alloc | apply pw_below_drewN | apply below_drew1)))); have n1_ := Aside0.mk (below_step (by with_reducible repeat (first | exact HB.out | apply below_alloc | apply pw_below_drewN | apply below_drew1)) hb); clear HB; have HO245 := n0_; have HB := n1_; clear n0_ n1_; (try clear hb); (try clear ho0); obtain ⟨Ao12, co12, eo12⟩ := Kd.R_slice HO245.out; subst eo12) | (go_at_call 10; (with_reducible refine (history_Check.calls _ _ t243 t246 t247 _ ?side1 ?side2 A8.out).mono ?_); (case side1 => repeat (first | exact (Kd.R_reads' HO245.out).2.2 | (with_reducible refine Kd.C_alloc ?_ _) | (with_reducible refine Kd.C_drewN ?_ _) | (with_reducible refine Kd.C_drew ?_))); (case side2 => exact (Kd.R_reads' HO245.out).2.1); rintro e w13 ⟨rfl, hb⟩; have n0_ := Aside0.mk (Kd.R_below (by (with_reducible repeat (first | apply Kd.R_alloc | apply Kd.R_drewN | apply Kd.R_drew)); exact HO245.out) hb); have n1_ := Aside0.mk (below_step (by with_reducible repeat (first | exact HB.out | apply below_alloc | apply pw_below_drewN | apply below_drew1)) hb); clear HO245; clear HB; have HO245 := n0_; have HB := n1_; clear n0_ n1_; (try clear hb); (try clear hb2); (try clear hk); (try clear hi)) | (go_at_call 13; (with_reducible refine (history_Calls.calls _ _ t243 t248 t249 _ ?side1 ?side2 A9.out).mono ?_); (case side1 => repeat (first | exact (Kd.R_reads' HO245.out).2.2 | (with_reducible refine Kd.C_alloc ?_ _) | (with_reducible refine Kd.C_drewN ?_ _) | (with_reducible refine Kd.C_drew ?_))); (case side2 => exact (Kd.R_reads' HO245.out).2.1); rintro e w14 ⟨v250, rfl, ho0, hb⟩; have n0_ := Aside0.mk (Kd.R_below (by (with_reducible repeat (first | apply Kd.R_alloc | apply Kd.R_drewN | apply Kd.R_drew)); exact HO245.out) hb); have n1_ := Aside0.mk (Kd.R_lower ho0 (below_size (by with_reducible repeat (first | exact HB.out | apply below_alloc | apply pw_below_drewN | apply below_drew1)))); have n2_ := Aside0.mk (below_step (by with_reducible repeat (first | exact HB.out | apply below_alloc | apply pw_below_drewN | apply below_drew1)) hb); clear HO245; clear HB; have HO245 := n0_; have HO251 := n1_; have HB := n2_; clear n0_ n1_ n2_; (try clear hb); (try clear ho0)))
    repeat (go_quiet (first | (go_at_call 17; (with_reducible refine (hatstandlaw14_events.calls kj2 _ _ l0 t243 _ ?side1 ?side2 A7.out).mono ?_); (case side1 => repeat (first | exact (Kd.C_below HR0.out HB.out) | (with_reducible refine Kd.C_alloc ?_ _) | (with_reducible refine Kd.C_drewN ?_ _) | (with_reducible refine Kd.C_drew ?_))); (case side2 => exact HC0.out); rintro e w11 ⟨v244, rfl, ho0, hb⟩; have n0_ := Aside0.mk (Kd.R_lower ho0 (below_size (by with_reducible repeat (first | exact HB.out | apply below_alloc | apply pw_below_drewN | apply below_drew1)))); have n1_ := Aside0.mk (below_step (by with_reducible repeat (first | exact HB.out | apply below_alloc | apply pw_below_drewN | apply below_drew1)) hb); clear HB; have HO245 := n0_; have HB := n1_; clear n0_ n1_; (try clear hb); (try clear ho0); obtain ⟨Ao12, co12, eo12⟩ := Kd.R_slice HO245.out; subst eo12) | (go_at_call 10; (with_reducible refine (history_Check.calls _ _ t243 t246 t247 _ ?side1 ?side2 A8.out).mono ?_); (case side1 => repeat (first | exact (Kd.R_reads' HO245.out).2.2 | (with_reducible refine Kd.C_alloc ?_ _) | (with_reducible refine Kd.C_drewN ?_ _) | (with_reducible refine Kd.C_drew ?_))); (case side2 => exact (Kd.R_reads' HO245.out).2.1); rintro e w13 ⟨rfl, hb⟩; have n0_ := Aside0.mk (Kd.R_below (by (with_reducible repeat (first | apply Kd.R_alloc | apply Kd.R_drewN | apply Kd.R_drew)); exact HO245.out) hb); have n1_ := Aside0.mk (below_step (by with_reducible repeat (first | exact HB.out | apply below_alloc | apply pw_below_drewN | apply below_drew1)) hb); clear HO245; clear HB; have HO245 := n0_; have HB := n1_; clear n0_ n1_; (try clear hb); (try clear hb2); (try clear hk); (try clear hi)) | (go_at_call 13; (with_reducible refine (history_Calls.calls _ _ t243 t248 t249 _ ?side1 ?side2 A9.out).mono ?_); (case side1 => repeat (first | exact (Kd.R_reads' HO245.out).2.2 | (with_reducible refine Kd.C_alloc ?_ _) | (with_reducible refine Kd.C_drewN ?_ _) | (with_reducible refine Kd.C_drew ?_))); (case side2 => exact (Kd.R_reads' HO245.out).2.1); rintro e w14 ⟨v250, rfl, ho0, hb⟩; have n0_ := Aside0.mk (Kd.R_below (by (with_reducible repeat (first | apply Kd.R_alloc | apply Kd.R_drewN | apply Kd.R_drew)); exact HO245.out) hb); have n1_ := Aside0.mk (Kd.R_lower ho0 (below_size (by with_reducible repeat (first | exact HB.out | apply below_alloc | apply pw_below_drewN | apply below_drew1)))); have n2_ := Aside0.mk (below_step (by with_reducible repeat (first | exact HB.out | apply below_alloc | apply pw_below_drewN | apply below_drew1)) hb); clear HO245; clear HB; have HO245 := n0_; have HO251 := n1_; have HB := n2_; clear n0_ n1_ n2_; (try clear hb); (try clear ho0))); go_upto_region 7 with (first | (go_at_call 17; (with_reducible refine (hatstandlaw14_events.calls kj2 _ _ l0 t243 _ ?side1 ?side2 A7.out).mono ?_); (case side1 => repeat (first | exact (Kd.C_below HR0.out HB.out) | (with_reducible refine Kd.C_alloc ?_ _) | (with_reducible refine Kd.C_drewN ?_ _) | (with_reducible refine Kd.C_drew ?_))); (case side2 => exact HC0.out); rintro e w11 ⟨v244, rfl, ho0, hb⟩; have n0_ := Aside0.mk (Kd.R_lower ho0 (below_size (by with_reducible repeat (first | exact HB.out | apply below_alloc | apply pw_below_drewN | apply below_drew1)))); have n1_ := Aside0.mk (below_step (by with_reducible repeat (first | exact HB.out | apply below_alloc | apply pw_below_drewN | apply below_drew1)) hb); clear HB; have HO245 := n0_; have HB := n1_; clear n0_ n1_; (try clear hb); (try clear ho0); obtain ⟨Ao12, co12, eo12⟩ := Kd.R_slice HO245.out; subst eo12) | (go_at_call 10; (with_reducible refine (history_Check.calls _ _ t243 t246 t247 _ ?side1 ?side2 A8.out).mono ?_); (case side1 => repeat (first | exact (Kd.R_reads' HO245.out).2.2 | (with_reducible refine Kd.C_alloc ?_ _) | (with_reducible refine Kd.C_drewN ?_ _) | (with_reducible refine Kd.C_drew ?_))); (case side2 => exact (Kd.R_reads' HO245.out).2.1); rintro e w13 ⟨rfl, hb⟩; have n0_ := Aside0.mk (Kd.R_below (by (with_reducible repeat (first | apply Kd.R_alloc | apply Kd.R_drewN | apply Kd.R_drew)); exact HO245.out) hb); have n1_ := Aside0.mk (below_step (by with_reducible repeat (first | exact HB.out | apply below_alloc | apply pw_below_drewN | apply below_drew1)) hb); clear HO245; clear HB; have HO245 := n0_; have HB := n1_; clear n0_ n1_; (try clear hb); (try clear hb2); (try clear hk); (try clear hi)) | (go_at_call 13; (with_reducible refine (history_Calls.calls _ _ t243 t248 t249 _ ?side1 ?side2 A9.out).mono ?_); (case side1 => repeat (first | exact (Kd.R_reads' HO245.out).2.2 | (with_reducible refine Kd.C_alloc ?_ _) | (with_reducible refine Kd.C_drewN ?_ _) | (with_reducible refine Kd.C_drew ?_))); (case side2 => exact (Kd.R_reads' HO245.out).2.1); rintro e w14 ⟨v250, rfl, ho0, hb⟩; have n0_ := Aside0.mk (Kd.R_below (by (with_reducible repeat (first | apply Kd.R_alloc | apply Kd.R_drewN | apply Kd.R_drew)); exact HO245.out) hb); have n1_ := Aside0.mk (Kd.R_lower ho0 (below_size (by with_reducible repeat (first | exact HB.out | apply below_alloc | apply pw_below_drewN | apply below_drew1)))); have n2_ := Aside0.mk (below_step (by with_reducible repeat (first | exact HB.out | apply below_alloc | apply pw_below_drewN | apply below_drew1)) hb); clear HO245; clear HB; have HO245 := n0_; have HO251 := n1_; have HB := n2_; clear n0_ n1_ n2_; (try clear hb); (try clear ho0))))
    (try simp only [Act.put, List.setIfInBounds_toArray, List.set_cons_zero, List.set_cons_succ])
    go_cut [45] (fun v45 wc => ∃ (kq : Nat) (x45_9 : Bool), v45 = .bool x45_9 ∧ Aside0 (hatstandlaw14_HistoryRight.j1 kq t243 t248 x45_9 = some r) ∧ Aside0 (kq ≤ kj2) ∧ Aside0 (Kd.R k47 47 wc w.heap.size (fun _ => True) (.slice Ao12 t243.length co12) t243) ∧ Aside0 (Kd.R k45 45 wc w.heap.size (fun _ => True) v250 t248) ∧ Aside0 (Below w.heap.size w wc))
    case first =>
     have H := HC10.out
     clear HC10
     by_cases c15 : t247 = 0
     ·rw [if_pos c15] at H
      have c15b0 : (t247 == 0) = true := beq_iff_eq.mpr c15
      have c15b1 : (t247 != 0) = false := bne_eq_false_iff_eq.mpr c15
      clear c15
      (first | rw [c15b0] | (simp only [i64_w, i32_w, Go.IntKind.wrap_u32]; rw [c15b0]) | skip)
      by_cases c16 : t249 = 0
      ·rw [if_pos c16] at H
       have c16b0 : (t249 == 0) = true := beq_iff_eq.mpr c16
       have c16b1 : (t249 != 0) = false := bne_eq_false_iff_eq.mpr c16
       clear c16
       have H' := Aside0.mk H
       clear H
       go_wp2
       repeat (go_quiet (fail); try go_wp2)
       go_meet
       case rel => exact ⟨_, ((t246 != (t243.length : Int))), (by first | rfl | (simp; done) | (simp [*]; done)), H', ⟨by have := HJ2.out; first | omega | exact Nat.le_refl _⟩, ⟨by (with_reducible repeat (first | apply Kd.R_alloc | apply Kd.R_drewN | apply Kd.R_drew)); exact HO245.out⟩, ⟨by (with_reducible repeat (first | apply Kd.R_alloc | apply Kd.R_drewN | apply Kd.R_drew)); exact HO251.out⟩, ⟨by repeat (first | (with_reducible first | exact HB.out | apply below_alloc | apply pw_below_drewN | apply below_drew1) | exact HB.out)⟩⟩
      ·rw [if_neg c16] at H
       have c16b0 : (t249 == 0) = false := beq_eq_false_iff_ne.mpr c16
       have c16b1 : (t249 != 0) = true := bne_iff_ne.mpr c16
       exact hatstandlaw14_HistoryRight.j1_dead H HT0.out
     ·rw [if_neg c15] at H
      have c15b0 : (t247 == 0) = false := beq_eq_false_iff_ne.mpr c15
      have c15b1 : (t247 != 0) = true := bne_iff_ne.mpr c15
      (first | rw [c15b0] | (simp only [i64_w, i32_w, Go.IntKind.wrap_u32]; rw [c15b0]) | skip)
      exact hatstandlaw14_HistoryRight.j1_dead H HT0.out
    case rest =>
     clear HC10
     try clear c1
     try clear p2
     try clear c4
     try clear c5
     try clear c6
     try clear c15
     try clear c15b0
     try clear c15b1
     try clear c16
     try clear c16b0
     try clear c16b1
     try clear p2
     obtain ⟨kq, x45_9, rfl, HA, HJ9, HO_4, HO_7, HB⟩ := hcut
     cases kq with
     | zero => exact absurd HA.out (by simp [hatstandlaw14_HistoryRight.j1])
     | succ kj9 =>
      have H := HA.out
      clear HA
      simp only [hatstandlaw14_HistoryRight.j1] at H
      by_cases c17 : x45_9 = true
      ·subst c17
       have H1 : (some false) = some r := by rw [if_pos rfl] at H; exact H
       clear H
       have H := H1
       clear H1
       exact absurd ((Option.some.inj H).trans HT0.out) (by decide)
      ·replace c17 := Bool.eq_false_iff.mpr c17
       subst c17
       have H1 : (if 0 ≤ (t243.length : Int) then (if ((t243.length : Int) : Int).toNat ≤ 35184372088832 then (hatstandlaw14_HistoryRight.l0 kj9 t243 t248 (List.replicate ((t243.length : Int) : Int).toNat 0) 0) else (none)) else (none)) = some r := by rw [if_neg (show ¬ (false = true) by decide)] at H; exact H
       clear H
       have H := H1
       clear H1
       by_cases c18 : 0 ≤ (t243.length : Int)
       ·rw [if_pos c18] at H
        have c18b0 := eq_true c18
        have c18b1 : decide (0 ≤ (t243.length : Int)) = true := decide_eq_true c18
        clear c18
        by_cases c19 : ((t243.length : Int) : Int).toNat ≤ 35184372088832
        ·rw [if_pos c19] at H
         have c19b0 := eq_true c19
         have c19b1 : decide (((t243.length : Int) : Int).toNat ≤ 35184372088832) = true := decide_eq_true c19
         clear c19
         obtain ⟨y252, hy252⟩ : ∃ y_ : List Int, y_ = (List.replicate ((t243.length : Int) : Int).toNat 0) := ⟨_, rfl⟩
         replace H : (hatstandlaw14_HistoryRight.l0 kj9 t243 t248 y252 0) = some r := by first | (rw [hy252]; with_reducible exact H) | (have H2_ := (Option.bind_some _ _).symm.trans H; rw [hy252]; with_reducible exact H2_) | (have H2_ := (Option.bind_some _ _).symm.trans H; with_reducible exact H2_) | with_reducible exact H | (rw [hy252]; exact H) | exact H
         have Ny252 := Aside0.mk hy252
         clear hy252
         have H' := Aside0.mk H
         clear H
         go_wp2_with (first | ((with_reducible refine gate_dst (N := 48) rfl ?_); (try (refine gate_guard (by rfl) ?_; dsimp only)); refine Kd.R_make (Kd.int .i64) _ 3 rfl (N := 48) rfl 41 _ _ rfl (t243.length : Int) rfl rfl Try.underlying41 (.int .i64 0) 8 info3 rfl (by decide) (by omega) 0 (ok := fun _ => True) (okp := fun _ => True) rfl (fun _ hk => hk) trivial (of_decide_eq_true (by first | (with_reducible assumption) | assumption)) (Nat.le_trans (Nat.mul_le_mul_right _ (of_decide_eq_true (by first | (with_reducible assumption) | assumption) : (t243.length : Int).toNat ≤ 35184372088832)) (by omega)) (Below.refl _ _) (Nat.le_refl _) ?_; intro v253 w20 ho21 hb hg_ hnew_; clear hg_ hnew_; (first | rw [← Ny252.out] at ho21 | (simp only [Int.reduceToNat] at ho21; rw [← Ny252.out] at ho21)); have n0_ := Aside0.mk (Kd.R_below (by (with_reducible repeat (first | apply Kd.R_alloc | apply Kd.R_drewN | apply Kd.R_drew)); exact HO_4.out) hb); have n1_ := Aside0.mk (Kd.R_below (by (with_reducible repeat (first | apply Kd.R_alloc | apply Kd.R_drewN | apply Kd.R_drew)); exact HO_7.out) hb); have n2_ := Aside0.mk (Kd.R_lower ho21 (below_size (by with_reducible repeat (first | exact HB.out | apply below_alloc | apply pw_below_drewN | apply below_drew1)))); have n3_ := Aside0.mk (below_step (by with_reducible repeat (first | exact HB.out | apply below_alloc | apply pw_below_drewN | apply below_drew1)) hb); clear HO_4; clear HO_7; clear HB; have HO_4 := n0_; have HO_7 := n1_; have HO254 := n2_; have HB := n3_; clear n0_ n1_ n2_ n3_; clear hb ho21))
         repeat (go_quiet (first | ((with_reducible refine gate_dst (N := 48) rfl ?_); (try (refine gate_guard (by rfl) ?_; dsimp only)); refine Kd.R_make (Kd.int .i64) _ 3 rfl (N := 48) rfl 41 _ _ rfl (t243.length : Int) rfl rfl Try.underlying41 (.int .i64 0) 8 info3 rfl (by decide) (by omega) 0 (ok := fun _ => True) (okp := fun _ => True) rfl (fun _ hk => hk) trivial (of_decide_eq_true (by first | (with_reducible assumption) | assumption)) (Nat.le_trans (Nat.mul_le_mul_right _ (of_decide_eq_true (by first | (with_reducible assumption) | assumption) : (t243.length : Int).toNat ≤ 35184372088832)) (by omega)) (Below.refl _ _) (Nat.le_refl _) ?_; intro v253 w20 ho21 hb hg_ hnew_; clear hg_ hnew_; (first | rw [← Ny252.out] at ho21 | (simp only [Int.reduceToNat] at ho21; rw [← Ny252.out] at ho21)); have n0_ := Aside0.mk (Kd.R_below (by (with_reducible repeat (first | apply Kd.R_alloc | apply Kd.R_drewN | apply Kd.R_drew)); exact HO_4.out) hb); have n1_ := Aside0.mk (Kd.R_below (by (with_reducible repeat (first | apply Kd.R_alloc | apply Kd.R_drewN | apply Kd.R_drew)); exact HO_7.out) hb); have n2_ := Aside0.mk (Kd.R_lower ho21 (below_size (by with_reducible repeat (first | exact HB.out | apply below_alloc | apply pw_below_drewN | apply below_drew1)))); have n3_ := Aside0.mk (below_step (by with_reducible repeat (first | exact HB.out | apply below_alloc | apply pw_below_drewN | apply below_drew1)) hb); clear HO_4; clear HO_7; clear HB; have HO_4 := n0_; have HO_7 := n1_; have HO254 := n2_; have HB := n3_; clear n0_ n1_ n2_ n3_; clear hb ho21)); try go_wp2_with (first | ((with_reducible refine gate_dst (N := 48) rfl ?_); (try (refine gate_guard (by rfl) ?_; dsimp only)); refine Kd.R_make (Kd.int .i64) _ 3 rfl (N := 48) rfl 41 _ _ rfl (t243.length : Int) rfl rfl Try.underlying41 (.int .i64 0) 8 info3 rfl (by decide) (by omega) 0 (ok := fun _ => True) (okp := fun _ => True) rfl (fun _ hk => hk) trivial (of_decide_eq_true (by first | (with_reducible assumption) | assumption)) (Nat.le_trans (Nat.mul_le_mul_right _ (of_decide_eq_true (by first | (with_reducible assumption) | assumption) : (t243.length : Int).toNat ≤ 35184372088832)) (by omega)) (Below.refl _ _) (Nat.le_refl _) ?_; intro v253 w20 ho21 hb hg_ hnew_; clear hg_ hnew_; (first | rw [← Ny252.out] at ho21 | (simp only [Int.reduceToNat] at ho21; rw [← Ny252.out] at ho21)); have n0_ := Aside0.mk (Kd.R_below (by (with_reducible repeat (first | apply Kd.R_alloc | apply Kd.R_drewN | apply Kd.R_drew)); exact HO_4.out) hb); have n1_ := Aside0.mk (Kd.R_below (by (with_reducible repeat (first | apply Kd.R_alloc | apply Kd.R_drewN | apply Kd.R_drew)); exact HO_7.out) hb); have n2_ := Aside0.mk (Kd.R_lower ho21 (below_size (by with_reducible repeat (first | exact HB.out | apply below_alloc | apply pw_below_drewN | apply below_drew1)))); have n3_ := Aside0.mk (below_step (by with_reducible repeat (first | exact HB.out | apply below_alloc | apply pw_below_drewN | apply below_drew1)) hb); clear HO_4; clear HO_7; clear HB; have HO_4 := n0_; have HO_7 := n1_; have HO254 := n2_; have HB := n3_; clear n0_ n1_ n2_ n3_; clear hb ho21)))
         go_loopg [10] kj9 (fun kq v10 w' => ∃ (x9_3 : List Int) (x10_3 : Int), v10 = .int .i64 x10_3 ∧ Aside0 (hatstandlaw14_HistoryRight.l0 kq t243 t248 x9_3 x10_3 = some r) ∧ Aside0 (kq ≤ kj9) ∧ Aside0 (Kd.R k47 47 w' w.heap.size (fun _ => True) (.slice Ao12 t243.length co12) t243) ∧ Aside0 (Kd.R k45 45 w' w.heap.size (fun _ => True) v250 t248) ∧ Aside0 (Kd.R (Kd.int .i64) 3 w' w.heap.size (fun _ => True) v253 x9_3) ∧ Aside0 (Below w.heap.size w w'))
         case atStart => exact ⟨(y252), (0), (by first | rfl | (simp; done) | (simp [*]; done)), H', ⟨Nat.le_refl _⟩, ⟨by (with_reducible repeat (first | apply Kd.R_alloc | apply Kd.R_drewN | apply Kd.R_drew)); exact HO_4.out⟩, ⟨by (with_reducible repeat (first | apply Kd.R_alloc | apply Kd.R_drewN | apply Kd.R_drew)); exact HO_7.out⟩, ⟨by (with_reducible repeat (first | apply Kd.R_alloc | apply Kd.R_drewN | apply Kd.R_drew)); exact HO254.out⟩, ⟨by repeat (first | (with_reducible first | exact HB.out | apply below_alloc | apply pw_below_drewN | apply below_drew1) | exact HB.out)⟩⟩
         case round =>
          clear H'
          try clear c1
          try clear p2
          try clear c4
          try clear c5
          try clear c6
          try clear c15
          try clear c15b0
          try clear c15b1
          try clear c16
          try clear c16b0
          try clear c16b1
          try clear c17
          try clear c18
          try clear c18b0
          try clear c18b1
          try clear c19
          try clear c19b0
          try clear c19b1
          try clear p2
          obtain ⟨x9_3, x10_3, rfl, HA, HK3, HO_4, HO_7, HO_9, HB⟩ := hrel
          cases gk with
          | zero => exact absurd HA.out (by simp [hatstandlaw14_HistoryRight.l0])
          | succ k3 =>
           have H := HA.out
           clear HA
           simp only [hatstandlaw14_HistoryRight.l0] at H
           by_cases c22 : x10_3 < (t248.length : Int)
           ·rw [if_pos c22] at H
            have c22b0 : decide (x10_3 < (t248.length : Int)) = true := decide_eq_true c22
            clear c22
            by_cases c23 : 0 ≤ x10_3
            ·rw [if_pos c23] at H
             have c23b0 : decide (0 ≤ x10_3) = true := decide_eq_true c23
             clear c23
             have HC24 := Aside0.mk H
             clear H
             obtain ⟨Ao25, co25, eo25⟩ := Kd.R_slice HO_7.out
             subst eo25
             have p255 : 0 ≤ (x10_3 : Int) := of_decide_eq_true (by first | (with_reducible assumption) | assumption)
             have q255 : x10_3 < (t248.length : Int) := of_decide_eq_true (by first | (with_reducible assumption) | assumption)
             obtain ⟨ad255, e255, hx255_0, hx255_1, hx255_2, hx255_3, hx255_4, hx255_5⟩ := at_T45 (Kd.R_reads' HO_7.out).2.2 x10_3 p255 q255
             cases e255
             replace p255 := eq_true p255
             replace q255 := eq_true q255
             go_upto_region 14 with (first | ((with_reducible refine gate_dst (N := 11) rfl ?_); (try (refine gate_guard (by rfl) ?_; dsimp only)); refine box_event ?hg (N := 11) ?hd (cs := #[.int .i64 0, .bool false, .int .u64 0, .int .i64 0, .int .i64 0, .int .i64 0]) (t := 45) ?hr ?_; (case hd => rfl); (case hg => rfl); (case hr => first | (go_simp; done) | (go_simp; rfl)); intro gb256 hg w26 hbox hb; have n0_ := Aside0.mk (Kd.R_below (by (with_reducible repeat (first | apply Kd.R_alloc | apply Kd.R_drewN | apply Kd.R_drew)); exact HO_4.out) hb); have n1_ := Aside0.mk (Kd.R_below (Kd.R_elderB (by (with_reducible repeat (first | apply Kd.R_alloc | apply Kd.R_drewN | apply Kd.R_drew)); exact HO_7.out) gb256 (Nat.le_of_eq hg.symm)) hb); have n2_ := Aside0.mk (Kd.R_below (by (with_reducible repeat (first | apply Kd.R_alloc | apply Kd.R_drewN | apply Kd.R_drew)); exact HO_9.out) hb); have n3_ := Aside0.mk (below_step (by with_reducible repeat (first | exact HB.out | apply below_alloc | apply pw_below_drewN | apply below_drew1)) hb); have n4_ := Aside0.mk (hbox); have n5_ := Aside0.mk ((by rw [hg]; exact (below_size (by with_reducible repeat (first | exact HB.out | apply below_alloc | apply pw_below_drewN | apply below_drew1))) : w.heap.size ≤ gb256)); have n6_ := Aside0.mk ((by rw [hg]; exact (below_size (by with_reducible repeat (first | exact HB.out | apply below_alloc | apply pw_below_drewN | apply below_drew1))) : w.heap.size ≤ gb256)); clear HO_4; clear HO_7; clear HO_9; clear HB; have HO_4 := n0_; have HO_7 := n1_; have HO_9 := n2_; have HB := n3_; have BK256 := n4_; have GW256 := n5_; have GE256 := n6_; clear n0_ n1_ n2_ n3_ n4_ n5_ n6_; clear hb hbox hg; have hcz27_0 : w26.cell? ⟨gb256, 0, none⟩ = some (.int .i64 0) := (blk_cell BK256.out 0).trans rfl; have hcz27_1 : w26.cell? ⟨gb256, 1, none⟩ = some (.bool false) := (blk_cell BK256.out 1).trans rfl; have hcz27_2 : w26.cell? ⟨gb256, 2, none⟩ = some (.int .u64 0) := (blk_cell BK256.out 2).trans rfl; have hcz27_3 : w26.cell? ⟨gb256, 3, none⟩ = some (.int .i64 0) := (blk_cell BK256.out 3).trans rfl; have hcz27_4 : w26.cell? ⟨gb256, 4, none⟩ = some (.int .i64 0) := (blk_cell BK256.out 4).trans rfl; have hcz27_5 : w26.cell? ⟨gb256, 5, none⟩ = some (.int .i64 0) := (blk_cell BK256.out 5).trans rfl; have hfz27_0 := blk_frozen BK256.out 0; have hfz27_1 := blk_frozen BK256.out 1; have hfz27_2 := blk_frozen BK256.out 2; have hfz27_3 := blk_frozen BK256.out 3; have hfz27_4 := blk_frozen BK256.out 4; have hfz27_5 := blk_frozen BK256.out 5))
             repeat (go_quiet (first | ((with_reducible refine gate_dst (N := 11) rfl ?_); (try (refine gate_guard (by rfl) ?_; dsimp only)); refine box_event ?hg (N := 11) ?hd (cs := #[.int .i64 0, .bool false, .int .u64 0, .int .i64 0, .int .i64 0, .int .i64 0]) (t := 45) ?hr ?_; (case hd => rfl); (case hg => rfl); (case hr => first | (go_simp; done) | (go_simp; rfl)); intro gb256 hg w26 hbox hb; have n0_ := Aside0.mk (Kd.R_below (by (with_reducible repeat (first | apply Kd.R_alloc | apply Kd.R_drewN | apply Kd.R_drew)); exact HO_4.out) hb); have n1_ := Aside0.mk (Kd.R_below (Kd.R_elderB (by (with_reducible repeat (first | apply Kd.R_alloc | apply Kd.R_drewN | apply Kd.R_drew)); exact HO_7.out) gb256 (Nat.le_of_eq hg.symm)) hb); have n2_ := Aside0.mk (Kd.R_below (by (with_reducible repeat (first | apply Kd.R_alloc | apply Kd.R_drewN | apply Kd.R_drew)); exact HO_9.out) hb); have n3_ := Aside0.mk (below_step (by with_reducible repeat (first | exact HB.out | apply below_alloc | apply pw_below_drewN | apply below_drew1)) hb); have n4_ := Aside0.mk (hbox); have n5_ := Aside0.mk ((by rw [hg]; exact (below_size (by with_reducible repeat (first | exact HB.out | apply below_alloc | apply pw_below_drewN | apply below_drew1))) : w.heap.size ≤ gb256)); have n6_ := Aside0.mk ((by rw [hg]; exact (below_size (by with_reducible repeat (first | exact HB.out | apply below_alloc | apply pw_below_drewN | apply below_drew1))) : w.heap.size ≤ gb256)); clear HO_4; clear HO_7; clear HO_9; clear HB; have HO_4 := n0_; have HO_7 := n1_; have HO_9 := n2_; have HB := n3_; have BK256 := n4_; have GW256 := n5_; have GE256 := n6_; clear n0_ n1_ n2_ n3_ n4_ n5_ n6_; clear hb hbox hg; have hcz27_0 : w26.cell? ⟨gb256, 0, none⟩ = some (.int .i64 0) := (blk_cell BK256.out 0).trans rfl; have hcz27_1 : w26.cell? ⟨gb256, 1, none⟩ = some (.bool false) := (blk_cell BK256.out 1).trans rfl; have hcz27_2 : w26.cell? ⟨gb256, 2, none⟩ = some (.int .u64 0) := (blk_cell BK256.out 2).trans rfl; have hcz27_3 : w26.cell? ⟨gb256, 3, none⟩ = some (.int .i64 0) := (blk_cell BK256.out 3).trans rfl; have hcz27_4 : w26.cell? ⟨gb256, 4, none⟩ = some (.int .i64 0) := (blk_cell BK256.out 4).trans rfl; have hcz27_5 : w26.cell? ⟨gb256, 5, none⟩ = some (.int .i64 0) := (blk_cell BK256.out 5).trans rfl; have hfz27_0 := blk_frozen BK256.out 0; have hfz27_1 := blk_frozen BK256.out 1; have hfz27_2 := blk_frozen BK256.out 2; have hfz27_3 := blk_frozen BK256.out 3; have hfz27_4 := blk_frozen BK256.out 4; have hfz27_5 := blk_frozen BK256.out 5)); go_upto_region 14 with (first | ((with_reducible refine gate_dst (N := 11) rfl ?_); (try (refine gate_guard (by rfl) ?_; dsimp only)); refine box_event ?hg (N := 11) ?hd (cs := #[.int .i64 0, .bool false, .int .u64 0, .int .i64 0, .int .i64 0, .int .i64 0]) (t := 45) ?hr ?_; (case hd => rfl); (case hg => rfl); (case hr => first | (go_simp; done) | (go_simp; rfl)); intro gb256 hg w26 hbox hb; have n0_ := Aside0.mk (Kd.R_below (by (with_reducible repeat (first | apply Kd.R_alloc | apply Kd.R_drewN | apply Kd.R_drew)); exact HO_4.out) hb); have n1_ := Aside0.mk (Kd.R_below (Kd.R_elderB (by (with_reducible repeat (first | apply Kd.R_alloc | apply Kd.R_drewN | apply Kd.R_drew)); exact HO_7.out) gb256 (Nat.le_of_eq hg.symm)) hb); have n2_ := Aside0.mk (Kd.R_below (by (with_reducible repeat (first | apply Kd.R_alloc | apply Kd.R_drewN | apply Kd.R_drew)); exact HO_9.out) hb); have n3_ := Aside0.mk (below_step (by with_reducible repeat (first | exact HB.out | apply below_alloc | apply pw_below_drewN | apply below_drew1)) hb); have n4_ := Aside0.mk (hbox); have n5_ := Aside0.mk ((by rw [hg]; exact (below_size (by with_reducible repeat (first | exact HB.out | apply below_alloc | apply pw_below_drewN | apply below_drew1))) : w.heap.size ≤ gb256)); have n6_ := Aside0.mk ((by rw [hg]; exact (below_size (by with_reducible repeat (first | exact HB.out | apply below_alloc | apply pw_below_drewN | apply below_drew1))) : w.heap.size ≤ gb256)); clear HO_4; clear HO_7; clear HO_9; clear HB; have HO_4 := n0_; have HO_7 := n1_; have HO_9 := n2_; have HB := n3_; have BK256 := n4_; have GW256 := n5_; have GE256 := n6_; clear n0_ n1_ n2_ n3_ n4_ n5_ n6_; clear hb hbox hg; have hcz27_0 : w26.cell? ⟨gb256, 0, none⟩ = some (.int .i64 0) := (blk_cell BK256.out 0).trans rfl; have hcz27_1 : w26.cell? ⟨gb256, 1, none⟩ = some (.bool false) := (blk_cell BK256.out 1).trans rfl; have hcz27_2 : w26.cell? ⟨gb256, 2, none⟩ = some (.int .u64 0) := (blk_cell BK256.out 2).trans rfl; have hcz27_3 : w26.cell? ⟨gb256, 3, none⟩ = some (.int .i64 0) := (blk_cell BK256.out 3).trans rfl; have hcz27_4 : w26.cell? ⟨gb256, 4, none⟩ = some (.int .i64 0) := (blk_cell BK256.out 4).trans rfl; have hcz27_5 : w26.cell? ⟨gb256, 5, none⟩ = some (.int .i64 0) := (blk_cell BK256.out 5).trans rfl; have hfz27_0 := blk_frozen BK256.out 0; have hfz27_1 := blk_frozen BK256.out 1; have hfz27_2 := blk_frozen BK256.out 2; have hfz27_3 := blk_frozen BK256.out 3; have hfz27_4 := blk_frozen BK256.out 4; have hfz27_5 := blk_frozen BK256.out 5)))
             (try simp only [Act.put, List.setIfInBounds_toArray, List.set_cons_zero, List.set_cons_succ])
             go_cut [102] (fun v102 wc => ∃ (kq : Nat) (x102_23 : Bool), v102 = .bool x102_23 ∧ Aside0 (hatstandlaw14_HistoryRight.j3 kq t243 t248 x9_3 x10_3 x102_23 ((rd_T45 t248 x10_3).f0) ((rd_T45 t248 x10_3).f1) ((rd_T45 t248 x10_3).f2) ((rd_T45 t248 x10_3).f3) ((rd_T45 t248 x10_3).f4) ((rd_T45 t248 x10_3).f5) = some r) ∧ Aside0 (kq ≤ k3) ∧ Aside0 (Kd.R k47 47 wc w.heap.size (fun _ => True) (.slice Ao12 t243.length co12) t243) ∧ Aside0 (Kd.R k45 45 wc w.heap.size (fun k_ => k_ ≠ gb256) (.slice (some ad255) t248.length co25) t248) ∧ Aside0 (Kd.R (Kd.int .i64) 3 wc w.heap.size (fun _ => True) v253 x9_3) ∧ Aside0 (wc.heap[gb256]? = some (.cells #[.int .i64 ((rd_T45 t248 x10_3).f0), .bool ((rd_T45 t248 x10_3).f1), .int .u64 ((rd_T45 t248 x10_3).f2), .int .i64 ((rd_T45 t248 x10_3).f3), .int .i64 ((rd_T45 t248 x10_3).f4), .int .i64 ((rd_T45 t248 x10_3).f5)] 45 (0, 0))) ∧ Aside0 (Below w.heap.size w wc))
             case first =>
              try simp only [Ytmdjmfbinjnlcaa.Lex.ops_cons, Ytmdjmfbinjnlcaa.Lex.ops_nil]
              refine Ytmdjmfbinjnlcaa.Lex.with_lex (by as_aux_lemma => kernel_rfl) (by as_aux_lemma => kernel_rfl) ?_
              intro HLX0
              have HLX := Aside0.mk HLX0
              clear HLX0
              have H := HC24.out
              clear HC24
              by_cases c28 : ((rd_T45 t248 x10_3).f4) < 0
              ·rw [if_pos c28] at H
               have c28b0 : decide (((rd_T45 t248 x10_3).f4) < 0) = true := decide_eq_true c28
               clear c28
               (first | rw [c28b0] | (simp only [i64_w, i32_w, Go.IntKind.wrap_u32]; rw [c28b0]) | skip)
               exact hatstandlaw14_HistoryRight.j3_dead H HT0.out
              ·rw [if_neg c28] at H
               have c28b0 : decide (((rd_T45 t248 x10_3).f4) < 0) = false := decide_eq_false c28
               clear c28
               (first | rw [c28b0] | (simp only [i64_w, i32_w, Go.IntKind.wrap_u32]; rw [c28b0]) | skip)
               by_cases c30 : ((rd_T45 t248 x10_3).f4) ≥ (t243.length : Int)
               ·rw [if_pos c30] at H
                have c30b0 : decide ((t243.length : Int) ≤ ((rd_T45 t248 x10_3).f4)) = true := decide_eq_true c30
                clear c30
                exact hatstandlaw14_HistoryRight.j3_dead H HT0.out
               ·rw [if_neg c30] at H
                have c30b0 : decide ((t243.length : Int) ≤ ((rd_T45 t248 x10_3).f4)) = false := decide_eq_false c30
                clear c30
                by_cases c32 : ((rd_T45 t248 x10_3).f5) ≥ (t243.length : Int)
                ·rw [if_pos c32] at H
                 have c32b0 : decide ((t243.length : Int) ≤ ((rd_T45 t248 x10_3).f5)) = true := decide_eq_true c32
                 clear c32
                 exact hatstandlaw14_HistoryRight.j3_dead H HT0.out
                ·rw [if_neg c32] at H
                 have c32b0 : decide ((t243.length : Int) ≤ ((rd_T45 t248 x10_3).f5)) = false := decide_eq_false c32
                 clear c32
                 by_cases c34 : ((rd_T45 t248 x10_3).f5) ≥ 0
                 ·rw [if_pos c34] at H
                  have c34b0 : decide (0 ≤ ((rd_T45 t248 x10_3).f5)) = true := decide_eq_true c34
                  clear c34
                  by_cases c35 : ((rd_T45 t248 x10_3).f5) ≤ ((rd_T45 t248 x10_3).f4)
                  ·rw [if_pos c35] at H
                   have c35b0 : decide (((rd_T45 t248 x10_3).f5) ≤ ((rd_T45 t248 x10_3).f4)) = true := decide_eq_true c35
                   clear c35
                   exact hatstandlaw14_HistoryRight.j3_dead H HT0.out
                  ·rw [if_neg c35] at H
                   have c35b0 : decide (((rd_T45 t248 x10_3).f5) ≤ ((rd_T45 t248 x10_3).f4)) = false := decide_eq_false c35
                   clear c35
                   by_cases c37 : x10_3 > 0
                   ·rw [if_pos c37] at H
                    have c37b0 : decide (0 < x10_3) = true := decide_eq_true c37
                    clear c37
                    obtain ⟨ji38, hji38⟩ : ∃ j_ : Int, (wrap64 (x10_3 - 1)) = j_ := ⟨_, rfl⟩
                    replace H : (if 0 ≤ (ji38) then (if (ji38) < (t248.length : Int) then (hatstandlaw14_HistoryRight.j3 k3 t243 t248 x9_3 x10_3 (decide (((rd_T45 t248 x10_3).f4) ≤ ((rd_T45 t248 (ji38)).f4))) ((rd_T45 t248 x10_3).f0) ((rd_T45 t248 x10_3).f1) ((rd_T45 t248 x10_3).f2) ((rd_T45 t248 x10_3).f3) ((rd_T45 t248 x10_3).f4) ((rd_T45 t248 x10_3).f5)) else (none)) else (none)) = some r := by first | (rw [hji38] at H; exact H) | (simp only [hji38] at H ⊢; exact H)
                    have hji38w : (IntKind.i64.wrap (x10_3 - 1)) = ji38 := (i64_w _).trans hji38
                    by_cases c39 : 0 ≤ (ji38)
                    ·rw [if_pos c39] at H
                     have c39b0 : decide (0 ≤ (ji38)) = true := decide_eq_true c39
                     clear c39
                     by_cases c40 : (ji38) < (t248.length : Int)
                     ·rw [if_pos c40] at H
                      have c40b0 : decide ((ji38) < (t248.length : Int)) = true := decide_eq_true c40
                      clear c40
                      have H' := Aside0.mk H
                      clear H
                      have hcz41_0 : w26.cell? ⟨gb256, 0, none⟩ = some (.int .i64 0) := (blk_cell BK256.out 0).trans rfl
                      have hcz41_1 : w26.cell? ⟨gb256, 1, none⟩ = some (.bool false) := (blk_cell BK256.out 1).trans rfl
                      have hcz41_2 : w26.cell? ⟨gb256, 2, none⟩ = some (.int .u64 0) := (blk_cell BK256.out 2).trans rfl
                      have hcz41_3 : w26.cell? ⟨gb256, 3, none⟩ = some (.int .i64 0) := (blk_cell BK256.out 3).trans rfl
                      have hcz41_4 : w26.cell? ⟨gb256, 4, none⟩ = some (.int .i64 0) := (blk_cell BK256.out 4).trans rfl
                      have hcz41_5 : w26.cell? ⟨gb256, 5, none⟩ = some (.int .i64 0) := (blk_cell BK256.out 5).trans rfl
                      have hfz41_0 := blk_frozen BK256.out 0
                      have hfz41_1 := blk_frozen BK256.out 1
                      have hfz41_2 := blk_frozen BK256.out 2
                      have hfz41_3 := blk_frozen BK256.out 3
                      have hfz41_4 := blk_frozen BK256.out 4
                      have hfz41_5 := blk_frozen BK256.out 5
                      have p257 : 0 ≤ ((ji38) : Int) := of_decide_eq_true (by first | (with_reducible assumption) | assumption)
                      have q257 : (ji38) < (t248.length : Int) := of_decide_eq_true (by first | (with_reducible assumption) | assumption)
                      obtain ⟨ad257, e257, hx257_0, hx257_1, hx257_2, hx257_3, hx257_4, hx257_5⟩ := at_T45 (Kd.R_reads' HO_7.out).2.2 (ji38) p257 q257
                      obtain rfl : ad255 = ad257 := (by injection e257)
                      clear hx257_0 hx257_1 hx257_2 hx257_3 hx257_5
                      have hn257_0 : ad255.block ≠ gb256 := Kd.own_blk (by first | exact Kd.R_ne HO_7.out BK256.out (by decide) | exact Kd.R_away HO_7.out (fun _ hk => hk.2))
                      have hn257_1 : ad255.block ≠ gb256 := Kd.own_blk (by first | exact Kd.R_ne HO_7.out BK256.out (by decide) | exact Kd.R_away HO_7.out (fun _ hk => hk.2))
                      have hn257_2 : ad255.block ≠ gb256 := Kd.own_blk (by first | exact Kd.R_ne HO_7.out BK256.out (by decide) | exact Kd.R_away HO_7.out (fun _ hk => hk.2))
                      have hn257_3 : ad255.block ≠ gb256 := Kd.own_blk (by first | exact Kd.R_ne HO_7.out BK256.out (by decide) | exact Kd.R_away HO_7.out (fun _ hk => hk.2))
                      have hn257_4 : ad255.block ≠ gb256 := Kd.own_blk (by first | exact Kd.R_ne HO_7.out BK256.out (by decide) | exact Kd.R_away HO_7.out (fun _ hk => hk.2))
                      have hn257_5 : ad255.block ≠ gb256 := Kd.own_blk (by first | exact Kd.R_ne HO_7.out BK256.out (by decide) | exact Kd.R_away HO_7.out (fun _ hk => hk.2))
                      replace hx257_4 := (cell_far (p := ⟨gb256, 0, none⟩) (by first | (rw [add_block]; exact hn257_0) | (show (Addr.add _ _).block ≠ _; rw [add_block]; exact hn257_0) | exact hn257_0) (.int .i64 ((rd_T45 t248 x10_3).f0))).trans hx257_4
                      replace hx257_4 := (cell_far (p := ⟨gb256, 1, none⟩) (by first | (rw [add_block]; exact hn257_1) | (show (Addr.add _ _).block ≠ _; rw [add_block]; exact hn257_1) | exact hn257_1) (.bool ((rd_T45 t248 x10_3).f1))).trans hx257_4
                      replace hx257_4 := (cell_far (p := ⟨gb256, 2, none⟩) (by first | (rw [add_block]; exact hn257_2) | (show (Addr.add _ _).block ≠ _; rw [add_block]; exact hn257_2) | exact hn257_2) (.int .u64 ((rd_T45 t248 x10_3).f2))).trans hx257_4
                      replace hx257_4 := (cell_far (p := ⟨gb256, 3, none⟩) (by first | (rw [add_block]; exact hn257_3) | (show (Addr.add _ _).block ≠ _; rw [add_block]; exact hn257_3) | exact hn257_3) (.int .i64 ((rd_T45 t248 x10_3).f3))).trans hx257_4
                      replace hx257_4 := (cell_far (p := ⟨gb256, 4, none⟩) (by first | (rw [add_block]; exact hn257_4) | (show (Addr.add _ _).block ≠ _; rw [add_block]; exact hn257_4) | exact hn257_4) (.int .i64 ((rd_T45 t248 x10_3).f4))).trans hx257_4
                      replace hx257_4 := (cell_far (p := ⟨gb256, 5, none⟩) (by first | (rw [add_block]; exact hn257_5) | (show (Addr.add _ _).block ≠ _; rw [add_block]; exact hn257_5) | exact hn257_5) (.int .i64 ((rd_T45 t248 x10_3).f5))).trans hx257_4
                      have hy257_4 := fun (n_ : Nat) => cell_drewn6 n_ hx257_4
                      clear hn257_0
                      clear hn257_1
                      clear hn257_2
                      clear hn257_3
                      clear hn257_4
                      clear hn257_5
                      replace p257 := eq_true p257
                      replace q257 := eq_true q257
                      go_wp2
                      (refine wp_region_quiet_lit (by as_aux_lemma => kernel_rfl) HLX.out ?_); (repeat (go_big_quiet_step (fail))); refine wpQuiet_nil ?_; intro _ hw'; obtain ⟨nq, hw''⟩ := hw'; subst hw''; try go_wp2
                      go_meet
                      case rel => exact ⟨_, (decide (((rd_T45 t248 x10_3).f4) ≤ ((rd_T45 t248 (ji38)).f4))), (by first | rfl | (simp; done) | (simp only [← hji38] <;> (first | rfl | simp)) | (simp [*]; done)), H', ⟨by have := HJ2.out; have := HJ9.out; have := HK3.out; first | omega | exact Nat.le_refl _⟩, ⟨by (with_reducible repeat (first | apply Kd.R_alloc | apply Kd.R_drewN | apply Kd.R_drew)); exact Kd.R_mono (Kd.R_far (p := ⟨gb256, 5, none⟩) (Kd.R_far (p := ⟨gb256, 4, none⟩) (Kd.R_far (p := ⟨gb256, 3, none⟩) (Kd.R_far (p := ⟨gb256, 2, none⟩) (Kd.R_far (p := ⟨gb256, 1, none⟩) (Kd.R_far (p := ⟨gb256, 0, none⟩) (Kd.R_types HO_4.out BK256.out (by decide)) (fun _ hk => hk.2) (.int .i64 ((rd_T45 t248 x10_3).f0))) (fun _ hk => hk.2) (.bool ((rd_T45 t248 x10_3).f1))) (fun _ hk => hk.2) (.int .u64 ((rd_T45 t248 x10_3).f2))) (fun _ hk => hk.2) (.int .i64 ((rd_T45 t248 x10_3).f3))) (fun _ hk => hk.2) (.int .i64 ((rd_T45 t248 x10_3).f4))) (fun _ hk => hk.2) (.int .i64 ((rd_T45 t248 x10_3).f5))) (fun _ hk => trivial)⟩, ⟨by (with_reducible repeat (first | apply Kd.R_alloc | apply Kd.R_drewN | apply Kd.R_drew)); exact Kd.R_mono (Kd.R_far (p := ⟨gb256, 5, none⟩) (Kd.R_far (p := ⟨gb256, 4, none⟩) (Kd.R_far (p := ⟨gb256, 3, none⟩) (Kd.R_far (p := ⟨gb256, 2, none⟩) (Kd.R_far (p := ⟨gb256, 1, none⟩) (Kd.R_far (p := ⟨gb256, 0, none⟩) (Kd.R_mono HO_7.out (fun k_ hk => (⟨hk, hk.2⟩ : _ ∧ k_ ≠ gb256))) (fun _ hk => hk.2) (.int .i64 ((rd_T45 t248 x10_3).f0))) (fun _ hk => hk.2) (.bool ((rd_T45 t248 x10_3).f1))) (fun _ hk => hk.2) (.int .u64 ((rd_T45 t248 x10_3).f2))) (fun _ hk => hk.2) (.int .i64 ((rd_T45 t248 x10_3).f3))) (fun _ hk => hk.2) (.int .i64 ((rd_T45 t248 x10_3).f4))) (fun _ hk => hk.2) (.int .i64 ((rd_T45 t248 x10_3).f5))) (fun _ hk => hk.1.2)⟩, ⟨by (with_reducible repeat (first | apply Kd.R_alloc | apply Kd.R_drewN | apply Kd.R_drew)); exact Kd.R_mono (Kd.R_far (p := ⟨gb256, 5, none⟩) (Kd.R_far (p := ⟨gb256, 4, none⟩) (Kd.R_far (p := ⟨gb256, 3, none⟩) (Kd.R_far (p := ⟨gb256, 2, none⟩) (Kd.R_far (p := ⟨gb256, 1, none⟩) (Kd.R_far (p := ⟨gb256, 0, none⟩) (Kd.R_types HO_9.out BK256.out (by decide)) (fun _ hk => hk.2) (.int .i64 ((rd_T45 t248 x10_3).f0))) (fun _ hk => hk.2) (.bool ((rd_T45 t248 x10_3).f1))) (fun _ hk => hk.2) (.int .u64 ((rd_T45 t248 x10_3).f2))) (fun _ hk => hk.2) (.int .i64 ((rd_T45 t248 x10_3).f3))) (fun _ hk => hk.2) (.int .i64 ((rd_T45 t248 x10_3).f4))) (fun _ hk => hk.2) (.int .i64 ((rd_T45 t248 x10_3).f5))) (fun _ hk => trivial)⟩, ⟨by (with_reducible repeat (first | refine blk_drewN ?_ _ | refine blk_drew ?_ | refine blk_alloc ?_ _)); refine blk_put (cs := #[.int .i64 ((rd_T45 t248 x10_3).f0), .bool ((rd_T45 t248 x10_3).f1), .int .u64 ((rd_T45 t248 x10_3).f2), .int .i64 ((rd_T45 t248 x10_3).f3), .int .i64 ((rd_T45 t248 x10_3).f4), .int .i64 0]) ?_ 5 _ rfl; (with_reducible repeat (first | refine blk_drewN ?_ _ | refine blk_drew ?_ | refine blk_alloc ?_ _)); refine blk_put (cs := #[.int .i64 ((rd_T45 t248 x10_3).f0), .bool ((rd_T45 t248 x10_3).f1), .int .u64 ((rd_T45 t248 x10_3).f2), .int .i64 ((rd_T45 t248 x10_3).f3), .int .i64 0, .int .i64 0]) ?_ 4 _ rfl; (with_reducible repeat (first | refine blk_drewN ?_ _ | refine blk_drew ?_ | refine blk_alloc ?_ _)); refine blk_put (cs := #[.int .i64 ((rd_T45 t248 x10_3).f0), .bool ((rd_T45 t248 x10_3).f1), .int .u64 ((rd_T45 t248 x10_3).f2), .int .i64 0, .int .i64 0, .int .i64 0]) ?_ 3 _ rfl; (with_reducible repeat (first | refine blk_drewN ?_ _ | refine blk_drew ?_ | refine blk_alloc ?_ _)); refine blk_put (cs := #[.int .i64 ((rd_T45 t248 x10_3).f0), .bool ((rd_T45 t248 x10_3).f1), .int .u64 0, .int .i64 0, .int .i64 0, .int .i64 0]) ?_ 2 _ rfl; (with_reducible repeat (first | refine blk_drewN ?_ _ | refine blk_drew ?_ | refine blk_alloc ?_ _)); refine blk_put (cs := #[.int .i64 ((rd_T45 t248 x10_3).f0), .bool false, .int .u64 0, .int .i64 0, .int .i64 0, .int .i64 0]) ?_ 1 _ rfl; (with_reducible repeat (first | refine blk_drewN ?_ _ | refine blk_drew ?_ | refine blk_alloc ?_ _)); refine blk_put (cs := #[.int .i64 0, .bool false, .int .u64 0, .int .i64 0, .int .i64 0, .int .i64 0]) ?_ 0 _ rfl; (with_reducible repeat (first | refine blk_drewN ?_ _ | refine blk_drew ?_ | refine blk_alloc ?_ _)); exact BK256.out⟩, ⟨by repeat (first | (with_reducible first | exact HB.out | apply below_alloc | apply pw_below_drewN | apply below_drew1 | refine below_set ?_ GE256.out) | exact HB.out)⟩⟩
                     ·rw [if_neg c40] at H
                      exact absurd H (by simp)
                    ·rw [if_neg c39] at H
                     exact absurd H (by simp)
                   ·rw [if_neg c37] at H
                    have c37b0 : decide (0 < x10_3) = false := decide_eq_false c37
                    clear c37
                    have H' := Aside0.mk H
                    clear H
                    have hcz42_0 : w26.cell? ⟨gb256, 0, none⟩ = some (.int .i64 0) := (blk_cell BK256.out 0).trans rfl
                    have hcz42_1 : w26.cell? ⟨gb256, 1, none⟩ = some (.bool false) := (blk_cell BK256.out 1).trans rfl
                    have hcz42_2 : w26.cell? ⟨gb256, 2, none⟩ = some (.int .u64 0) := (blk_cell BK256.out 2).trans rfl
                    have hcz42_3 : w26.cell? ⟨gb256, 3, none⟩ = some (.int .i64 0) := (blk_cell BK256.out 3).trans rfl
                    have hcz42_4 : w26.cell? ⟨gb256, 4, none⟩ = some (.int .i64 0) := (blk_cell BK256.out 4).trans rfl
                    have hcz42_5 : w26.cell? ⟨gb256, 5, none⟩ = some (.int .i64 0) := (blk_cell BK256.out 5).trans rfl
                    have hfz42_0 := blk_frozen BK256.out 0
                    have hfz42_1 := blk_frozen BK256.out 1
                    have hfz42_2 := blk_frozen BK256.out 2
                    have hfz42_3 := blk_frozen BK256.out 3
                    have hfz42_4 := blk_frozen BK256.out 4
                    have hfz42_5 := blk_frozen BK256.out 5
                    go_wp2
                    (refine wp_region_quiet_lit (by as_aux_lemma => kernel_rfl) HLX.out ?_); (repeat (go_big_quiet_step (fail))); refine wpQuiet_nil ?_; intro _ hw'; obtain ⟨nq, hw''⟩ := hw'; subst hw''; try go_wp2
                    go_meet
                    case rel => exact ⟨_, (false), (by first | rfl | (simp; done) | (simp [*]; done)), H', ⟨by have := HJ2.out; have := HJ9.out; have := HK3.out; first | omega | exact Nat.le_refl _⟩, ⟨by (with_reducible repeat (first | apply Kd.R_alloc | apply Kd.R_drewN | apply Kd.R_drew)); exact Kd.R_mono (Kd.R_far (p := ⟨gb256, 5, none⟩) (Kd.R_far (p := ⟨gb256, 4, none⟩) (Kd.R_far (p := ⟨gb256, 3, none⟩) (Kd.R_far (p := ⟨gb256, 2, none⟩) (Kd.R_far (p := ⟨gb256, 1, none⟩) (Kd.R_far (p := ⟨gb256, 0, none⟩) (Kd.R_types HO_4.out BK256.out (by decide)) (fun _ hk => hk.2) (.int .i64 ((rd_T45 t248 x10_3).f0))) (fun _ hk => hk.2) (.bool ((rd_T45 t248 x10_3).f1))) (fun _ hk => hk.2) (.int .u64 ((rd_T45 t248 x10_3).f2))) (fun _ hk => hk.2) (.int .i64 ((rd_T45 t248 x10_3).f3))) (fun _ hk => hk.2) (.int .i64 ((rd_T45 t248 x10_3).f4))) (fun _ hk => hk.2) (.int .i64 ((rd_T45 t248 x10_3).f5))) (fun _ hk => trivial)⟩, ⟨by (with_reducible repeat (first | apply Kd.R_alloc | apply Kd.R_drewN | apply Kd.R_drew)); exact Kd.R_mono (Kd.R_far (p := ⟨gb256, 5, none⟩) (Kd.R_far (p := ⟨gb256, 4, none⟩) (Kd.R_far (p := ⟨gb256, 3, none⟩) (Kd.R_far (p := ⟨gb256, 2, none⟩) (Kd.R_far (p := ⟨gb256, 1, none⟩) (Kd.R_far (p := ⟨gb256, 0, none⟩) (Kd.R_mono HO_7.out (fun k_ hk => (⟨hk, hk.2⟩ : _ ∧ k_ ≠ gb256))) (fun _ hk => hk.2) (.int .i64 ((rd_T45 t248 x10_3).f0))) (fun _ hk => hk.2) (.bool ((rd_T45 t248 x10_3).f1))) (fun _ hk => hk.2) (.int .u64 ((rd_T45 t248 x10_3).f2))) (fun _ hk => hk.2) (.int .i64 ((rd_T45 t248 x10_3).f3))) (fun _ hk => hk.2) (.int .i64 ((rd_T45 t248 x10_3).f4))) (fun _ hk => hk.2) (.int .i64 ((rd_T45 t248 x10_3).f5))) (fun _ hk => hk.1.2)⟩, ⟨by (with_reducible repeat (first | apply Kd.R_alloc | apply Kd.R_drewN | apply Kd.R_drew)); exact Kd.R_mono (Kd.R_far (p := ⟨gb256, 5, none⟩) (Kd.R_far (p := ⟨gb256, 4, none⟩) (Kd.R_far (p := ⟨gb256, 3, none⟩) (Kd.R_far (p := ⟨gb256, 2, none⟩) (Kd.R_far (p := ⟨gb256, 1, none⟩) (Kd.R_far (p := ⟨gb256, 0, none⟩) (Kd.R_types HO_9.out BK256.out (by decide)) (fun _ hk => hk.2) (.int .i64 ((rd_T45 t248 x10_3).f0))) (fun _ hk => hk.2) (.bool ((rd_T45 t248 x10_3).f1))) (fun _ hk => hk.2) (.int .u64 ((rd_T45 t248 x10_3).f2))) (fun _ hk => hk.2) (.int .i64 ((rd_T45 t248 x10_3).f3))) (fun _ hk => hk.2) (.int .i64 ((rd_T45 t248 x10_3).f4))) (fun _ hk => hk.2) (.int .i64 ((rd_T45 t248 x10_3).f5))) (fun _ hk => trivial)⟩, ⟨by (with_reducible repeat (first | refine blk_drewN ?_ _ | refine blk_drew ?_ | refine blk_alloc ?_ _)); refine blk_put (cs := #[.int .i64 ((rd_T45 t248 x10_3).f0), .bool ((rd_T45 t248 x10_3).f1), .int .u64 ((rd_T45 t248 x10_3).f2), .int .i64 ((rd_T45 t248 x10_3).f3), .int .i64 ((rd_T45 t248 x10_3).f4), .int .i64 0]) ?_ 5 _ rfl; (with_reducible repeat (first | refine blk_drewN ?_ _ | refine blk_drew ?_ | refine blk_alloc ?_ _)); refine blk_put (cs := #[.int .i64 ((rd_T45 t248 x10_3).f0), .bool ((rd_T45 t248 x10_3).f1), .int .u64 ((rd_T45 t248 x10_3).f2), .int .i64 ((rd_T45 t248 x10_3).f3), .int .i64 0, .int .i64 0]) ?_ 4 _ rfl; (with_reducible repeat (first | refine blk_drewN ?_ _ | refine blk_drew ?_ | refine blk_alloc ?_ _)); refine blk_put (cs := #[.int .i64 ((rd_T45 t248 x10_3).f0), .bool ((rd_T45 t248 x10_3).f1), .int .u64 ((rd_T45 t248 x10_3).f2), .int .i64 0, .int .i64 0, .int .i64 0]) ?_ 3 _ rfl; (with_reducible repeat (first | refine blk_drewN ?_ _ | refine blk_drew ?_ | refine blk_alloc ?_ _)); refine blk_put (cs := #[.int .i64 ((rd_T45 t248 x10_3).f0), .bool ((rd_T45 t248 x10_3).f1), .int .u64 0, .int .i64 0, .int .i64 0, .int .i64 0]) ?_ 2 _ rfl; (with_reducible repeat (first | refine blk_drewN ?_ _ | refine blk_drew ?_ | refine blk_alloc ?_ _)); refine blk_put (cs := #[.int .i64 ((rd_T45 t248 x10_3).f0), .bool false, .int .u64 0, .int .i64 0, .int .i64 0, .int .i64 0]) ?_ 1 _ rfl; (with_reducible repeat (first | refine blk_drewN ?_ _ | refine blk_drew ?_ | refine blk_alloc ?_ _)); refine blk_put (cs := #[.int .i64 0, .bool false, .int .u64 0, .int .i64 0, .int .i64 0, .int .i64 0]) ?_ 0 _ rfl; (with_reducible repeat (first | refine blk_drewN ?_ _ | refine blk_drew ?_ | refine blk_alloc ?_ _)); exact BK256.out⟩, ⟨by repeat (first | (with_reducible first | exact HB.out | apply below_alloc | apply pw_below_drewN | apply below_drew1 | refine below_set ?_ GE256.out) | exact HB.out)⟩⟩
                 ·rw [if_neg c34] at H
                  have c34b0 : decide (0 ≤ ((rd_T45 t248 x10_3).f5)) = false := decide_eq_false c34
                  clear c34
                  by_cases c43 : x10_3 > 0
                  ·rw [if_pos c43] at H
                   have c43b0 : decide (0 < x10_3) = true := decide_eq_true c43
                   clear c43
                   obtain ⟨ji44, hji44⟩ : ∃ j_ : Int, (wrap64 (x10_3 - 1)) = j_ := ⟨_, rfl⟩
                   replace H : (if 0 ≤ (ji44) then (if (ji44) < (t248.length : Int) then (hatstandlaw14_HistoryRight.j3 k3 t243 t248 x9_3 x10_3 (decide (((rd_T45 t248 x10_3).f4) ≤ ((rd_T45 t248 (ji44)).f4))) ((rd_T45 t248 x10_3).f0) ((rd_T45 t248 x10_3).f1) ((rd_T45 t248 x10_3).f2) ((rd_T45 t248 x10_3).f3) ((rd_T45 t248 x10_3).f4) ((rd_T45 t248 x10_3).f5)) else (none)) else (none)) = some r := by first | (rw [hji44] at H; exact H) | (simp only [hji44] at H ⊢; exact H)
                   have hji44w : (IntKind.i64.wrap (x10_3 - 1)) = ji44 := (i64_w _).trans hji44
                   by_cases c45 : 0 ≤ (ji44)
                   ·rw [if_pos c45] at H
                    have c45b0 : decide (0 ≤ (ji44)) = true := decide_eq_true c45
                    clear c45
                    by_cases c46 : (ji44) < (t248.length : Int)
                    ·rw [if_pos c46] at H
                     have c46b0 : decide ((ji44) < (t248.length : Int)) = true := decide_eq_true c46
                     clear c46
                     have H' := Aside0.mk H
                     clear H
                     have hcz47_0 : w26.cell? ⟨gb256, 0, none⟩ = some (.int .i64 0) := (blk_cell BK256.out 0).trans rfl
                     have hcz47_1 : w26.cell? ⟨gb256, 1, none⟩ = some (.bool false) := (blk_cell BK256.out 1).trans rfl
                     have hcz47_2 : w26.cell? ⟨gb256, 2, none⟩ = some (.int .u64 0) := (blk_cell BK256.out 2).trans rfl
                     have hcz47_3 : w26.cell? ⟨gb256, 3, none⟩ = some (.int .i64 0) := (blk_cell BK256.out 3).trans rfl
                     have hcz47_4 : w26.cell? ⟨gb256, 4, none⟩ = some (.int .i64 0) := (blk_cell BK256.out 4).trans rfl
                     have hcz47_5 : w26.cell? ⟨gb256, 5, none⟩ = some (.int .i64 0) := (blk_cell BK256.out 5).trans rfl
                     have hfz47_0 := blk_frozen BK256.out 0
                     have hfz47_1 := blk_frozen BK256.out 1
                     have hfz47_2 := blk_frozen BK256.out 2
                     have hfz47_3 := blk_frozen BK256.out 3
                     have hfz47_4 := blk_frozen BK256.out 4
                     have hfz47_5 := blk_frozen BK256.out 5
                     have p258 : 0 ≤ ((ji44) : Int) := of_decide_eq_true (by first | (with_reducible assumption) | assumption)
                     have q258 : (ji44) < (t248.length : Int) := of_decide_eq_true (by first | (with_reducible assumption) | assumption)
                     obtain ⟨ad258, e258, hx258_0, hx258_1, hx258_2, hx258_3, hx258_4, hx258_5⟩ := at_T45 (Kd.R_reads' HO_7.out).2.2 (ji44) p258 q258
                     obtain rfl : ad255 = ad258 := (by injection e258)
                     clear hx258_0 hx258_1 hx258_2 hx258_3 hx258_5
                     have hn258_0 : ad255.block ≠ gb256 := Kd.own_blk (by first | exact Kd.R_ne HO_7.out BK256.out (by decide) | exact Kd.R_away HO_7.out (fun _ hk => hk.2))
                     have hn258_1 : ad255.block ≠ gb256 := Kd.own_blk (by first | exact Kd.R_ne HO_7.out BK256.out (by decide) | exact Kd.R_away HO_7.out (fun _ hk => hk.2))
                     have hn258_2 : ad255.block ≠ gb256 := Kd.own_blk (by first | exact Kd.R_ne HO_7.out BK256.out (by decide) | exact Kd.R_away HO_7.out (fun _ hk => hk.2))
                     have hn258_3 : ad255.block ≠ gb256 := Kd.own_blk (by first | exact Kd.R_ne HO_7.out BK256.out (by decide) | exact Kd.R_away HO_7.out (fun _ hk => hk.2))
                     have hn258_4 : ad255.block ≠ gb256 := Kd.own_blk (by first | exact Kd.R_ne HO_7.out BK256.out (by decide) | exact Kd.R_away HO_7.out (fun _ hk => hk.2))
                     have hn258_5 : ad255.block ≠ gb256 := Kd.own_blk (by first | exact Kd.R_ne HO_7.out BK256.out (by decide) | exact Kd.R_away HO_7.out (fun _ hk => hk.2))
                     replace hx258_4 := (cell_far (p := ⟨gb256, 0, none⟩) (by first | (rw [add_block]; exact hn258_0) | (show (Addr.add _ _).block ≠ _; rw [add_block]; exact hn258_0) | exact hn258_0) (.int .i64 ((rd_T45 t248 x10_3).f0))).trans hx258_4
                     replace hx258_4 := (cell_far (p := ⟨gb256, 1, none⟩) (by first | (rw [add_block]; exact hn258_1) | (show (Addr.add _ _).block ≠ _; rw [add_block]; exact hn258_1) | exact hn258_1) (.bool ((rd_T45 t248 x10_3).f1))).trans hx258_4
                     replace hx258_4 := (cell_far (p := ⟨gb256, 2, none⟩) (by first | (rw [add_block]; exact hn258_2) | (show (Addr.add _ _).block ≠ _; rw [add_block]; exact hn258_2) | exact hn258_2) (.int .u64 ((rd_T45 t248 x10_3).f2))).trans hx258_4
                     replace hx258_4 := (cell_far (p := ⟨gb256, 3, none⟩) (by first | (rw [add_block]; exact hn258_3) | (show (Addr.add _ _).block ≠ _; rw [add_block]; exact hn258_3) | exact hn258_3) (.int .i64 ((rd_T45 t248 x10_3).f3))).trans hx258_4
                     replace hx258_4 := (cell_far (p := ⟨gb256, 4, none⟩) (by first | (rw [add_block]; exact hn258_4) | (show (Addr.add _ _).block ≠ _; rw [add_block]; exact hn258_4) | exact hn258_4) (.int .i64 ((rd_T45 t248 x10_3).f4))).trans hx258_4
                     replace hx258_4 := (cell_far (p := ⟨gb256, 5, none⟩) (by first | (rw [add_block]; exact hn258_5) | (show (Addr.add _ _).block ≠ _; rw [add_block]; exact hn258_5) | exact hn258_5) (.int .i64 ((rd_T45 t248 x10_3).f5))).trans hx258_4
                     have hy258_4 := fun (n_ : Nat) => cell_drewn6 n_ hx258_4
                     clear hn258_0
                     clear hn258_1
                     clear hn258_2
                     clear hn258_3
                     clear hn258_4
                     clear hn258_5
                     replace p258 := eq_true p258
                     replace q258 := eq_true q258
                     go_wp2
                     (refine wp_region_quiet_lit (by as_aux_lemma => kernel_rfl) HLX.out ?_); (repeat (go_big_quiet_step (fail))); refine wpQuiet_nil ?_; intro _ hw'; obtain ⟨nq, hw''⟩ := hw'; subst hw''; try go_wp2
                     go_meet
                     case rel => exact ⟨_, (decide (((rd_T45 t248 x10_3).f4) ≤ ((rd_T45 t248 (ji44)).f4))), (by first | rfl | (simp; done) | (simp only [← hji44] <;> (first | rfl | simp)) | (simp [*]; done)), H', ⟨by have := HJ2.out; have := HJ9.out; have := HK3.out; first | omega | exact Nat.le_refl _⟩, ⟨by (with_reducible repeat (first | apply Kd.R_alloc | apply Kd.R_drewN | apply Kd.R_drew)); exact Kd.R_mono (Kd.R_far (p := ⟨gb256, 5, none⟩) (Kd.R_far (p := ⟨gb256, 4, none⟩) (Kd.R_far (p := ⟨gb256, 3, none⟩) (Kd.R_far (p := ⟨gb256, 2, none⟩) (Kd.R_far (p := ⟨gb256, 1, none⟩) (Kd.R_far (p := ⟨gb256, 0, none⟩) (Kd.R_types HO_4.out BK256.out (by decide)) (fun _ hk => hk.2) (.int .i64 ((rd_T45 t248 x10_3).f0))) (fun _ hk => hk.2) (.bool ((rd_T45 t248 x10_3).f1))) (fun _ hk => hk.2) (.int .u64 ((rd_T45 t248 x10_3).f2))) (fun _ hk => hk.2) (.int .i64 ((rd_T45 t248 x10_3).f3))) (fun _ hk => hk.2) (.int .i64 ((rd_T45 t248 x10_3).f4))) (fun _ hk => hk.2) (.int .i64 ((rd_T45 t248 x10_3).f5))) (fun _ hk => trivial)⟩, ⟨by (with_reducible repeat (first | apply Kd.R_alloc | apply Kd.R_drewN | apply Kd.R_drew)); exact Kd.R_mono (Kd.R_far (p := ⟨gb256, 5, none⟩) (Kd.R_far (p := ⟨gb256, 4, none⟩) (Kd.R_far (p := ⟨gb256, 3, none⟩) (Kd.R_far (p := ⟨gb256, 2, none⟩) (Kd.R_far (p := ⟨gb256, 1, none⟩) (Kd.R_far (p := ⟨gb256, 0, none⟩) (Kd.R_mono HO_7.out (fun k_ hk => (⟨hk, hk.2⟩ : _ ∧ k_ ≠ gb256))) (fun _ hk => hk.2) (.int .i64 ((rd_T45 t248 x10_3).f0))) (fun _ hk => hk.2) (.bool ((rd_T45 t248 x10_3).f1))) (fun _ hk => hk.2) (.int .u64 ((rd_T45 t248 x10_3).f2))) (fun _ hk => hk.2) (.int .i64 ((rd_T45 t248 x10_3).f3))) (fun _ hk => hk.2) (.int .i64 ((rd_T45 t248 x10_3).f4))) (fun _ hk => hk.2) (.int .i64 ((rd_T45 t248 x10_3).f5))) (fun _ hk => hk.1.2)⟩, ⟨by (with_reducible repeat (first | apply Kd.R_alloc | apply Kd.R_drewN | apply Kd.R_drew)); exact Kd.R_mono (Kd.R_far (p := ⟨gb256, 5, none⟩) (Kd.R_far (p := ⟨gb256, 4, none⟩) (Kd.R_far (p := ⟨gb256, 3, none⟩) (Kd.R_far (p := ⟨gb256, 2, none⟩) (Kd.R_far (p := ⟨gb256, 1, none⟩) (Kd.R_far (p := ⟨gb256, 0, none⟩) (Kd.R_types HO_9.out BK256.out (by decide)) (fun _ hk => hk.2) (.int .i64 ((rd_T45 t248 x10_3).f0))) (fun _ hk => hk.2) (.bool ((rd_T45 t248 x10_3).f1))) (fun _ hk => hk.2) (.int .u64 ((rd_T45 t248 x10_3).f2))) (fun _ hk => hk.2) (.int .i64 ((rd_T45 t248 x10_3).f3))) (fun _ hk => hk.2) (.int .i64 ((rd_T45 t248 x10_3).f4))) (fun _ hk => hk.2) (.int .i64 ((rd_T45 t248 x10_3).f5))) (fun _ hk => trivial)⟩, ⟨by (with_reducible repeat (first | refine blk_drewN ?_ _ | refine blk_drew ?_ | refine blk_alloc ?_ _)); refine blk_put (cs := #[.int .i64 ((rd_T45 t248 x10_3).f0), .bool ((rd_T45 t248 x10_3).f1), .int .u64 ((rd_T45 t248 x10_3).f2), .int .i64 ((rd_T45 t248 x10_3).f3), .int .i64 ((rd_T45 t248 x10_3).f4), .int .i64 0]) ?_ 5 _ rfl; (with_reducible repeat (first | refine blk_drewN ?_ _ | refine blk_drew ?_ | refine blk_alloc ?_ _)); refine blk_put (cs := #[.int .i64 ((rd_T45 t248 x10_3).f0), .bool ((rd_T45 t248 x10_3).f1), .int .u64 ((rd_T45 t248 x10_3).f2), .int .i64 ((rd_T45 t248 x10_3).f3), .int .i64 0, .int .i64 0]) ?_ 4 _ rfl; (with_reducible repeat (first | refine blk_drewN ?_ _ | refine blk_drew ?_ | refine blk_alloc ?_ _)); refine blk_put (cs := #[.int .i64 ((rd_T45 t248 x10_3).f0), .bool ((rd_T45 t248 x10_3).f1), .int .u64 ((rd_T45 t248 x10_3).f2), .int .i64 0, .int .i64 0, .int .i64 0]) ?_ 3 _ rfl; (with_reducible repeat (first | refine blk_drewN ?_ _ | refine blk_drew ?_ | refine blk_alloc ?_ _)); refine blk_put (cs := #[.int .i64 ((rd_T45 t248 x10_3).f0), .bool ((rd_T45 t248 x10_3).f1), .int .u64 0, .int .i64 0, .int .i64 0, .int .i64 0]) ?_ 2 _ rfl; (with_reducible repeat (first | refine blk_drewN ?_ _ | refine blk_drew ?_ | refine blk_alloc ?_ _)); refine blk_put (cs := #[.int .i64 ((rd_T45 t248 x10_3).f0), .bool false, .int .u64 0, .int .i64 0, .int .i64 0, .int .i64 0]) ?_ 1 _ rfl; (with_reducible repeat (first | refine blk_drewN ?_ _ | refine blk_drew ?_ | refine blk_alloc ?_ _)); refine blk_put (cs := #[.int .i64 0, .bool false, .int .u64 0, .int .i64 0, .int .i64 0, .int .i64 0]) ?_ 0 _ rfl; (with_reducible repeat (first | refine blk_drewN ?_ _ | refine blk_drew ?_ | refine blk_alloc ?_ _)); exact BK256.out⟩, ⟨by repeat (first | (with_reducible first | exact HB.out | apply below_alloc | apply pw_below_drewN | apply below_drew1 | refine below_set ?_ GE256.out) | exact HB.out)⟩⟩
                    ·rw [if_neg c46] at H
                     exact absurd H (by simp)
                   ·rw [if_neg c45] at H
                    exact absurd H (by simp)
                  ·rw [if_neg c43] at H
                   have c43b0 : decide (0 < x10_3) = false := decide_eq_false c43
                   clear c43
                   have H' := Aside0.mk H
                   clear H
                   have hcz48_0 : w26.cell? ⟨gb256, 0, none⟩ = some (.int .i64 0) := (blk_cell BK256.out 0).trans rfl
                   have hcz48_1 : w26.cell? ⟨gb256, 1, none⟩ = some (.bool false) := (blk_cell BK256.out 1).trans rfl
                   have hcz48_2 : w26.cell? ⟨gb256, 2, none⟩ = some (.int .u64 0) := (blk_cell BK256.out 2).trans rfl
                   have hcz48_3 : w26.cell? ⟨gb256, 3, none⟩ = some (.int .i64 0) := (blk_cell BK256.out 3).trans rfl
                   have hcz48_4 : w26.cell? ⟨gb256, 4, none⟩ = some (.int .i64 0) := (blk_cell BK256.out 4).trans rfl
                   have hcz48_5 : w26.cell? ⟨gb256, 5, none⟩ = some (.int .i64 0) := (blk_cell BK256.out 5).trans rfl
                   have hfz48_0 := blk_frozen BK256.out 0
                   have hfz48_1 := blk_frozen BK256.out 1
                   have hfz48_2 := blk_frozen BK256.out 2
                   have hfz48_3 := blk_frozen BK256.out 3
                   have hfz48_4 := blk_frozen BK256.out 4
                   have hfz48_5 := blk_frozen BK256.out 5
                   go_wp2
                   (refine wp_region_quiet_lit (by as_aux_lemma => kernel_rfl) HLX.out ?_); (repeat (go_big_quiet_step (fail))); refine wpQuiet_nil ?_; intro _ hw'; obtain ⟨nq, hw''⟩ := hw'; subst hw''; try go_wp2
                   go_meet
                   case rel => exact ⟨_, (false), (by first | rfl | (simp; done) | (simp [*]; done)), H', ⟨by have := HJ2.out; have := HJ9.out; have := HK3.out; first | omega | exact Nat.le_refl _⟩, ⟨by (with_reducible repeat (first | apply Kd.R_alloc | apply Kd.R_drewN | apply Kd.R_drew)); exact Kd.R_mono (Kd.R_far (p := ⟨gb256, 5, none⟩) (Kd.R_far (p := ⟨gb256, 4, none⟩) (Kd.R_far (p := ⟨gb256, 3, none⟩) (Kd.R_far (p := ⟨gb256, 2, none⟩) (Kd.R_far (p := ⟨gb256, 1, none⟩) (Kd.R_far (p := ⟨gb256, 0, none⟩) (Kd.R_types HO_4.out BK256.out (by decide)) (fun _ hk => hk.2) (.int .i64 ((rd_T45 t248 x10_3).f0))) (fun _ hk => hk.2) (.bool ((rd_T45 t248 x10_3).f1))) (fun _ hk => hk.2) (.int .u64 ((rd_T45 t248 x10_3).f2))) (fun _ hk => hk.2) (.int .i64 ((rd_T45 t248 x10_3).f3))) (fun _ hk => hk.2) (.int .i64 ((rd_T45 t248 x10_3).f4))) (fun _ hk => hk.2) (.int .i64 ((rd_T45 t248 x10_3).f5))) (fun _ hk => trivial)⟩, ⟨by (with_reducible repeat (first | apply Kd.R_alloc | apply Kd.R_drewN | apply Kd.R_drew)); exact Kd.R_mono (Kd.R_far (p := ⟨gb256, 5, none⟩) (Kd.R_far (p := ⟨gb256, 4, none⟩) (Kd.R_far (p := ⟨gb256, 3, none⟩) (Kd.R_far (p := ⟨gb256, 2, none⟩) (Kd.R_far (p := ⟨gb256, 1, none⟩) (Kd.R_far (p := ⟨gb256, 0, none⟩) (Kd.R_mono HO_7.out (fun k_ hk => (⟨hk, hk.2⟩ : _ ∧ k_ ≠ gb256))) (fun _ hk => hk.2) (.int .i64 ((rd_T45 t248 x10_3).f0))) (fun _ hk => hk.2) (.bool ((rd_T45 t248 x10_3).f1))) (fun _ hk => hk.2) (.int .u64 ((rd_T45 t248 x10_3).f2))) (fun _ hk => hk.2) (.int .i64 ((rd_T45 t248 x10_3).f3))) (fun _ hk => hk.2) (.int .i64 ((rd_T45 t248 x10_3).f4))) (fun _ hk => hk.2) (.int .i64 ((rd_T45 t248 x10_3).f5))) (fun _ hk => hk.1.2)⟩, ⟨by (with_reducible repeat (first | apply Kd.R_alloc | apply Kd.R_drewN | apply Kd.R_drew)); exact Kd.R_mono (Kd.R_far (p := ⟨gb256, 5, none⟩) (Kd.R_far (p := ⟨gb256, 4, none⟩) (Kd.R_far (p := ⟨gb256, 3, none⟩) (Kd.R_far (p := ⟨gb256, 2, none⟩) (Kd.R_far (p := ⟨gb256, 1, none⟩) (Kd.R_far (p := ⟨gb256, 0, none⟩) (Kd.R_types HO_9.out BK256.out (by decide)) (fun _ hk => hk.2) (.int .i64 ((rd_T45 t248 x10_3).f0))) (fun _ hk => hk.2) (.bool ((rd_T45 t248 x10_3).f1))) (fun _ hk => hk.2) (.int .u64 ((rd_T45 t248 x10_3).f2))) (fun _ hk => hk.2) (.int .i64 ((rd_T45 t248 x10_3).f3))) (fun _ hk => hk.2) (.int .i64 ((rd_T45 t248 x10_3).f4))) (fun _ hk => hk.2) (.int .i64 ((rd_T45 t248 x10_3).f5))) (fun _ hk => trivial)⟩, ⟨by (with_reducible repeat (first | refine blk_drewN ?_ _ | refine blk_drew ?_ | refine blk_alloc ?_ _)); refine blk_put (cs := #[.int .i64 ((rd_T45 t248 x10_3).f0), .bool ((rd_T45 t248 x10_3).f1), .int .u64 ((rd_T45 t248 x10_3).f2), .int .i64 ((rd_T45 t248 x10_3).f3), .int .i64 ((rd_T45 t248 x10_3).f4), .int .i64 0]) ?_ 5 _ rfl; (with_reducible repeat (first | refine blk_drewN ?_ _ | refine blk_drew ?_ | refine blk_alloc ?_ _)); refine blk_put (cs := #[.int .i64 ((rd_T45 t248 x10_3).f0), .bool ((rd_T45 t248 x10_3).f1), .int .u64 ((rd_T45 t248 x10_3).f2), .int .i64 ((rd_T45 t248 x10_3).f3), .int .i64 0, .int .i64 0]) ?_ 4 _ rfl; (with_reducible repeat (first | refine blk_drewN ?_ _ | refine blk_drew ?_ | refine blk_alloc ?_ _)); refine blk_put (cs := #[.int .i64 ((rd_T45 t248 x10_3).f0), .bool ((rd_T45 t248 x10_3).f1), .int .u64 ((rd_T45 t248 x10_3).f2), .int .i64 0, .int .i64 0, .int .i64 0]) ?_ 3 _ rfl; (with_reducible repeat (first | refine blk_drewN ?_ _ | refine blk_drew ?_ | refine blk_alloc ?_ _)); refine blk_put (cs := #[.int .i64 ((rd_T45 t248 x10_3).f0), .bool ((rd_T45 t248 x10_3).f1), .int .u64 0, .int .i64 0, .int .i64 0, .int .i64 0]) ?_ 2 _ rfl; (with_reducible repeat (first | refine blk_drewN ?_ _ | refine blk_drew ?_ | refine blk_alloc ?_ _)); refine blk_put (cs := #[.int .i64 ((rd_T45 t248 x10_3).f0), .bool false, .int .u64 0, .int .i64 0, .int .i64 0, .int .i64 0]) ?_ 1 _ rfl; (with_reducible repeat (first | refine blk_drewN ?_ _ | refine blk_drew ?_ | refine blk_alloc ?_ _)); refine blk_put (cs := #[.int .i64 0, .bool false, .int .u64 0, .int .i64 0, .int .i64 0, .int .i64 0]) ?_ 0 _ rfl; (with_reducible repeat (first | refine blk_drewN ?_ _ | refine blk_drew ?_ | refine blk_alloc ?_ _)); exact BK256.out⟩, ⟨by repeat (first | (with_reducible first | exact HB.out | apply below_alloc | apply pw_below_drewN | apply below_drew1 | refine below_set ?_ GE256.out) | exact HB.out)⟩⟩
             case rest =>
              clear HC24
              try clear c1
              try clear c2
              try clear p2
              try clear q2
              try clear hx2
              try clear c3
              try clear c4
              try clear c5
              try clear c6
              try clear p6
              try clear c15
              try clear c15b0
              try clear c15b1
              try clear c16
              try clear c16b0
              try clear c16b1
              try clear c17
              try clear c18
              try clear c18b0
              try clear c18b1
              try clear c19
              try clear c19b0
              try clear c19b1
              try clear c22
              try clear c22b0
              try clear c23
              try clear c23b0
              try clear p25
              try clear q25
              try clear hx25
              try clear c28
              try clear c28b0
              try clear c30
              try clear c30b0
              try clear c32
              try clear c32b0
              try clear c34
              try clear c34b0
              try clear c35
              try clear c35b0
              try clear c37
              try clear c37b0
              try clear c39
              try clear c39b0
              try clear c40
              try clear c40b0
              try clear c43
              try clear c43b0
              try clear c45
              try clear c45b0
              try clear c46
              try clear c46b0
              try clear hcz27_0
              try clear hcz27_1
              try clear hcz27_2
              try clear hcz27_3
              try clear hcz27_4
              try clear hcz27_5
              try clear hcz29_0
              try clear hcz29_1
              try clear hcz29_2
              try clear hcz29_3
              try clear hcz29_4
              try clear hcz29_5
              try clear hcz31_0
              try clear hcz31_1
              try clear hcz31_2
              try clear hcz31_3
              try clear hcz31_4
              try clear hcz31_5
              try clear hcz33_0
              try clear hcz33_1
              try clear hcz33_2
              try clear hcz33_3
              try clear hcz33_4
              try clear hcz33_5
              try clear hcz36_0
              try clear hcz36_1
              try clear hcz36_2
              try clear hcz36_3
              try clear hcz36_4
              try clear hcz36_5
              try clear hcz41_0
              try clear hcz41_1
              try clear hcz41_2
              try clear hcz41_3
              try clear hcz41_4
              try clear hcz41_5
              try clear hcz42_0
              try clear hcz42_1
              try clear hcz42_2
              try clear hcz42_3
              try clear hcz42_4
              try clear hcz42_5
              try clear hcz47_0
              try clear hcz47_1
              try clear hcz47_2
              try clear hcz47_3
              try clear hcz47_4
              try clear hcz47_5
              try clear hcz48_0
              try clear hcz48_1
              try clear hcz48_2
              try clear hcz48_3
              try clear hcz48_4
              try clear hcz48_5
              try clear hfz27_0
              try clear hfz27_1
              try clear hfz27_2
              try clear hfz27_3
              try clear hfz27_4
              try clear hfz27_5
              try clear hfz29_0
              try clear hfz29_1
              try clear hfz29_2
              try clear hfz29_3
              try clear hfz29_4
              try clear hfz29_5
              try clear hfz31_0
              try clear hfz31_1
              try clear hfz31_2
              try clear hfz31_3
              try clear hfz31_4
              try clear hfz31_5
              try clear hfz33_0
              try clear hfz33_1
              try clear hfz33_2
              try clear hfz33_3
              try clear hfz33_4
              try clear hfz33_5
              try clear hfz36_0
              try clear hfz36_1
              try clear hfz36_2
              try clear hfz36_3
              try clear hfz36_4
              try clear hfz36_5
              try clear hfz41_0
              try clear hfz41_1
              try clear hfz41_2
              try clear hfz41_3
              try clear hfz41_4
              try clear hfz41_5
              try clear hfz42_0
              try clear hfz42_1
              try clear hfz42_2
              try clear hfz42_3
              try clear hfz42_4
              try clear hfz42_5
              try clear hfz47_0
              try clear hfz47_1
              try clear hfz47_2
              try clear hfz47_3
              try clear hfz47_4
              try clear hfz47_5
              try clear hfz48_0
              try clear hfz48_1
              try clear hfz48_2
              try clear hfz48_3
              try clear hfz48_4
              try clear hfz48_5
              try clear hx255_0
              try clear hx255_1
              try clear hx255_2
              try clear hx255_3
              try clear hx255_4
              try clear hx255_5
              try clear hx257_0
              try clear hx257_1
              try clear hx257_2
              try clear hx257_3
              try clear hx257_4
              try clear hx257_5
              try clear hx258_0
              try clear hx258_1
              try clear hx258_2
              try clear hx258_3
              try clear hx258_4
              try clear hx258_5
              try clear p2
              try clear p255
              try clear p257
              try clear p258
              try clear q255
              try clear q257
              try clear q258
              obtain ⟨kq, x102_23, rfl, HA, HJ23, HO_4, HO_7, HO_9, BK256, HB⟩ := hcut
              cases kq with
              | zero => exact absurd HA.out (by simp [hatstandlaw14_HistoryRight.j3])
              | succ kj23 =>
               have H := HA.out
               clear HA
               simp only [hatstandlaw14_HistoryRight.j3] at H
               by_cases c49 : x102_23 = true
               ·subst c49
                have H1 : (some false) = some r := by rw [if_pos rfl] at H; exact H
                clear H
                have H := H1
                clear H1
                exact absurd ((Option.some.inj H).trans HT0.out) (by decide)
               ·replace c49 := Bool.eq_false_iff.mpr c49
                subst c49
                have H1 : (if 0 ≤ ((rd_T45 t248 x10_3).f4) then (if ((rd_T45 t248 x10_3).f4) < (x9_3.length : Int) then ((some (x9_3.set (((rd_T45 t248 x10_3).f4) : Int).toNat (wrap64 ((rd x9_3 ((rd_T45 t248 x10_3).f4)) + 1)) : List Int)).bind fun y260 => (if ((rd_T45 t248 x10_3).f4) < (t243.length : Int) then (if (rd_T47 t243 ((rd_T45 t248 x10_3).f4)).f1 = true then (hatstandlaw14_HistoryRight.j4 kj23 t243 t248 y260 x10_3 true ((rd_T45 t248 x10_3).f0) ((rd_T45 t248 x10_3).f1) ((rd_T45 t248 x10_3).f2) ((rd_T45 t248 x10_3).f3) ((rd_T45 t248 x10_3).f4) ((rd_T45 t248 x10_3).f5)) else (if ((rd_T47 t243 ((rd_T45 t248 x10_3).f4)).f0) = ((rd_T45 t248 x10_3).f0) then (hatstandlaw14_HistoryRight.j4 kj23 t243 t248 y260 x10_3 (((rd_T47 t243 ((rd_T45 t248 x10_3).f4)).f2) != ((rd_T45 t248 x10_3).f1)) ((rd_T45 t248 x10_3).f0) ((rd_T45 t248 x10_3).f1) ((rd_T45 t248 x10_3).f2) ((rd_T45 t248 x10_3).f3) ((rd_T45 t248 x10_3).f4) ((rd_T45 t248 x10_3).f5)) else (hatstandlaw14_HistoryRight.j4 kj23 t243 t248 y260 x10_3 true ((rd_T45 t248 x10_3).f0) ((rd_T45 t248 x10_3).f1) ((rd_T45 t248 x10_3).f2) ((rd_T45 t248 x10_3).f3) ((rd_T45 t248 x10_3).f4) ((rd_T45 t248 x10_3).f5)))) else (none))) else (none)) else (none)) = some r := by rw [if_neg (show ¬ (false = true) by decide)] at H; exact H
                clear H
                have H := H1
                clear H1
                by_cases c50 : 0 ≤ ((rd_T45 t248 x10_3).f4)
                ·rw [if_pos c50] at H
                 have c50b0 : decide (0 ≤ ((rd_T45 t248 x10_3).f4)) = true := decide_eq_true c50
                 clear c50
                 by_cases c51 : ((rd_T45 t248 x10_3).f4) < (x9_3.length : Int)
                 ·rw [if_pos c51] at H
                  have c51b0 : decide (((rd_T45 t248 x10_3).f4) < (x9_3.length : Int)) = true := decide_eq_true c51
                  clear c51
                  obtain ⟨y260, hy260⟩ : ∃ y_ : List Int, y_ = (x9_3.set (((rd_T45 t248 x10_3).f4) : Int).toNat (wrap64 ((rd x9_3 ((rd_T45 t248 x10_3).f4)) + 1))) := ⟨_, rfl⟩
                  replace H : (if ((rd_T45 t248 x10_3).f4) < (t243.length : Int) then (if (rd_T47 t243 ((rd_T45 t248 x10_3).f4)).f1 = true then (hatstandlaw14_HistoryRight.j4 kj23 t243 t248 y260 x10_3 true ((rd_T45 t248 x10_3).f0) ((rd_T45 t248 x10_3).f1) ((rd_T45 t248 x10_3).f2) ((rd_T45 t248 x10_3).f3) ((rd_T45 t248 x10_3).f4) ((rd_T45 t248 x10_3).f5)) else (if ((rd_T47 t243 ((rd_T45 t248 x10_3).f4)).f0) = ((rd_T45 t248 x10_3).f0) then (hatstandlaw14_HistoryRight.j4 kj23 t243 t248 y260 x10_3 (((rd_T47 t243 ((rd_T45 t248 x10_3).f4)).f2) != ((rd_T45 t248 x10_3).f1)) ((rd_T45 t248 x10_3).f0) ((rd_T45 t248 x10_3).f1) ((rd_T45 t248 x10_3).f2) ((rd_T45 t248 x10_3).f3) ((rd_T45 t248 x10_3).f4) ((rd_T45 t248 x10_3).f5)) else (hatstandlaw14_HistoryRight.j4 kj23 t243 t248 y260 x10_3 true ((rd_T45 t248 x10_3).f0) ((rd_T45 t248 x10_3).f1) ((rd_T45 t248 x10_3).f2) ((rd_T45 t248 x10_3).f3) ((rd_T45 t248 x10_3).f4) ((rd_T45 t248 x10_3).f5)))) else (none)) = some r := by first | (rw [hy260]; with_reducible exact H) | (have H2_ := (Option.bind_some _ _).symm.trans H; rw [hy260]; with_reducible exact H2_) | (have H2_ := (Option.bind_some _ _).symm.trans H; with_reducible exact H2_) | with_reducible exact H | (rw [hy260]; exact H) | exact H
                  have Ny260 := Aside0.mk hy260
                  clear hy260
                  have HC53 := Aside0.mk H
                  clear H
                  have hcz54_0 : wc.cell? ⟨gb256, 0, none⟩ = some (.int .i64 ((rd_T45 t248 x10_3).f0)) := (blk_cell BK256.out 0).trans rfl
                  have hcz54_1 : wc.cell? ⟨gb256, 1, none⟩ = some (.bool ((rd_T45 t248 x10_3).f1)) := (blk_cell BK256.out 1).trans rfl
                  have hcz54_2 : wc.cell? ⟨gb256, 2, none⟩ = some (.int .u64 ((rd_T45 t248 x10_3).f2)) := (blk_cell BK256.out 2).trans rfl
                  have hcz54_3 : wc.cell? ⟨gb256, 3, none⟩ = some (.int .i64 ((rd_T45 t248 x10_3).f3)) := (blk_cell BK256.out 3).trans rfl
                  have hcz54_4 : wc.cell? ⟨gb256, 4, none⟩ = some (.int .i64 ((rd_T45 t248 x10_3).f4)) := (blk_cell BK256.out 4).trans rfl
                  have hcz54_5 : wc.cell? ⟨gb256, 5, none⟩ = some (.int .i64 ((rd_T45 t248 x10_3).f5)) := (blk_cell BK256.out 5).trans rfl
                  have hfz54_0 := blk_frozen BK256.out 0
                  have hfz54_1 := blk_frozen BK256.out 1
                  have hfz54_2 := blk_frozen BK256.out 2
                  have hfz54_3 := blk_frozen BK256.out 3
                  have hfz54_4 := blk_frozen BK256.out 4
                  have hfz54_5 := blk_frozen BK256.out 5
                  obtain ⟨Ao55, co55, eo55⟩ := Kd.R_slice HO_9.out
                  subst eo55
                  have p259 : 0 ≤ (((rd_T45 t248 x10_3).f4) : Int) := of_decide_eq_true (by first | (with_reducible assumption) | assumption)
                  have q259 : ((rd_T45 t248 x10_3).f4) < (x9_3.length : Int) := of_decide_eq_true (by first | (with_reducible assumption) | assumption)
                  obtain ⟨ad259, e259, hx259_0⟩ := Kd.at_int (Kd.R_reads' HO_9.out).2.2 ((rd_T45 t248 x10_3).f4) p259 q259
                  cases e259
                  replace p259 := eq_true p259
                  replace q259 := eq_true q259
                  have p52 : 0 ≤ (((rd_T45 t248 x10_3).f4) : Int) := of_decide_eq_true (by first | (with_reducible assumption) | assumption)
                  have q52 : (((rd_T45 t248 x10_3).f4) : Int) < ((x9_3.length : Int) : Int) := of_decide_eq_true (by first | (with_reducible assumption) | assumption)
                  obtain ⟨go52, co52, eo52, gb52, gl52, cl52, HG52⟩ := Kd.R_form HO_9.out (by omega)
                  (first | cases eo52 | (injection eo52 with ea_ en_ ec_; (first | subst ea_ | (injection ea_ with ea_; subst ea_)); subst ec_; clear en_))
                  have GB52 := Aside0.mk gb52
                  have GG52 := Aside0.mk HG52
                  clear gb52 gl52 HG52
                  (first | simp only [add_plain] at hx259_0 | skip)
                  obtain ⟨hx52_0, hf52_0⟩ := Kd.R_celln 0 HO_9.out (((rd_T45 t248 x10_3).f4) : Int) p52 q52
                  replace p52 := eq_true p52
                  replace q52 := eq_true q52
                  have HP56 := Kd.R_putg HO_9.out (((rd_T45 t248 x10_3).f4) : Int) (wrap64 ((rd x9_3 ((rd_T45 t248 x10_3).f4)) + 1))
                  go_upto_region 17 with (first | ((with_reducible refine gate_store (t := 3) (p := 109) rfl ?_); (try (rw [drewN_self wc]; generalize hq_ : World.drewN wc _ = wc; have n0_ := Aside0.mk (Kd.R_at hq_ HO_4.out); have n1_ := Aside0.mk (Kd.R_at hq_ HO_7.out); have n2_ := Aside0.mk (Kd.R_at hq_ HO_9.out); have n3_ := Aside0.mk (blk_at hq_ BK256.out); have n4_ := Aside0.mk (below_at hq_ HB.out); clear hq_ HO_4 HO_7 HO_9 BK256 HB; have HO_4 := n0_; have HO_7 := n1_; have HO_9 := n2_; have BK256 := n3_; have HB := n4_; clear n0_ n1_ n2_ n3_ n4_; (try (have HP56 := Kd.R_putg HO_9.out (((rd_T45 t248 x10_3).f4) : Int) (wrap64 ((rd x9_3 ((rd_T45 t248 x10_3).f4)) + 1)))))); refine store_event (t := 3) (p := 109) (v := ?vo_w57) (w1 := (wc.setCell ⟨go52, (((rd_T45 t248 x10_3).f4) : Int).toNat, none⟩ (.int .i64 (wrap64 ((rd x9_3 ((rd_T45 t248 x10_3).f4)) + 1))))) ?hg ?ho ?hn ?hr ?_; (case ho => rfl); (case hg => rfl); (case hn => rfl); (case hr => first | (go_simp; done) | (go_simp; rfl)); intro w57 hw; have hg : wc.grownBy w57 (some go52) := (by rw [hw]; exact HP56.2); have hp_ : Kd.R (Kd.int .i64) 3 w57 w.heap.size (fun _ => True) (.slice (some ⟨go52, 0, none⟩) x9_3.length co55) y260 := (by rw [hw, Ny260.out]; exact HP56.1); clear HP56; have n0_ := Aside0.mk (Kd.R_over' (v := (.slice (some ⟨go52, 0, none⟩) x9_3.length co55)) (by (with_reducible repeat (first | apply Kd.R_alloc | apply Kd.R_drewN | apply Kd.R_drew)); exact HO_4.out) (Kd.R_typed HO_9.out) (by decide) hg); have n1_ := Aside0.mk (Kd.R_over' (v := (.slice (some ⟨go52, 0, none⟩) x9_3.length co55)) (by (with_reducible repeat (first | apply Kd.R_alloc | apply Kd.R_drewN | apply Kd.R_drew)); exact HO_7.out) (Kd.R_typed HO_9.out) (by decide) hg); have n2_ := Aside0.mk (hp_); have n3_ := Aside0.mk (blk_grown (g := gb256) (o := .cells #[.int .i64 ((rd_T45 t248 x10_3).f0), .bool ((rd_T45 t248 x10_3).f1), .int .u64 ((rd_T45 t248 x10_3).f2), .int .i64 ((rd_T45 t248 x10_3).f3), .int .i64 ((rd_T45 t248 x10_3).f4), .int .i64 ((rd_T45 t248 x10_3).f5)] 45 (0, 0)) (by (with_reducible repeat (first | refine blk_drewN ?_ _ | refine blk_drew ?_ | refine blk_alloc ?_ _)); exact BK256.out) hg (Kd.R_ne HO_9.out BK256.out (by decide))); have n4_ := Aside0.mk ((by rw [hw]; exact below_set (HB.out) GB52.out : Below w.heap.size w w57)); clear HO_4; clear HO_7; clear HO_9; clear BK256; clear HB; have HO_4 := n0_; have HO_7 := n1_; have HO_9 := n2_; have BK256 := n3_; have HB := n4_; clear n0_ n1_ n2_ n3_ n4_; clear hg hw hp_))
                  repeat (go_quiet (first | ((with_reducible refine gate_store (t := 3) (p := 109) rfl ?_); (try (rw [drewN_self wc]; generalize hq_ : World.drewN wc _ = wc; have n0_ := Aside0.mk (Kd.R_at hq_ HO_4.out); have n1_ := Aside0.mk (Kd.R_at hq_ HO_7.out); have n2_ := Aside0.mk (Kd.R_at hq_ HO_9.out); have n3_ := Aside0.mk (blk_at hq_ BK256.out); have n4_ := Aside0.mk (below_at hq_ HB.out); clear hq_ HO_4 HO_7 HO_9 BK256 HB; have HO_4 := n0_; have HO_7 := n1_; have HO_9 := n2_; have BK256 := n3_; have HB := n4_; clear n0_ n1_ n2_ n3_ n4_; (try (have HP56 := Kd.R_putg HO_9.out (((rd_T45 t248 x10_3).f4) : Int) (wrap64 ((rd x9_3 ((rd_T45 t248 x10_3).f4)) + 1)))))); refine store_event (t := 3) (p := 109) (v := ?vo_w57) (w1 := (wc.setCell ⟨go52, (((rd_T45 t248 x10_3).f4) : Int).toNat, none⟩ (.int .i64 (wrap64 ((rd x9_3 ((rd_T45 t248 x10_3).f4)) + 1))))) ?hg ?ho ?hn ?hr ?_; (case ho => rfl); (case hg => rfl); (case hn => rfl); (case hr => first | (go_simp; done) | (go_simp; rfl)); intro w57 hw; have hg : wc.grownBy w57 (some go52) := (by rw [hw]; exact HP56.2); have hp_ : Kd.R (Kd.int .i64) 3 w57 w.heap.size (fun _ => True) (.slice (some ⟨go52, 0, none⟩) x9_3.length co55) y260 := (by rw [hw, Ny260.out]; exact HP56.1); clear HP56; have n0_ := Aside0.mk (Kd.R_over' (v := (.slice (some ⟨go52, 0, none⟩) x9_3.length co55)) (by (with_reducible repeat (first | apply Kd.R_alloc | apply Kd.R_drewN | apply Kd.R_drew)); exact HO_4.out) (Kd.R_typed HO_9.out) (by decide) hg); have n1_ := Aside0.mk (Kd.R_over' (v := (.slice (some ⟨go52, 0, none⟩) x9_3.length co55)) (by (with_reducible repeat (first | apply Kd.R_alloc | apply Kd.R_drewN | apply Kd.R_drew)); exact HO_7.out) (Kd.R_typed HO_9.out) (by decide) hg); have n2_ := Aside0.mk (hp_); have n3_ := Aside0.mk (blk_grown (g := gb256) (o := .cells #[.int .i64 ((rd_T45 t248 x10_3).f0), .bool ((rd_T45 t248 x10_3).f1), .int .u64 ((rd_T45 t248 x10_3).f2), .int .i64 ((rd_T45 t248 x10_3).f3), .int .i64 ((rd_T45 t248 x10_3).f4), .int .i64 ((rd_T45 t248 x10_3).f5)] 45 (0, 0)) (by (with_reducible repeat (first | refine blk_drewN ?_ _ | refine blk_drew ?_ | refine blk_alloc ?_ _)); exact BK256.out) hg (Kd.R_ne HO_9.out BK256.out (by decide))); have n4_ := Aside0.mk ((by rw [hw]; exact below_set (HB.out) GB52.out : Below w.heap.size w w57)); clear HO_4; clear HO_7; clear HO_9; clear BK256; clear HB; have HO_4 := n0_; have HO_7 := n1_; have HO_9 := n2_; have BK256 := n3_; have HB := n4_; clear n0_ n1_ n2_ n3_ n4_; clear hg hw hp_)); go_upto_region 17 with (first | ((with_reducible refine gate_store (t := 3) (p := 109) rfl ?_); (try (rw [drewN_self wc]; generalize hq_ : World.drewN wc _ = wc; have n0_ := Aside0.mk (Kd.R_at hq_ HO_4.out); have n1_ := Aside0.mk (Kd.R_at hq_ HO_7.out); have n2_ := Aside0.mk (Kd.R_at hq_ HO_9.out); have n3_ := Aside0.mk (blk_at hq_ BK256.out); have n4_ := Aside0.mk (below_at hq_ HB.out); clear hq_ HO_4 HO_7 HO_9 BK256 HB; have HO_4 := n0_; have HO_7 := n1_; have HO_9 := n2_; have BK256 := n3_; have HB := n4_; clear n0_ n1_ n2_ n3_ n4_; (try (have HP56 := Kd.R_putg HO_9.out (((rd_T45 t248 x10_3).f4) : Int) (wrap64 ((rd x9_3 ((rd_T45 t248 x10_3).f4)) + 1)))))); refine store_event (t := 3) (p := 109) (v := ?vo_w57) (w1 := (wc.setCell ⟨go52, (((rd_T45 t248 x10_3).f4) : Int).toNat, none⟩ (.int .i64 (wrap64 ((rd x9_3 ((rd_T45 t248 x10_3).f4)) + 1))))) ?hg ?ho ?hn ?hr ?_; (case ho => rfl); (case hg => rfl); (case hn => rfl); (case hr => first | (go_simp; done) | (go_simp; rfl)); intro w57 hw; have hg : wc.grownBy w57 (some go52) := (by rw [hw]; exact HP56.2); have hp_ : Kd.R (Kd.int .i64) 3 w57 w.heap.size (fun _ => True) (.slice (some ⟨go52, 0, none⟩) x9_3.length co55) y260 := (by rw [hw, Ny260.out]; exact HP56.1); clear HP56; have n0_ := Aside0.mk (Kd.R_over' (v := (.slice (some ⟨go52, 0, none⟩) x9_3.length co55)) (by (with_reducible repeat (first | apply Kd.R_alloc | apply Kd.R_drewN | apply Kd.R_drew)); exact HO_4.out) (Kd.R_typed HO_9.out) (by decide) hg); have n1_ := Aside0.mk (Kd.R_over' (v := (.slice (some ⟨go52, 0, none⟩) x9_3.length co55)) (by (with_reducible repeat (first | apply Kd.R_alloc | apply Kd.R_drewN | apply Kd.R_drew)); exact HO_7.out) (Kd.R_typed HO_9.out) (by decide) hg); have n2_ := Aside0.mk (hp_); have n3_ := Aside0.mk (blk_grown (g := gb256) (o := .cells #[.int .i64 ((rd_T45 t248 x10_3).f0), .bool ((rd_T45 t248 x10_3).f1), .int .u64 ((rd_T45 t248 x10_3).f2), .int .i64 ((rd_T45 t248 x10_3).f3), .int .i64 ((rd_T45 t248 x10_3).f4), .int .i64 ((rd_T45 t248 x10_3).f5)] 45 (0, 0)) (by (with_reducible repeat (first | refine blk_drewN ?_ _ | refine blk_drew ?_ | refine blk_alloc ?_ _)); exact BK256.out) hg (Kd.R_ne HO_9.out BK256.out (by decide))); have n4_ := Aside0.mk ((by rw [hw]; exact below_set (HB.out) GB52.out : Below w.heap.size w w57)); clear HO_4; clear HO_7; clear HO_9; clear BK256; clear HB; have HO_4 := n0_; have HO_7 := n1_; have HO_9 := n2_; have BK256 := n3_; have HB := n4_; clear n0_ n1_ n2_ n3_ n4_; clear hg hw hp_)))
                  (try simp only [Act.put, List.setIfInBounds_toArray, List.set_cons_zero, List.set_cons_succ])
                  go_cut [137] (fun v137 wc => ∃ (kq : Nat) (x137_52 : Bool), v137 = .bool x137_52 ∧ Aside0 (hatstandlaw14_HistoryRight.j4 kq t243 t248 y260 x10_3 x137_52 ((rd_T45 t248 x10_3).f0) ((rd_T45 t248 x10_3).f1) ((rd_T45 t248 x10_3).f2) ((rd_T45 t248 x10_3).f3) ((rd_T45 t248 x10_3).f4) ((rd_T45 t248 x10_3).f5) = some r) ∧ Aside0 (kq ≤ kj23) ∧ Aside0 (Kd.R k47 47 wc w.heap.size (fun _ => True) (.slice Ao12 t243.length co12) t243) ∧ Aside0 (Kd.R k45 45 wc w.heap.size (fun k_ => k_ ≠ gb256) (.slice (some ad255) t248.length co25) t248) ∧ Aside0 (Kd.R (Kd.int .i64) 3 wc w.heap.size (fun _ => True) (.slice (some ⟨go52, 0, none⟩) x9_3.length co55) y260) ∧ Aside0 (wc.heap[gb256]? = some (.cells #[.int .i64 ((rd_T45 t248 x10_3).f0), .bool ((rd_T45 t248 x10_3).f1), .int .u64 ((rd_T45 t248 x10_3).f2), .int .i64 ((rd_T45 t248 x10_3).f3), .int .i64 ((rd_T45 t248 x10_3).f4), .int .i64 ((rd_T45 t248 x10_3).f5)] 45 (0, 0))) ∧ Aside0 (Below w.heap.size w wc))
                  case first =>
                   try simp only [Ytmdjmfbinjnlcaa.Lex.ops_cons, Ytmdjmfbinjnlcaa.Lex.ops_nil]
                   refine Ytmdjmfbinjnlcaa.Lex.with_lex (by as_aux_lemma => kernel_rfl) (by as_aux_lemma => kernel_rfl) ?_
                   intro HLX0
                   have HLX := Aside0.mk HLX0
                   clear HLX0
                   have H := HC53.out
                   clear HC53
                   by_cases c58 : ((rd_T45 t248 x10_3).f4) < (t243.length : Int)
                   ·rw [if_pos c58] at H
                    have c58b0 : decide (((rd_T45 t248 x10_3).f4) < (t243.length : Int)) = true := decide_eq_true c58
                    clear c58
                    (first | rw [c58b0] | (simp only [i64_w, i32_w, Go.IntKind.wrap_u32]; rw [c58b0]) | skip)
                    obtain ⟨bq59, hbq59⟩ : ∃ b_ : Bool, b_ = ((rd_T47 t243 ((rd_T45 t248 x10_3).f4)).f1) := ⟨_, rfl⟩
                    replace H : (if bq59 = true then (hatstandlaw14_HistoryRight.j4 kj23 t243 t248 y260 x10_3 true ((rd_T45 t248 x10_3).f0) ((rd_T45 t248 x10_3).f1) ((rd_T45 t248 x10_3).f2) ((rd_T45 t248 x10_3).f3) ((rd_T45 t248 x10_3).f4) ((rd_T45 t248 x10_3).f5)) else (if ((rd_T47 t243 ((rd_T45 t248 x10_3).f4)).f0) = ((rd_T45 t248 x10_3).f0) then (hatstandlaw14_HistoryRight.j4 kj23 t243 t248 y260 x10_3 (((rd_T47 t243 ((rd_T45 t248 x10_3).f4)).f2) != ((rd_T45 t248 x10_3).f1)) ((rd_T45 t248 x10_3).f0) ((rd_T45 t248 x10_3).f1) ((rd_T45 t248 x10_3).f2) ((rd_T45 t248 x10_3).f3) ((rd_T45 t248 x10_3).f4) ((rd_T45 t248 x10_3).f5)) else (hatstandlaw14_HistoryRight.j4 kj23 t243 t248 y260 x10_3 true ((rd_T45 t248 x10_3).f0) ((rd_T45 t248 x10_3).f1) ((rd_T45 t248 x10_3).f2) ((rd_T45 t248 x10_3).f3) ((rd_T45 t248 x10_3).f4) ((rd_T45 t248 x10_3).f5)))) = some r := by rw [← hbq59] at H; exact H
                    have Nbq59 := Aside0.mk hbq59
                    clear hbq59
                    by_cases c60 : bq59 = true
                    ·subst c60
                     have H1 : (hatstandlaw14_HistoryRight.j4 kj23 t243 t248 y260 x10_3 true ((rd_T45 t248 x10_3).f0) ((rd_T45 t248 x10_3).f1) ((rd_T45 t248 x10_3).f2) ((rd_T45 t248 x10_3).f3) ((rd_T45 t248 x10_3).f4) ((rd_T45 t248 x10_3).f5)) = some r := by rw [if_pos rfl] at H; exact H
                     clear H
                     have H := H1
                     clear H1
                     exact hatstandlaw14_HistoryRight.j4_dead H HT0.out
                    ·replace c60 := Bool.eq_false_iff.mpr c60
                     subst c60
                     have H1 : (if ((rd_T47 t243 ((rd_T45 t248 x10_3).f4)).f0) = ((rd_T45 t248 x10_3).f0) then (hatstandlaw14_HistoryRight.j4 kj23 t243 t248 y260 x10_3 (((rd_T47 t243 ((rd_T45 t248 x10_3).f4)).f2) != ((rd_T45 t248 x10_3).f1)) ((rd_T45 t248 x10_3).f0) ((rd_T45 t248 x10_3).f1) ((rd_T45 t248 x10_3).f2) ((rd_T45 t248 x10_3).f3) ((rd_T45 t248 x10_3).f4) ((rd_T45 t248 x10_3).f5)) else (hatstandlaw14_HistoryRight.j4 kj23 t243 t248 y260 x10_3 true ((rd_T45 t248 x10_3).f0) ((rd_T45 t248 x10_3).f1) ((rd_T45 t248 x10_3).f2) ((rd_T45 t248 x10_3).f3) ((rd_T45 t248 x10_3).f4) ((rd_T45 t248 x10_3).f5))) = some r := by rw [if_neg (show ¬ (false = true) by decide)] at H; exact H
                     clear H
                     have H := H1
                     clear H1
                     by_cases c62 : ((rd_T47 t243 ((rd_T45 t248 x10_3).f4)).f0) = ((rd_T45 t248 x10_3).f0)
                     ·rw [if_pos c62] at H
                      have c62b0 : (((rd_T47 t243 ((rd_T45 t248 x10_3).f4)).f0) == ((rd_T45 t248 x10_3).f0)) = true := beq_iff_eq.mpr c62
                      have c62b1 : (((rd_T47 t243 ((rd_T45 t248 x10_3).f4)).f0) != ((rd_T45 t248 x10_3).f0)) = false := bne_eq_false_iff_eq.mpr c62
                      clear c62
                      have H' := Aside0.mk H
                      clear H
                      have hcz63_0 : w57.cell? ⟨gb256, 0, none⟩ = some (.int .i64 ((rd_T45 t248 x10_3).f0)) := (blk_cell BK256.out 0).trans rfl
                      have hcz63_1 : w57.cell? ⟨gb256, 1, none⟩ = some (.bool ((rd_T45 t248 x10_3).f1)) := (blk_cell BK256.out 1).trans rfl
                      have hcz63_2 : w57.cell? ⟨gb256, 2, none⟩ = some (.int .u64 ((rd_T45 t248 x10_3).f2)) := (blk_cell BK256.out 2).trans rfl
                      have hcz63_3 : w57.cell? ⟨gb256, 3, none⟩ = some (.int .i64 ((rd_T45 t248 x10_3).f3)) := (blk_cell BK256.out 3).trans rfl
                      have hcz63_4 : w57.cell? ⟨gb256, 4, none⟩ = some (.int .i64 ((rd_T45 t248 x10_3).f4)) := (blk_cell BK256.out 4).trans rfl
                      have hcz63_5 : w57.cell? ⟨gb256, 5, none⟩ = some (.int .i64 ((rd_T45 t248 x10_3).f5)) := (blk_cell BK256.out 5).trans rfl
                      have hfz63_0 := blk_frozen BK256.out 0
                      have hfz63_1 := blk_frozen BK256.out 1
                      have hfz63_2 := blk_frozen BK256.out 2
                      have hfz63_3 := blk_frozen BK256.out 3
                      have hfz63_4 := blk_frozen BK256.out 4
                      have hfz63_5 := blk_frozen BK256.out 5
                      have p261 : 0 ≤ (((rd_T45 t248 x10_3).f4) : Int) := of_decide_eq_true (by first | (with_reducible assumption) | assumption)
                      have q261 : ((rd_T45 t248 x10_3).f4) < (t243.length : Int) := of_decide_eq_true (by first | (with_reducible assumption) | assumption)
                      obtain ⟨ad261, e261, hx261_0, hx261_1, hx261_2, hx261_3, hx261_4⟩ := at_T47 (Kd.R_reads' HO_4.out).2.2 ((rd_T45 t248 x10_3).f4) p261 q261
                      (try rw [← Nbq59.out] at hx261_1)
                      (try rw [← Nbq59.out] at hw261_1)
                      (try rw [← Nbq59.out] at hx261_2)
                      (try rw [← Nbq59.out] at hw261_2)
                      cases e261
                      replace p261 := eq_true p261
                      replace q261 := eq_true q261
                      have p262 : 0 ≤ (((rd_T45 t248 x10_3).f4) : Int) := of_decide_eq_true (by first | (with_reducible assumption) | assumption)
                      have q262 : ((rd_T45 t248 x10_3).f4) < (t243.length : Int) := of_decide_eq_true (by first | (with_reducible assumption) | assumption)
                      obtain ⟨ad262, e262, hx262_0, hx262_1, hx262_2, hx262_3, hx262_4⟩ := at_T47 (Kd.R_reads' HO_4.out).2.2 ((rd_T45 t248 x10_3).f4) p262 q262
                      (try rw [← Nbq59.out] at hx262_1)
                      (try rw [← Nbq59.out] at hw262_1)
                      (try rw [← Nbq59.out] at hx262_2)
                      (try rw [← Nbq59.out] at hw262_2)
                      obtain rfl : ad261 = ad262 := (by injection e262)
                      replace p262 := eq_true p262
                      replace q262 := eq_true q262
                      have p263 : 0 ≤ (((rd_T45 t248 x10_3).f4) : Int) := of_decide_eq_true (by first | (with_reducible assumption) | assumption)
                      have q263 : ((rd_T45 t248 x10_3).f4) < (t243.length : Int) := of_decide_eq_true (by first | (with_reducible assumption) | assumption)
                      obtain ⟨ad263, e263, hx263_0, hx263_1, hx263_2, hx263_3, hx263_4⟩ := at_T47 (Kd.R_reads' HO_4.out).2.2 ((rd_T45 t248 x10_3).f4) p263 q263
                      (try rw [← Nbq59.out] at hx263_1)
                      (try rw [← Nbq59.out] at hw263_1)
                      (try rw [← Nbq59.out] at hx263_2)
                      (try rw [← Nbq59.out] at hw263_2)
                      obtain rfl : ad261 = ad263 := (by injection e263)
                      replace p263 := eq_true p263
                      replace q263 := eq_true q263
                      go_wp2
                      (refine wp_region_quiet_lit (by as_aux_lemma => kernel_rfl) HLX.out ?_); (repeat (go_big_quiet_step (fail))); refine wpQuiet_nil ?_; intro _ hw'; obtain ⟨nq, hw''⟩ := hw'; subst hw''; try go_wp2
                      go_meet
                      case rel => exact ⟨_, ((((rd_T47 t243 ((rd_T45 t248 x10_3).f4)).f2) != ((rd_T45 t248 x10_3).f1))), (by first | rfl | (simp; done) | (simp [*]; done)), H', ⟨by have := HJ2.out; have := HJ9.out; have := HK3.out; have := HJ23.out; first | omega | exact Nat.le_refl _⟩, ⟨by (with_reducible repeat (first | apply Kd.R_alloc | apply Kd.R_drewN | apply Kd.R_drew)); exact HO_4.out⟩, ⟨by (with_reducible repeat (first | apply Kd.R_alloc | apply Kd.R_drewN | apply Kd.R_drew)); exact HO_7.out⟩, ⟨by (with_reducible repeat (first | apply Kd.R_alloc | apply Kd.R_drewN | apply Kd.R_drew)); exact HO_9.out⟩, ⟨by (with_reducible repeat (first | refine blk_drewN ?_ _ | refine blk_drew ?_ | refine blk_alloc ?_ _)); exact BK256.out⟩, ⟨by repeat (first | (with_reducible first | exact HB.out | apply below_alloc | apply pw_below_drewN | apply below_drew1 | refine below_set ?_ GE256.out) | exact HB.out)⟩⟩
                     ·rw [if_neg c62] at H
                      have c62b0 : (((rd_T47 t243 ((rd_T45 t248 x10_3).f4)).f0) == ((rd_T45 t248 x10_3).f0)) = false := beq_eq_false_iff_ne.mpr c62
                      have c62b1 : (((rd_T47 t243 ((rd_T45 t248 x10_3).f4)).f0) != ((rd_T45 t248 x10_3).f0)) = true := bne_iff_ne.mpr c62
                      exact hatstandlaw14_HistoryRight.j4_dead H HT0.out
                   ·rw [if_neg c58] at H
                    exact absurd H (by simp)
                  case rest =>
                   clear HC53
                   try clear c1
                   try clear c2
                   try clear p2
                   try clear q2
                   try clear hx2
                   try clear c3
                   try clear c4
                   try clear c5
                   try clear p5
                   try clear q5
                   try clear hx5
                   try clear hf5
                   try clear c6
                   try clear p6
                   try clear c15
                   try clear c15b0
                   try clear c15b1
                   try clear c16
                   try clear c16b0
                   try clear c16b1
                   try clear c17
                   try clear c18
                   try clear c18b0
                   try clear c18b1
                   try clear c19
                   try clear c19b0
                   try clear c19b1
                   try clear c22
                   try clear c22b0
                   try clear c23
                   try clear c23b0
                   try clear p25
                   try clear q25
                   try clear hx25
                   try clear p26
                   try clear q26
                   try clear hx26
                   try clear c28
                   try clear c28b0
                   try clear c30
                   try clear c30b0
                   try clear c32
                   try clear c32b0
                   try clear c34
                   try clear c34b0
                   try clear c35
                   try clear c35b0
                   try clear c37
                   try clear c37b0
                   try clear c39
                   try clear c39b0
                   try clear c40
                   try clear c40b0
                   try clear c43
                   try clear c43b0
                   try clear c45
                   try clear c45b0
                   try clear c46
                   try clear c46b0
                   try clear c49
                   try clear c50
                   try clear c50b0
                   try clear c51
                   try clear c51b0
                   try clear p52
                   try clear q52
                   try clear hx52
                   try clear hf52
                   try clear c58
                   try clear c58b0
                   try clear q59
                   try clear c60
                   try clear c62
                   try clear c62b0
                   try clear c62b1
                   try clear p64
                   try clear hcz27_0
                   try clear hcz27_1
                   try clear hcz27_2
                   try clear hcz27_3
                   try clear hcz27_4
                   try clear hcz27_5
                   try clear hcz29_0
                   try clear hcz29_1
                   try clear hcz29_2
                   try clear hcz29_3
                   try clear hcz29_4
                   try clear hcz29_5
                   try clear hcz31_0
                   try clear hcz31_1
                   try clear hcz31_2
                   try clear hcz31_3
                   try clear hcz31_4
                   try clear hcz31_5
                   try clear hcz33_0
                   try clear hcz33_1
                   try clear hcz33_2
                   try clear hcz33_3
                   try clear hcz33_4
                   try clear hcz33_5
                   try clear hcz36_0
                   try clear hcz36_1
                   try clear hcz36_2
                   try clear hcz36_3
                   try clear hcz36_4
                   try clear hcz36_5
                   try clear hcz41_0
                   try clear hcz41_1
                   try clear hcz41_2
                   try clear hcz41_3
                   try clear hcz41_4
                   try clear hcz41_5
                   try clear hcz42_0
                   try clear hcz42_1
                   try clear hcz42_2
                   try clear hcz42_3
                   try clear hcz42_4
                   try clear hcz42_5
                   try clear hcz47_0
                   try clear hcz47_1
                   try clear hcz47_2
                   try clear hcz47_3
                   try clear hcz47_4
                   try clear hcz47_5
                   try clear hcz48_0
                   try clear hcz48_1
                   try clear hcz48_2
                   try clear hcz48_3
                   try clear hcz48_4
                   try clear hcz48_5
                   try clear hcz54_0
                   try clear hcz54_1
                   try clear hcz54_2
                   try clear hcz54_3
                   try clear hcz54_4
                   try clear hcz54_5
                   try clear hcz61_0
                   try clear hcz61_1
                   try clear hcz61_2
                   try clear hcz61_3
                   try clear hcz61_4
                   try clear hcz61_5
                   try clear hcz63_0
                   try clear hcz63_1
                   try clear hcz63_2
                   try clear hcz63_3
                   try clear hcz63_4
                   try clear hcz63_5
                   try clear hcz64_0
                   try clear hcz64_1
                   try clear hcz64_2
                   try clear hcz64_3
                   try clear hcz64_4
                   try clear hcz64_5
                   try clear hfz27_0
                   try clear hfz27_1
                   try clear hfz27_2
                   try clear hfz27_3
                   try clear hfz27_4
                   try clear hfz27_5
                   try clear hfz29_0
                   try clear hfz29_1
                   try clear hfz29_2
                   try clear hfz29_3
                   try clear hfz29_4
                   try clear hfz29_5
                   try clear hfz31_0
                   try clear hfz31_1
                   try clear hfz31_2
                   try clear hfz31_3
                   try clear hfz31_4
                   try clear hfz31_5
                   try clear hfz33_0
                   try clear hfz33_1
                   try clear hfz33_2
                   try clear hfz33_3
                   try clear hfz33_4
                   try clear hfz33_5
                   try clear hfz36_0
                   try clear hfz36_1
                   try clear hfz36_2
                   try clear hfz36_3
                   try clear hfz36_4
                   try clear hfz36_5
                   try clear hfz41_0
                   try clear hfz41_1
                   try clear hfz41_2
                   try clear hfz41_3
                   try clear hfz41_4
                   try clear hfz41_5
                   try clear hfz42_0
                   try clear hfz42_1
                   try clear hfz42_2
                   try clear hfz42_3
                   try clear hfz42_4
                   try clear hfz42_5
                   try clear hfz47_0
                   try clear hfz47_1
                   try clear hfz47_2
                   try clear hfz47_3
                   try clear hfz47_4
                   try clear hfz47_5
                   try clear hfz48_0
                   try clear hfz48_1
                   try clear hfz48_2
                   try clear hfz48_3
                   try clear hfz48_4
                   try clear hfz48_5
                   try clear hfz54_0
                   try clear hfz54_1
                   try clear hfz54_2
                   try clear hfz54_3
                   try clear hfz54_4
                   try clear hfz54_5
                   try clear hfz61_0
                   try clear hfz61_1
                   try clear hfz61_2
                   try clear hfz61_3
                   try clear hfz61_4
                   try clear hfz61_5
                   try clear hfz63_0
                   try clear hfz63_1
                   try clear hfz63_2
                   try clear hfz63_3
                   try clear hfz63_4
                   try clear hfz63_5
                   try clear hfz64_0
                   try clear hfz64_1
                   try clear hfz64_2
                   try clear hfz64_3
                   try clear hfz64_4
                   try clear hfz64_5
                   try clear hx255_0
                   try clear hx255_1
                   try clear hx255_2
                   try clear hx255_3
                   try clear hx255_4
                   try clear hx255_5
                   try clear hx257_0
                   try clear hx257_1
                   try clear hx257_2
                   try clear hx257_3
                   try clear hx257_4
                   try clear hx257_5
                   try clear hx258_0
                   try clear hx258_1
                   try clear hx258_2
                   try clear hx258_3
                   try clear hx258_4
                   try clear hx258_5
                   try clear hx259_0
                   try clear hx261_0
                   try clear hx261_1
                   try clear hx261_2
                   try clear hx261_3
                   try clear hx261_4
                   try clear hx262_0
                   try clear hx262_1
                   try clear hx262_2
                   try clear hx262_3
                   try clear hx262_4
                   try clear hx263_0
                   try clear hx263_1
                   try clear hx263_2
                   try clear hx263_3
                   try clear hx263_4
                   try clear hx52_0
                   try clear p2
                   try clear p25
                   try clear p255
                   try clear p257
                   try clear p258
                   try clear p259
                   try clear p261
                   try clear p262
                   try clear p263
                   try clear p52
                   try clear p6
                   try clear q2
                   try clear q25
                   try clear q255
                   try clear q257
                   try clear q258
                   try clear q259
                   try clear q261
                   try clear q262
                   try clear q263
                   try clear q52
                   obtain ⟨kq, x137_52, rfl, HA, HJ52, HO_4, HO_7, HO_9, BK256, HB⟩ := hcut
                   have hl9_52 := (Kd.R_reads' HO_9.out).1
                   rw [hl9_52] at HO_9
                   (try simp only [hl9_52])
                   (try simp only [hl9_52] at BK256)
                   (try simp only [hl9_52] at HO_4)
                   (try simp only [hl9_52] at HO_7)
                   cases kq with
                   | zero => exact absurd HA.out (by simp [hatstandlaw14_HistoryRight.j4])
                   | succ kj52 =>
                    have H := HA.out
                    clear HA
                    simp only [hatstandlaw14_HistoryRight.j4] at H
                    by_cases c65 : x137_52 = true
                    ·subst c65
                     have H1 : (some false) = some r := by rw [if_pos rfl] at H; exact H
                     clear H
                     have H := H1
                     clear H1
                     exact absurd ((Option.some.inj H).trans HT0.out) (by decide)
                    ·replace c65 := Bool.eq_false_iff.mpr c65
                     subst c65
                     have H1 : (if ((rd_T45 t248 x10_3).f5) < 0 then (if ((rd_T45 t248 x10_3).f5) = (-1) then (hatstandlaw14_HistoryRight.j5 kj52 t243 t248 y260 x10_3 (((rd_T45 t248 x10_3).f3) != 0)) else (hatstandlaw14_HistoryRight.j5 kj52 t243 t248 y260 x10_3 true)) else (if 0 ≤ ((rd_T45 t248 x10_3).f5) then (if ((rd_T45 t248 x10_3).f5) < (y260.length : Int) then ((some (y260.set (((rd_T45 t248 x10_3).f5) : Int).toNat (wrap64 ((rd y260 ((rd_T45 t248 x10_3).f5)) + 1)) : List Int)).bind fun y265 => (if ((rd_T45 t248 x10_3).f5) < (t243.length : Int) then (if ((rd_T47 t243 ((rd_T45 t248 x10_3).f5)).f1 = true) then (if ((rd_T47 t243 ((rd_T45 t248 x10_3).f5)).f0) = ((rd_T45 t248 x10_3).f0) then (hatstandlaw14_HistoryRight.j6 kj52 t243 t248 y265 x10_3 (((rd_T47 t243 ((rd_T45 t248 x10_3).f5)).f4) != ((rd_T45 t248 x10_3).f3))) else (hatstandlaw14_HistoryRight.j6 kj52 t243 t248 y265 x10_3 true)) else (hatstandlaw14_HistoryRight.j6 kj52 t243 t248 y265 x10_3 true)) else (none))) else (none)) else (none))) = some r := by rw [if_neg (show ¬ (false = true) by decide)] at H; exact H
                     clear H
                     have H := H1
                     clear H1
                     by_cases c66 : ((rd_T45 t248 x10_3).f5) < 0
                     ·rw [if_pos c66] at H
                      have c66b0 : decide (((rd_T45 t248 x10_3).f5) < 0) = true := decide_eq_true c66
                      clear c66
                      have HC67 := Aside0.mk H
                      clear H
                      have hcz68_0 : wc.cell? ⟨gb256, 0, none⟩ = some (.int .i64 ((rd_T45 t248 x10_3).f0)) := (blk_cell BK256.out 0).trans rfl
                      have hcz68_1 : wc.cell? ⟨gb256, 1, none⟩ = some (.bool ((rd_T45 t248 x10_3).f1)) := (blk_cell BK256.out 1).trans rfl
                      have hcz68_2 : wc.cell? ⟨gb256, 2, none⟩ = some (.int .u64 ((rd_T45 t248 x10_3).f2)) := (blk_cell BK256.out 2).trans rfl
                      have hcz68_3 : wc.cell? ⟨gb256, 3, none⟩ = some (.int .i64 ((rd_T45 t248 x10_3).f3)) := (blk_cell BK256.out 3).trans rfl
                      have hcz68_4 : wc.cell? ⟨gb256, 4, none⟩ = some (.int .i64 ((rd_T45 t248 x10_3).f4)) := (blk_cell BK256.out 4).trans rfl
                      have hcz68_5 : wc.cell? ⟨gb256, 5, none⟩ = some (.int .i64 ((rd_T45 t248 x10_3).f5)) := (blk_cell BK256.out 5).trans rfl
                      have hfz68_0 := blk_frozen BK256.out 0
                      have hfz68_1 := blk_frozen BK256.out 1
                      have hfz68_2 := blk_frozen BK256.out 2
                      have hfz68_3 := blk_frozen BK256.out 3
                      have hfz68_4 := blk_frozen BK256.out 4
                      have hfz68_5 := blk_frozen BK256.out 5
                      go_upto_region 20 with (fail)
                      repeat (go_quiet (fail); go_upto_region 20 with (fail))
                      go_cut [148] (fun v148 wc => ∃ (kq : Nat) (x148_66 : Bool), v148 = .bool x148_66 ∧ Aside0 (hatstandlaw14_HistoryRight.j5 kq t243 t248 y260 x10_3 x148_66 = some r) ∧ Aside0 (kq ≤ kj52) ∧ Aside0 (Kd.R k47 47 wc w.heap.size (fun _ => True) (.slice Ao12 t243.length co12) t243) ∧ Aside0 (Kd.R k45 45 wc w.heap.size (fun k_ => k_ ≠ gb256) (.slice (some ad255) t248.length co25) t248) ∧ Aside0 (Kd.R (Kd.int .i64) 3 wc w.heap.size (fun _ => True) (.slice (some ⟨go52, 0, none⟩) y260.length co55) y260) ∧ Aside0 (wc.heap[gb256]? = some (.cells #[.int .i64 ((rd_T45 t248 x10_3).f0), .bool ((rd_T45 t248 x10_3).f1), .int .u64 ((rd_T45 t248 x10_3).f2), .int .i64 ((rd_T45 t248 x10_3).f3), .int .i64 ((rd_T45 t248 x10_3).f4), .int .i64 ((rd_T45 t248 x10_3).f5)] 45 (0, 0))) ∧ Aside0 (Below w.heap.size w wc))
                      case first =>
                       have H := HC67.out
                       clear HC67
                       by_cases c69 : ((rd_T45 t248 x10_3).f5) = (-1)
                       ·rw [if_pos c69] at H
                        have c69b0 : (((rd_T45 t248 x10_3).f5) == (-1)) = true := beq_iff_eq.mpr c69
                        have c69b1 : (((rd_T45 t248 x10_3).f5) != (-1)) = false := bne_eq_false_iff_eq.mpr c69
                        clear c69
                        (first | rw [c69b0] | (simp only [i64_w, i32_w, Go.IntKind.wrap_u32]; rw [c69b0]) | skip)
                        have H' := Aside0.mk H
                        clear H
                        have hcz70_0 : wc.cell? ⟨gb256, 0, none⟩ = some (.int .i64 ((rd_T45 t248 x10_3).f0)) := (blk_cell BK256.out 0).trans rfl
                        have hcz70_1 : wc.cell? ⟨gb256, 1, none⟩ = some (.bool ((rd_T45 t248 x10_3).f1)) := (blk_cell BK256.out 1).trans rfl
                        have hcz70_2 : wc.cell? ⟨gb256, 2, none⟩ = some (.int .u64 ((rd_T45 t248 x10_3).f2)) := (blk_cell BK256.out 2).trans rfl
                        have hcz70_3 : wc.cell? ⟨gb256, 3, none⟩ = some (.int .i64 ((rd_T45 t248 x10_3).f3)) := (blk_cell BK256.out 3).trans rfl
                        have hcz70_4 : wc.cell? ⟨gb256, 4, none⟩ = some (.int .i64 ((rd_T45 t248 x10_3).f4)) := (blk_cell BK256.out 4).trans rfl
                        have hcz70_5 : wc.cell? ⟨gb256, 5, none⟩ = some (.int .i64 ((rd_T45 t248 x10_3).f5)) := (blk_cell BK256.out 5).trans rfl
                        have hfz70_0 := blk_frozen BK256.out 0
                        have hfz70_1 := blk_frozen BK256.out 1
                        have hfz70_2 := blk_frozen BK256.out 2
                        have hfz70_3 := blk_frozen BK256.out 3
                        have hfz70_4 := blk_frozen BK256.out 4
                        have hfz70_5 := blk_frozen BK256.out 5
                        go_wp2
                        repeat (go_quiet (fail); try go_wp2)
                        go_meet
                        case rel => exact ⟨_, ((((rd_T45 t248 x10_3).f3) != 0)), (by first | rfl | (simp; done) | (simp [*]; done)), H', ⟨by have := HJ2.out; have := HJ9.out; have := HK3.out; have := HJ23.out; have := HJ52.out; first | omega | exact Nat.le_refl _⟩, ⟨by (try simp only [hl9_52]); (with_reducible repeat (first | apply Kd.R_alloc | apply Kd.R_drewN | apply Kd.R_drew)); exact HO_4.out⟩, ⟨by (try simp only [hl9_52]); (with_reducible repeat (first | apply Kd.R_alloc | apply Kd.R_drewN | apply Kd.R_drew)); exact HO_7.out⟩, ⟨by (try simp only [hl9_52]); (with_reducible repeat (first | apply Kd.R_alloc | apply Kd.R_drewN | apply Kd.R_drew)); exact HO_9.out⟩, ⟨by (try simp only [hl9_52]); (with_reducible repeat (first | refine blk_drewN ?_ _ | refine blk_drew ?_ | refine blk_alloc ?_ _)); exact BK256.out⟩, ⟨by repeat (first | (with_reducible first | exact HB.out | apply below_alloc | apply pw_below_drewN | apply below_drew1 | refine below_set ?_ GE256.out) | exact HB.out)⟩⟩
                       ·rw [if_neg c69] at H
                        have c69b0 : (((rd_T45 t248 x10_3).f5) == (-1)) = false := beq_eq_false_iff_ne.mpr c69
                        have c69b1 : (((rd_T45 t248 x10_3).f5) != (-1)) = true := bne_iff_ne.mpr c69
                        (first | rw [c69b0] | (simp only [i64_w, i32_w, Go.IntKind.wrap_u32]; rw [c69b0]) | skip)
                        exact hatstandlaw14_HistoryRight.j5_dead H HT0.out
                      case rest =>
                       clear HC67
                       try clear c1
                       try clear c2
                       try clear p2
                       try clear q2
                       try clear hx2
                       try clear c3
                       try clear c4
                       try clear c5
                       try clear p5
                       try clear q5
                       try clear hx5
                       try clear hf5
                       try clear c6
                       try clear p6
                       try clear c15
                       try clear c15b0
                       try clear c15b1
                       try clear c16
                       try clear c16b0
                       try clear c16b1
                       try clear c17
                       try clear c18
                       try clear c18b0
                       try clear c18b1
                       try clear c19
                       try clear c19b0
                       try clear c19b1
                       try clear c22
                       try clear c22b0
                       try clear c23
                       try clear c23b0
                       try clear p25
                       try clear q25
                       try clear hx25
                       try clear p26
                       try clear q26
                       try clear hx26
                       try clear c28
                       try clear c28b0
                       try clear c30
                       try clear c30b0
                       try clear c32
                       try clear c32b0
                       try clear c34
                       try clear c34b0
                       try clear c35
                       try clear c35b0
                       try clear c37
                       try clear c37b0
                       try clear c39
                       try clear c39b0
                       try clear c40
                       try clear c40b0
                       try clear c43
                       try clear c43b0
                       try clear c45
                       try clear c45b0
                       try clear c46
                       try clear c46b0
                       try clear c49
                       try clear c50
                       try clear c50b0
                       try clear c51
                       try clear c51b0
                       try clear p52
                       try clear q52
                       try clear hx52
                       try clear hf52
                       try clear c58
                       try clear c58b0
                       try clear q59
                       try clear c60
                       try clear c62
                       try clear c62b0
                       try clear c62b1
                       try clear p64
                       try clear c65
                       try clear c66
                       try clear c66b0
                       try clear c69
                       try clear c69b0
                       try clear c69b1
                       try clear hcz27_0
                       try clear hcz27_1
                       try clear hcz27_2
                       try clear hcz27_3
                       try clear hcz27_4
                       try clear hcz27_5
                       try clear hcz29_0
                       try clear hcz29_1
                       try clear hcz29_2
                       try clear hcz29_3
                       try clear hcz29_4
                       try clear hcz29_5
                       try clear hcz31_0
                       try clear hcz31_1
                       try clear hcz31_2
                       try clear hcz31_3
                       try clear hcz31_4
                       try clear hcz31_5
                       try clear hcz33_0
                       try clear hcz33_1
                       try clear hcz33_2
                       try clear hcz33_3
                       try clear hcz33_4
                       try clear hcz33_5
                       try clear hcz36_0
                       try clear hcz36_1
                       try clear hcz36_2
                       try clear hcz36_3
                       try clear hcz36_4
                       try clear hcz36_5
                       try clear hcz41_0
                       try clear hcz41_1
                       try clear hcz41_2
                       try clear hcz41_3
                       try clear hcz41_4
                       try clear hcz41_5
                       try clear hcz42_0
                       try clear hcz42_1
                       try clear hcz42_2
                       try clear hcz42_3
                       try clear hcz42_4
                       try clear hcz42_5
                       try clear hcz47_0
                       try clear hcz47_1
                       try clear hcz47_2
                       try clear hcz47_3
                       try clear hcz47_4
                       try clear hcz47_5
                       try clear hcz48_0
                       try clear hcz48_1
                       try clear hcz48_2
                       try clear hcz48_3
                       try clear hcz48_4
                       try clear hcz48_5
                       try clear hcz54_0
                       try clear hcz54_1
                       try clear hcz54_2
                       try clear hcz54_3
                       try clear hcz54_4
                       try clear hcz54_5
                       try clear hcz61_0
                       try clear hcz61_1
                       try clear hcz61_2
                       try clear hcz61_3
                       try clear hcz61_4
                       try clear hcz61_5
                       try clear hcz63_0
                       try clear hcz63_1
                       try clear hcz63_2
                       try clear hcz63_3
                       try clear hcz63_4
                       try clear hcz63_5
                       try clear hcz64_0
                       try clear hcz64_1
                       try clear hcz64_2
                       try clear hcz64_3
                       try clear hcz64_4
                       try clear hcz64_5
                       try clear hcz68_0
                       try clear hcz68_1
                       try clear hcz68_2
                       try clear hcz68_3
                       try clear hcz68_4
                       try clear hcz68_5
                       try clear hcz70_0
                       try clear hcz70_1
                       try clear hcz70_2
                       try clear hcz70_3
                       try clear hcz70_4
                       try clear hcz70_5
                       try clear hcz71_0
                       try clear hcz71_1
                       try clear hcz71_2
                       try clear hcz71_3
                       try clear hcz71_4
                       try clear hcz71_5
                       try clear hfz27_0
                       try clear hfz27_1
                       try clear hfz27_2
                       try clear hfz27_3
                       try clear hfz27_4
                       try clear hfz27_5
                       try clear hfz29_0
                       try clear hfz29_1
                       try clear hfz29_2
                       try clear hfz29_3
                       try clear hfz29_4
                       try clear hfz29_5
                       try clear hfz31_0
                       try clear hfz31_1
                       try clear hfz31_2
                       try clear hfz31_3
                       try clear hfz31_4
                       try clear hfz31_5
                       try clear hfz33_0
                       try clear hfz33_1
                       try clear hfz33_2
                       try clear hfz33_3
                       try clear hfz33_4
                       try clear hfz33_5
                       try clear hfz36_0
                       try clear hfz36_1
                       try clear hfz36_2
                       try clear hfz36_3
                       try clear hfz36_4
                       try clear hfz36_5
                       try clear hfz41_0
                       try clear hfz41_1
                       try clear hfz41_2
                       try clear hfz41_3
                       try clear hfz41_4
                       try clear hfz41_5
                       try clear hfz42_0
                       try clear hfz42_1
                       try clear hfz42_2
                       try clear hfz42_3
                       try clear hfz42_4
                       try clear hfz42_5
                       try clear hfz47_0
                       try clear hfz47_1
                       try clear hfz47_2
                       try clear hfz47_3
                       try clear hfz47_4
                       try clear hfz47_5
                       try clear hfz48_0
                       try clear hfz48_1
                       try clear hfz48_2
                       try clear hfz48_3
                       try clear hfz48_4
                       try clear hfz48_5
                       try clear hfz54_0
                       try clear hfz54_1
                       try clear hfz54_2
                       try clear hfz54_3
                       try clear hfz54_4
                       try clear hfz54_5
                       try clear hfz61_0
                       try clear hfz61_1
                       try clear hfz61_2
                       try clear hfz61_3
                       try clear hfz61_4
                       try clear hfz61_5
                       try clear hfz63_0
                       try clear hfz63_1
                       try clear hfz63_2
                       try clear hfz63_3
                       try clear hfz63_4
                       try clear hfz63_5
                       try clear hfz64_0
                       try clear hfz64_1
                       try clear hfz64_2
                       try clear hfz64_3
                       try clear hfz64_4
                       try clear hfz64_5
                       try clear hfz68_0
                       try clear hfz68_1
                       try clear hfz68_2
                       try clear hfz68_3
                       try clear hfz68_4
                       try clear hfz68_5
                       try clear hfz70_0
                       try clear hfz70_1
                       try clear hfz70_2
                       try clear hfz70_3
                       try clear hfz70_4
                       try clear hfz70_5
                       try clear hfz71_0
                       try clear hfz71_1
                       try clear hfz71_2
                       try clear hfz71_3
                       try clear hfz71_4
                       try clear hfz71_5
                       try clear hx255_0
                       try clear hx255_1
                       try clear hx255_2
                       try clear hx255_3
                       try clear hx255_4
                       try clear hx255_5
                       try clear hx257_0
                       try clear hx257_1
                       try clear hx257_2
                       try clear hx257_3
                       try clear hx257_4
                       try clear hx257_5
                       try clear hx258_0
                       try clear hx258_1
                       try clear hx258_2
                       try clear hx258_3
                       try clear hx258_4
                       try clear hx258_5
                       try clear hx259_0
                       try clear hx261_0
                       try clear hx261_1
                       try clear hx261_2
                       try clear hx261_3
                       try clear hx261_4
                       try clear hx262_0
                       try clear hx262_1
                       try clear hx262_2
                       try clear hx262_3
                       try clear hx262_4
                       try clear hx263_0
                       try clear hx263_1
                       try clear hx263_2
                       try clear hx263_3
                       try clear hx263_4
                       try clear hx52_0
                       try clear p2
                       try clear p25
                       try clear p255
                       try clear p257
                       try clear p258
                       try clear p259
                       try clear p26
                       try clear p261
                       try clear p262
                       try clear p263
                       try clear p5
                       try clear p52
                       try clear p6
                       try clear p64
                       try clear q2
                       try clear q25
                       try clear q255
                       try clear q257
                       try clear q258
                       try clear q259
                       try clear q26
                       try clear q261
                       try clear q262
                       try clear q263
                       try clear q5
                       try clear q52
                       try clear q59
                       obtain ⟨kq, x148_66, rfl, HA, HJ66, HO_4, HO_7, HO_9, BK256, HB⟩ := hcut
                       cases kq with
                       | zero => exact absurd HA.out (by simp [hatstandlaw14_HistoryRight.j5])
                       | succ kj66 =>
                        have H := HA.out
                        clear HA
                        simp only [hatstandlaw14_HistoryRight.j5] at H
                        by_cases c72 : x148_66 = true
                        ·subst c72
                         have H1 : (some false) = some r := by rw [if_pos rfl] at H; exact H
                         clear H
                         have H := H1
                         clear H1
                         exact absurd ((Option.some.inj H).trans HT0.out) (by decide)
                        ·replace c72 := Bool.eq_false_iff.mpr c72
                         subst c72
                         have H1 : (hatstandlaw14_HistoryRight.l0 kj66 t243 t248 y260 (wrap64 (x10_3 + 1))) = some r := by rw [if_neg (show ¬ (false = true) by decide)] at H; exact H
                         clear H
                         have H := H1
                         clear H1
                         have H' := Aside0.mk H
                         clear H
                         go_wp2
                         repeat (go_quiet (fail); try go_wp2)
                         (try simp only [← hl9_52])
                         go_roundg kj66
                         case measure => have := HJ2.out; have := HJ9.out; have := HK3.out; have := HJ23.out; have := HJ52.out; have := HJ66.out; omega
                         case rel => exact ⟨(y260), (wrap64 (x10_3 + 1)), (by first | rfl | (simp; done) | (simp [*]; done)), H', ⟨by have := HJ2.out; have := HJ9.out; have := HK3.out; have := HJ23.out; have := HJ52.out; have := HJ66.out; omega⟩, ⟨by (try simp only [hl9_52]); (with_reducible repeat (first | apply Kd.R_alloc | apply Kd.R_drewN | apply Kd.R_drew)); exact HO_4.out⟩, ⟨by (try simp only [hl9_52]); (with_reducible repeat (first | apply Kd.R_alloc | apply Kd.R_drewN | apply Kd.R_drew)); exact Kd.R_mono HO_7.out (fun _ hk => trivial)⟩, ⟨by (try simp only [hl9_52]); (with_reducible repeat (first | apply Kd.R_alloc | apply Kd.R_drewN | apply Kd.R_drew)); exact HO_9.out⟩, ⟨by repeat (first | (with_reducible first | exact HB.out | apply below_alloc | apply pw_below_drewN | apply below_drew1 | refine below_set ?_ GE256.out) | exact HB.out)⟩⟩
                     ·rw [if_neg c66] at H
                      have c66b0 : decide (((rd_T45 t248 x10_3).f5) < 0) = false := decide_eq_false c66
                      clear c66
                      by_cases c73 : 0 ≤ ((rd_T45 t248 x10_3).f5)
                      ·rw [if_pos c73] at H
                       have c73b0 : decide (0 ≤ ((rd_T45 t248 x10_3).f5)) = true := decide_eq_true c73
                       clear c73
                       by_cases c74 : ((rd_T45 t248 x10_3).f5) < (y260.length : Int)
                       ·rw [if_pos c74] at H
                        have c74b0 : decide (((rd_T45 t248 x10_3).f5) < (y260.length : Int)) = true := decide_eq_true c74
                        clear c74
                        obtain ⟨y265, hy265⟩ : ∃ y_ : List Int, y_ = (y260.set (((rd_T45 t248 x10_3).f5) : Int).toNat (wrap64 ((rd y260 ((rd_T45 t248 x10_3).f5)) + 1))) := ⟨_, rfl⟩
                        replace H : (if ((rd_T45 t248 x10_3).f5) < (t243.length : Int) then (if ((rd_T47 t243 ((rd_T45 t248 x10_3).f5)).f1 = true) then (if ((rd_T47 t243 ((rd_T45 t248 x10_3).f5)).f0) = ((rd_T45 t248 x10_3).f0) then (hatstandlaw14_HistoryRight.j6 kj52 t243 t248 y265 x10_3 (((rd_T47 t243 ((rd_T45 t248 x10_3).f5)).f4) != ((rd_T45 t248 x10_3).f3))) else (hatstandlaw14_HistoryRight.j6 kj52 t243 t248 y265 x10_3 true)) else (hatstandlaw14_HistoryRight.j6 kj52 t243 t248 y265 x10_3 true)) else (none)) = some r := by first | (rw [hy265]; with_reducible exact H) | (have H2_ := (Option.bind_some _ _).symm.trans H; rw [hy265]; with_reducible exact H2_) | (have H2_ := (Option.bind_some _ _).symm.trans H; with_reducible exact H2_) | with_reducible exact H | (rw [hy265]; exact H) | exact H
                        have Ny265 := Aside0.mk hy265
                        clear hy265
                        have HC76 := Aside0.mk H
                        clear H
                        have hcz77_0 : wc.cell? ⟨gb256, 0, none⟩ = some (.int .i64 ((rd_T45 t248 x10_3).f0)) := (blk_cell BK256.out 0).trans rfl
                        have hcz77_1 : wc.cell? ⟨gb256, 1, none⟩ = some (.bool ((rd_T45 t248 x10_3).f1)) := (blk_cell BK256.out 1).trans rfl
                        have hcz77_2 : wc.cell? ⟨gb256, 2, none⟩ = some (.int .u64 ((rd_T45 t248 x10_3).f2)) := (blk_cell BK256.out 2).trans rfl
                        have hcz77_3 : wc.cell? ⟨gb256, 3, none⟩ = some (.int .i64 ((rd_T45 t248 x10_3).f3)) := (blk_cell BK256.out 3).trans rfl
                        have hcz77_4 : wc.cell? ⟨gb256, 4, none⟩ = some (.int .i64 ((rd_T45 t248 x10_3).f4)) := (blk_cell BK256.out 4).trans rfl
                        have hcz77_5 : wc.cell? ⟨gb256, 5, none⟩ = some (.int .i64 ((rd_T45 t248 x10_3).f5)) := (blk_cell BK256.out 5).trans rfl
                        have hfz77_0 := blk_frozen BK256.out 0
                        have hfz77_1 := blk_frozen BK256.out 1
                        have hfz77_2 := blk_frozen BK256.out 2
                        have hfz77_3 := blk_frozen BK256.out 3
                        have hfz77_4 := blk_frozen BK256.out 4
                        have hfz77_5 := blk_frozen BK256.out 5
                        have p264 : 0 ≤ (((rd_T45 t248 x10_3).f5) : Int) := of_decide_eq_true (by first | (with_reducible assumption) | assumption)
                        have q264 : ((rd_T45 t248 x10_3).f5) < (y260.length : Int) := of_decide_eq_true (by first | (with_reducible assumption) | assumption)
                        obtain ⟨ad264, e264, hx264_0⟩ := Kd.at_int (Kd.R_reads' HO_9.out).2.2 ((rd_T45 t248 x10_3).f5) p264 q264
                        obtain rfl : (⟨go52, 0, none⟩ : Addr) = ad264 := (by injection e264)
                        (first | simp only [add_plain] at hx264_0 | simp only [add_at] at hx264_0 | simp only [Addr.add, Nat.zero_add] at hx264_0 | skip)
                        replace p264 := eq_true p264
                        replace q264 := eq_true q264
                        have p75 : 0 ≤ (((rd_T45 t248 x10_3).f5) : Int) := of_decide_eq_true (by first | (with_reducible assumption) | assumption)
                        have q75 : (((rd_T45 t248 x10_3).f5) : Int) < ((y260.length : Int) : Int) := of_decide_eq_true (by first | (with_reducible assumption) | assumption)
                        obtain ⟨hx75_0, hf75_0⟩ := Kd.R_celln 0 HO_9.out (((rd_T45 t248 x10_3).f5) : Int) p75 q75
                        replace p75 := eq_true p75
                        replace q75 := eq_true q75
                        have HP78 := Kd.R_putg HO_9.out (((rd_T45 t248 x10_3).f5) : Int) (wrap64 ((rd y260 ((rd_T45 t248 x10_3).f5)) + 1))
                        go_upto_region 23 with (first | ((with_reducible refine gate_store (t := 3) (p := 155) rfl ?_); (try (rw [drewN_self wc]; generalize hq_ : World.drewN wc _ = wc; have n0_ := Aside0.mk (Kd.R_at hq_ HO_4.out); have n1_ := Aside0.mk (Kd.R_at hq_ HO_7.out); have n2_ := Aside0.mk (Kd.R_at hq_ HO_9.out); have n3_ := Aside0.mk (blk_at hq_ BK256.out); have n4_ := Aside0.mk (below_at hq_ HB.out); clear hq_ HO_4 HO_7 HO_9 BK256 HB; have HO_4 := n0_; have HO_7 := n1_; have HO_9 := n2_; have BK256 := n3_; have HB := n4_; clear n0_ n1_ n2_ n3_ n4_; (try (have HP78 := Kd.R_putg HO_9.out (((rd_T45 t248 x10_3).f5) : Int) (wrap64 ((rd y260 ((rd_T45 t248 x10_3).f5)) + 1)))))); refine store_event (t := 3) (p := 155) (v := ?vo_w79) (w1 := (wc.setCell ⟨go52, (((rd_T45 t248 x10_3).f5) : Int).toNat, none⟩ (.int .i64 (wrap64 ((rd y260 ((rd_T45 t248 x10_3).f5)) + 1))))) ?hg ?ho ?hn ?hr ?_; (case ho => rfl); (case hg => rfl); (case hn => rfl); (case hr => first | (go_simp; done) | (go_simp; rfl)); intro w79 hw; have hg : wc.grownBy w79 (some go52) := (by rw [hw]; exact HP78.2); have hp_ : Kd.R (Kd.int .i64) 3 w79 w.heap.size (fun _ => True) (.slice (some ⟨go52, 0, none⟩) y260.length co55) y265 := (by rw [hw, Ny265.out]; exact HP78.1); clear HP78; have n0_ := Aside0.mk (Kd.R_over' (v := (.slice (some ⟨go52, 0, none⟩) y260.length co55)) (by (with_reducible repeat (first | apply Kd.R_alloc | apply Kd.R_drewN | apply Kd.R_drew)); exact HO_4.out) (Kd.R_typed HO_9.out) (by decide) hg); have n1_ := Aside0.mk (Kd.R_over' (v := (.slice (some ⟨go52, 0, none⟩) y260.length co55)) (by (with_reducible repeat (first | apply Kd.R_alloc | apply Kd.R_drewN | apply Kd.R_drew)); exact HO_7.out) (Kd.R_typed HO_9.out) (by decide) hg); have n2_ := Aside0.mk (hp_); have n3_ := Aside0.mk (blk_grown (g := gb256) (o := .cells #[.int .i64 ((rd_T45 t248 x10_3).f0), .bool ((rd_T45 t248 x10_3).f1), .int .u64 ((rd_T45 t248 x10_3).f2), .int .i64 ((rd_T45 t248 x10_3).f3), .int .i64 ((rd_T45 t248 x10_3).f4), .int .i64 ((rd_T45 t248 x10_3).f5)] 45 (0, 0)) (by (with_reducible repeat (first | refine blk_drewN ?_ _ | refine blk_drew ?_ | refine blk_alloc ?_ _)); exact BK256.out) hg (Kd.R_ne HO_9.out BK256.out (by decide))); have n4_ := Aside0.mk ((by rw [hw]; exact below_set (HB.out) GB52.out : Below w.heap.size w w79)); clear HO_4; clear HO_7; clear HO_9; clear BK256; clear HB; have HO_4 := n0_; have HO_7 := n1_; have HO_9 := n2_; have BK256 := n3_; have HB := n4_; clear n0_ n1_ n2_ n3_ n4_; clear hg hw hp_))
                        repeat (go_quiet (first | ((with_reducible refine gate_store (t := 3) (p := 155) rfl ?_); (try (rw [drewN_self wc]; generalize hq_ : World.drewN wc _ = wc; have n0_ := Aside0.mk (Kd.R_at hq_ HO_4.out); have n1_ := Aside0.mk (Kd.R_at hq_ HO_7.out); have n2_ := Aside0.mk (Kd.R_at hq_ HO_9.out); have n3_ := Aside0.mk (blk_at hq_ BK256.out); have n4_ := Aside0.mk (below_at hq_ HB.out); clear hq_ HO_4 HO_7 HO_9 BK256 HB; have HO_4 := n0_; have HO_7 := n1_; have HO_9 := n2_; have BK256 := n3_; have HB := n4_; clear n0_ n1_ n2_ n3_ n4_; (try (have HP78 := Kd.R_putg HO_9.out (((rd_T45 t248 x10_3).f5) : Int) (wrap64 ((rd y260 ((rd_T45 t248 x10_3).f5)) + 1)))))); refine store_event (t := 3) (p := 155) (v := ?vo_w79) (w1 := (wc.setCell ⟨go52, (((rd_T45 t248 x10_3).f5) : Int).toNat, none⟩ (.int .i64 (wrap64 ((rd y260 ((rd_T45 t248 x10_3).f5)) + 1))))) ?hg ?ho ?hn ?hr ?_; (case ho => rfl); (case hg => rfl); (case hn => rfl); (case hr => first | (go_simp; done) | (go_simp; rfl)); intro w79 hw; have hg : wc.grownBy w79 (some go52) := (by rw [hw]; exact HP78.2); have hp_ : Kd.R (Kd.int .i64) 3 w79 w.heap.size (fun _ => True) (.slice (some ⟨go52, 0, none⟩) y260.length co55) y265 := (by rw [hw, Ny265.out]; exact HP78.1); clear HP78; have n0_ := Aside0.mk (Kd.R_over' (v := (.slice (some ⟨go52, 0, none⟩) y260.length co55)) (by (with_reducible repeat (first | apply Kd.R_alloc | apply Kd.R_drewN | apply Kd.R_drew)); exact HO_4.out) (Kd.R_typed HO_9.out) (by decide) hg); have n1_ := Aside0.mk (Kd.R_over' (v := (.slice (some ⟨go52, 0, none⟩) y260.length co55)) (by (with_reducible repeat (first | apply Kd.R_alloc | apply Kd.R_drewN | apply Kd.R_drew)); exact HO_7.out) (Kd.R_typed HO_9.out) (by decide) hg); have n2_ := Aside0.mk (hp_); have n3_ := Aside0.mk (blk_grown (g := gb256) (o := .cells #[.int .i64 ((rd_T45 t248 x10_3).f0), .bool ((rd_T45 t248 x10_3).f1), .int .u64 ((rd_T45 t248 x10_3).f2), .int .i64 ((rd_T45 t248 x10_3).f3), .int .i64 ((rd_T45 t248 x10_3).f4), .int .i64 ((rd_T45 t248 x10_3).f5)] 45 (0, 0)) (by (with_reducible repeat (first | refine blk_drewN ?_ _ | refine blk_drew ?_ | refine blk_alloc ?_ _)); exact BK256.out) hg (Kd.R_ne HO_9.out BK256.out (by decide))); have n4_ := Aside0.mk ((by rw [hw]; exact below_set (HB.out) GB52.out : Below w.heap.size w w79)); clear HO_4; clear HO_7; clear HO_9; clear BK256; clear HB; have HO_4 := n0_; have HO_7 := n1_; have HO_9 := n2_; have BK256 := n3_; have HB := n4_; clear n0_ n1_ n2_ n3_ n4_; clear hg hw hp_)); go_upto_region 23 with (first | ((with_reducible refine gate_store (t := 3) (p := 155) rfl ?_); (try (rw [drewN_self wc]; generalize hq_ : World.drewN wc _ = wc; have n0_ := Aside0.mk (Kd.R_at hq_ HO_4.out); have n1_ := Aside0.mk (Kd.R_at hq_ HO_7.out); have n2_ := Aside0.mk (Kd.R_at hq_ HO_9.out); have n3_ := Aside0.mk (blk_at hq_ BK256.out); have n4_ := Aside0.mk (below_at hq_ HB.out); clear hq_ HO_4 HO_7 HO_9 BK256 HB; have HO_4 := n0_; have HO_7 := n1_; have HO_9 := n2_; have BK256 := n3_; have HB := n4_; clear n0_ n1_ n2_ n3_ n4_; (try (have HP78 := Kd.R_putg HO_9.out (((rd_T45 t248 x10_3).f5) : Int) (wrap64 ((rd y260 ((rd_T45 t248 x10_3).f5)) + 1)))))); refine store_event (t := 3) (p := 155) (v := ?vo_w79) (w1 := (wc.setCell ⟨go52, (((rd_T45 t248 x10_3).f5) : Int).toNat, none⟩ (.int .i64 (wrap64 ((rd y260 ((rd_T45 t248 x10_3).f5)) + 1))))) ?hg ?ho ?hn ?hr ?_; (case ho => rfl); (case hg => rfl); (case hn => rfl); (case hr => first | (go_simp; done) | (go_simp; rfl)); intro w79 hw; have hg : wc.grownBy w79 (some go52) := (by rw [hw]; exact HP78.2); have hp_ : Kd.R (Kd.int .i64) 3 w79 w.heap.size (fun _ => True) (.slice (some ⟨go52, 0, none⟩) y260.length co55) y265 := (by rw [hw, Ny265.out]; exact HP78.1); clear HP78; have n0_ := Aside0.mk (Kd.R_over' (v := (.slice (some ⟨go52, 0, none⟩) y260.length co55)) (by (with_reducible repeat (first | apply Kd.R_alloc | apply Kd.R_drewN | apply Kd.R_drew)); exact HO_4.out) (Kd.R_typed HO_9.out) (by decide) hg); have n1_ := Aside0.mk (Kd.R_over' (v := (.slice (some ⟨go52, 0, none⟩) y260.length co55)) (by (with_reducible repeat (first | apply Kd.R_alloc | apply Kd.R_drewN | apply Kd.R_drew)); exact HO_7.out) (Kd.R_typed HO_9.out) (by decide) hg); have n2_ := Aside0.mk (hp_); have n3_ := Aside0.mk (blk_grown (g := gb256) (o := .cells #[.int .i64 ((rd_T45 t248 x10_3).f0), .bool ((rd_T45 t248 x10_3).f1), .int .u64 ((rd_T45 t248 x10_3).f2), .int .i64 ((rd_T45 t248 x10_3).f3), .int .i64 ((rd_T45 t248 x10_3).f4), .int .i64 ((rd_T45 t248 x10_3).f5)] 45 (0, 0)) (by (with_reducible repeat (first | refine blk_drewN ?_ _ | refine blk_drew ?_ | refine blk_alloc ?_ _)); exact BK256.out) hg (Kd.R_ne HO_9.out BK256.out (by decide))); have n4_ := Aside0.mk ((by rw [hw]; exact below_set (HB.out) GB52.out : Below w.heap.size w w79)); clear HO_4; clear HO_7; clear HO_9; clear BK256; clear HB; have HO_4 := n0_; have HO_7 := n1_; have HO_9 := n2_; have BK256 := n3_; have HB := n4_; clear n0_ n1_ n2_ n3_ n4_; clear hg hw hp_)))
                        (try simp only [Act.put, List.setIfInBounds_toArray, List.set_cons_zero, List.set_cons_succ])
                        go_cut [184] (fun v184 wc => ∃ (kq : Nat) (x184_75 : Bool), v184 = .bool x184_75 ∧ Aside0 (hatstandlaw14_HistoryRight.j6 kq t243 t248 y265 x10_3 x184_75 = some r) ∧ Aside0 (kq ≤ kj52) ∧ Aside0 (Kd.R k47 47 wc w.heap.size (fun _ => True) (.slice Ao12 t243.length co12) t243) ∧ Aside0 (Kd.R k45 45 wc w.heap.size (fun k_ => k_ ≠ gb256) (.slice (some ad255) t248.length co25) t248) ∧ Aside0 (Kd.R (Kd.int .i64) 3 wc w.heap.size (fun _ => True) (.slice (some ⟨go52, 0, none⟩) y260.length co55) y265) ∧ Aside0 (wc.heap[gb256]? = some (.cells #[.int .i64 ((rd_T45 t248 x10_3).f0), .bool ((rd_T45 t248 x10_3).f1), .int .u64 ((rd_T45 t248 x10_3).f2), .int .i64 ((rd_T45 t248 x10_3).f3), .int .i64 ((rd_T45 t248 x10_3).f4), .int .i64 ((rd_T45 t248 x10_3).f5)] 45 (0, 0))) ∧ Aside0 (Below w.heap.size w wc))
                        case first =>
                         try simp only [Ytmdjmfbinjnlcaa.Lex.ops_cons, Ytmdjmfbinjnlcaa.Lex.ops_nil]
                         refine Ytmdjmfbinjnlcaa.Lex.with_lex (by as_aux_lemma => kernel_rfl) (by as_aux_lemma => kernel_rfl) ?_
                         intro HLX0
                         have HLX := Aside0.mk HLX0
                         clear HLX0
                         have H := HC76.out
                         clear HC76
                         by_cases c80 : ((rd_T45 t248 x10_3).f5) < (t243.length : Int)
                         ·rw [if_pos c80] at H
                          have c80b0 : decide (((rd_T45 t248 x10_3).f5) < (t243.length : Int)) = true := decide_eq_true c80
                          clear c80
                          (first | rw [c80b0] | (simp only [i64_w, i32_w, Go.IntKind.wrap_u32]; rw [c80b0]) | skip)
                          obtain ⟨bq81, hbq81⟩ : ∃ b_ : Bool, b_ = ((rd_T47 t243 ((rd_T45 t248 x10_3).f5)).f1) := ⟨_, rfl⟩
                          replace H : (if (bq81 = true) then (if ((rd_T47 t243 ((rd_T45 t248 x10_3).f5)).f0) = ((rd_T45 t248 x10_3).f0) then (hatstandlaw14_HistoryRight.j6 kj52 t243 t248 y265 x10_3 (((rd_T47 t243 ((rd_T45 t248 x10_3).f5)).f4) != ((rd_T45 t248 x10_3).f3))) else (hatstandlaw14_HistoryRight.j6 kj52 t243 t248 y265 x10_3 true)) else (hatstandlaw14_HistoryRight.j6 kj52 t243 t248 y265 x10_3 true)) = some r := by rw [← hbq81] at H; exact H
                          have Nbq81 := Aside0.mk hbq81
                          clear hbq81
                          by_cases c82 : (bq81 = true)
                          ·subst c82
                           have H1 : (if ((rd_T47 t243 ((rd_T45 t248 x10_3).f5)).f0) = ((rd_T45 t248 x10_3).f0) then (hatstandlaw14_HistoryRight.j6 kj52 t243 t248 y265 x10_3 (((rd_T47 t243 ((rd_T45 t248 x10_3).f5)).f4) != ((rd_T45 t248 x10_3).f3))) else (hatstandlaw14_HistoryRight.j6 kj52 t243 t248 y265 x10_3 true)) = some r := by rw [if_pos rfl] at H; exact H
                           clear H
                           have H := H1
                           clear H1
                           by_cases c83 : ((rd_T47 t243 ((rd_T45 t248 x10_3).f5)).f0) = ((rd_T45 t248 x10_3).f0)
                           ·rw [if_pos c83] at H
                            have c83b0 : (((rd_T47 t243 ((rd_T45 t248 x10_3).f5)).f0) == ((rd_T45 t248 x10_3).f0)) = true := beq_iff_eq.mpr c83
                            have c83b1 : (((rd_T47 t243 ((rd_T45 t248 x10_3).f5)).f0) != ((rd_T45 t248 x10_3).f0)) = false := bne_eq_false_iff_eq.mpr c83
                            clear c83
                            have H' := Aside0.mk H
                            clear H
                            have hcz84_0 : w79.cell? ⟨gb256, 0, none⟩ = some (.int .i64 ((rd_T45 t248 x10_3).f0)) := (blk_cell BK256.out 0).trans rfl
                            have hcz84_1 : w79.cell? ⟨gb256, 1, none⟩ = some (.bool ((rd_T45 t248 x10_3).f1)) := (blk_cell BK256.out 1).trans rfl
                            have hcz84_2 : w79.cell? ⟨gb256, 2, none⟩ = some (.int .u64 ((rd_T45 t248 x10_3).f2)) := (blk_cell BK256.out 2).trans rfl
                            have hcz84_3 : w79.cell? ⟨gb256, 3, none⟩ = some (.int .i64 ((rd_T45 t248 x10_3).f3)) := (blk_cell BK256.out 3).trans rfl
                            have hcz84_4 : w79.cell? ⟨gb256, 4, none⟩ = some (.int .i64 ((rd_T45 t248 x10_3).f4)) := (blk_cell BK256.out 4).trans rfl
                            have hcz84_5 : w79.cell? ⟨gb256, 5, none⟩ = some (.int .i64 ((rd_T45 t248 x10_3).f5)) := (blk_cell BK256.out 5).trans rfl
                            have hfz84_0 := blk_frozen BK256.out 0
                            have hfz84_1 := blk_frozen BK256.out 1
                            have hfz84_2 := blk_frozen BK256.out 2
                            have hfz84_3 := blk_frozen BK256.out 3
                            have hfz84_4 := blk_frozen BK256.out 4
                            have hfz84_5 := blk_frozen BK256.out 5
                            have p266 : 0 ≤ (((rd_T45 t248 x10_3).f5) : Int) := of_decide_eq_true (by first | (with_reducible assumption) | assumption)
                            have q266 : ((rd_T45 t248 x10_3).f5) < (t243.length : Int) := of_decide_eq_true (by first | (with_reducible assumption) | assumption)
                            obtain ⟨ad266, e266, hx266_0, hx266_1, hx266_2, hx266_3, hx266_4⟩ := at_T47 (Kd.R_reads' HO_4.out).2.2 ((rd_T45 t248 x10_3).f5) p266 q266
                            (try rw [← Nbq81.out] at hx266_1)
                            (try rw [← Nbq81.out] at hw266_1)
                            (try rw [← Nbq81.out] at hx266_2)
                            (try rw [← Nbq81.out] at hw266_2)
                            cases e266
                            replace p266 := eq_true p266
                            replace q266 := eq_true q266
                            have p267 : 0 ≤ (((rd_T45 t248 x10_3).f5) : Int) := of_decide_eq_true (by first | (with_reducible assumption) | assumption)
                            have q267 : ((rd_T45 t248 x10_3).f5) < (t243.length : Int) := of_decide_eq_true (by first | (with_reducible assumption) | assumption)
                            obtain ⟨ad267, e267, hx267_0, hx267_1, hx267_2, hx267_3, hx267_4⟩ := at_T47 (Kd.R_reads' HO_4.out).2.2 ((rd_T45 t248 x10_3).f5) p267 q267
                            (try rw [← Nbq81.out] at hx267_1)
                            (try rw [← Nbq81.out] at hw267_1)
                            (try rw [← Nbq81.out] at hx267_2)
                            (try rw [← Nbq81.out] at hw267_2)
                            obtain rfl : ad266 = ad267 := (by injection e267)
                            replace p267 := eq_true p267
                            replace q267 := eq_true q267
                            have p268 : 0 ≤ (((rd_T45 t248 x10_3).f5) : Int) := of_decide_eq_true (by first | (with_reducible assumption) | assumption)
                            have q268 : ((rd_T45 t248 x10_3).f5) < (t243.length : Int) := of_decide_eq_true (by first | (with_reducible assumption) | assumption)
                            obtain ⟨ad268, e268, hx268_0, hx268_1, hx268_2, hx268_3, hx268_4⟩ := at_T47 (Kd.R_reads' HO_4.out).2.2 ((rd_T45 t248 x10_3).f5) p268 q268
                            (try rw [← Nbq81.out] at hx268_1)
                            (try rw [← Nbq81.out] at hw268_1)
                            (try rw [← Nbq81.out] at hx268_2)
                            (try rw [← Nbq81.out] at hw268_2)
                            obtain rfl : ad266 = ad268 := (by injection e268)
                            replace p268 := eq_true p268
                            replace q268 := eq_true q268
                            go_wp2
                            (refine wp_region_quiet_lit (by as_aux_lemma => kernel_rfl) HLX.out ?_); (repeat (go_big_quiet_step (fail))); refine wpQuiet_nil ?_; intro _ hw'; obtain ⟨nq, hw''⟩ := hw'; subst hw''; try go_wp2
                            go_meet
                            case rel => exact ⟨_, ((((rd_T47 t243 ((rd_T45 t248 x10_3).f5)).f4) != ((rd_T45 t248 x10_3).f3))), (by first | rfl | (simp; done) | (simp [*]; done)), H', ⟨by have := HJ2.out; have := HJ9.out; have := HK3.out; have := HJ23.out; have := HJ52.out; first | omega | exact Nat.le_refl _⟩, ⟨by (try simp only [hl9_52]); (with_reducible repeat (first | apply Kd.R_alloc | apply Kd.R_drewN | apply Kd.R_drew)); exact HO_4.out⟩, ⟨by (try simp only [hl9_52]); (with_reducible repeat (first | apply Kd.R_alloc | apply Kd.R_drewN | apply Kd.R_drew)); exact HO_7.out⟩, ⟨by (try simp only [hl9_52]); (with_reducible repeat (first | apply Kd.R_alloc | apply Kd.R_drewN | apply Kd.R_drew)); exact HO_9.out⟩, ⟨by (try simp only [hl9_52]); (with_reducible repeat (first | refine blk_drewN ?_ _ | refine blk_drew ?_ | refine blk_alloc ?_ _)); exact BK256.out⟩, ⟨by repeat (first | (with_reducible first | exact HB.out | apply below_alloc | apply pw_below_drewN | apply below_drew1 | refine below_set ?_ GE256.out) | exact HB.out)⟩⟩
                           ·rw [if_neg c83] at H
                            have c83b0 : (((rd_T47 t243 ((rd_T45 t248 x10_3).f5)).f0) == ((rd_T45 t248 x10_3).f0)) = false := beq_eq_false_iff_ne.mpr c83
                            have c83b1 : (((rd_T47 t243 ((rd_T45 t248 x10_3).f5)).f0) != ((rd_T45 t248 x10_3).f0)) = true := bne_iff_ne.mpr c83
                            exact hatstandlaw14_HistoryRight.j6_dead H HT0.out
                          ·replace c82 := Bool.eq_false_iff.mpr c82
                           subst c82
                           have H1 : (hatstandlaw14_HistoryRight.j6 kj52 t243 t248 y265 x10_3 true) = some r := by rw [if_neg (show ¬ (false = true) by decide)] at H; exact H
                           clear H
                           have H := H1
                           clear H1
                           exact hatstandlaw14_HistoryRight.j6_dead H HT0.out
                         ·rw [if_neg c80] at H
                          exact absurd H (by simp)
                        case rest =>
                         clear HC76
                         try clear c1
                         try clear c2
                         try clear p2
                         try clear q2
                         try clear hx2
                         try clear c3
                         try clear c4
                         try clear c5
                         try clear p5
                         try clear q5
                         try clear hx5
                         try clear hf5
                         try clear c6
                         try clear p6
                         try clear c7
                         try clear p7
                         try clear q7
                         try clear hx7
                         try clear hf7
                         try clear c8
                         try clear q8
                         try clear c15
                         try clear c15b0
                         try clear c15b1
                         try clear c16
                         try clear c16b0
                         try clear c16b1
                         try clear c17
                         try clear c18
                         try clear c18b0
                         try clear c18b1
                         try clear c19
                         try clear c19b0
                         try clear c19b1
                         try clear c22
                         try clear c22b0
                         try clear c23
                         try clear c23b0
                         try clear p25
                         try clear q25
                         try clear hx25
                         try clear p26
                         try clear q26
                         try clear hx26
                         try clear c28
                         try clear c28b0
                         try clear c30
                         try clear c30b0
                         try clear c32
                         try clear c32b0
                         try clear c34
                         try clear c34b0
                         try clear c35
                         try clear c35b0
                         try clear c37
                         try clear c37b0
                         try clear c39
                         try clear c39b0
                         try clear c40
                         try clear c40b0
                         try clear c43
                         try clear c43b0
                         try clear c45
                         try clear c45b0
                         try clear c46
                         try clear c46b0
                         try clear c49
                         try clear c50
                         try clear c50b0
                         try clear c51
                         try clear c51b0
                         try clear p52
                         try clear q52
                         try clear hx52
                         try clear hf52
                         try clear c58
                         try clear c58b0
                         try clear q59
                         try clear c60
                         try clear c62
                         try clear c62b0
                         try clear c62b1
                         try clear p64
                         try clear c65
                         try clear c66
                         try clear c66b0
                         try clear c69
                         try clear c69b0
                         try clear c69b1
                         try clear c72
                         try clear c73
                         try clear c73b0
                         try clear c74
                         try clear c74b0
                         try clear p75
                         try clear q75
                         try clear hx75
                         try clear hf75
                         try clear c80
                         try clear c80b0
                         try clear q81
                         try clear c82
                         try clear c83
                         try clear c83b0
                         try clear c83b1
                         try clear hcz27_0
                         try clear hcz27_1
                         try clear hcz27_2
                         try clear hcz27_3
                         try clear hcz27_4
                         try clear hcz27_5
                         try clear hcz29_0
                         try clear hcz29_1
                         try clear hcz29_2
                         try clear hcz29_3
                         try clear hcz29_4
                         try clear hcz29_5
                         try clear hcz31_0
                         try clear hcz31_1
                         try clear hcz31_2
                         try clear hcz31_3
                         try clear hcz31_4
                         try clear hcz31_5
                         try clear hcz33_0
                         try clear hcz33_1
                         try clear hcz33_2
                         try clear hcz33_3
                         try clear hcz33_4
                         try clear hcz33_5
                         try clear hcz36_0
                         try clear hcz36_1
                         try clear hcz36_2
                         try clear hcz36_3
                         try clear hcz36_4
                         try clear hcz36_5
                         try clear hcz41_0
                         try clear hcz41_1
                         try clear hcz41_2
                         try clear hcz41_3
                         try clear hcz41_4
                         try clear hcz41_5
                         try clear hcz42_0
                         try clear hcz42_1
                         try clear hcz42_2
                         try clear hcz42_3
                         try clear hcz42_4
                         try clear hcz42_5
                         try clear hcz47_0
                         try clear hcz47_1
                         try clear hcz47_2
                         try clear hcz47_3
                         try clear hcz47_4
                         try clear hcz47_5
                         try clear hcz48_0
                         try clear hcz48_1
                         try clear hcz48_2
                         try clear hcz48_3
                         try clear hcz48_4
                         try clear hcz48_5
                         try clear hcz54_0
                         try clear hcz54_1
                         try clear hcz54_2
                         try clear hcz54_3
                         try clear hcz54_4
                         try clear hcz54_5
                         try clear hcz61_0
                         try clear hcz61_1
                         try clear hcz61_2
                         try clear hcz61_3
                         try clear hcz61_4
                         try clear hcz61_5
                         try clear hcz63_0
                         try clear hcz63_1
                         try clear hcz63_2
                         try clear hcz63_3
                         try clear hcz63_4
                         try clear hcz63_5
                         try clear hcz64_0
                         try clear hcz64_1
                         try clear hcz64_2
                         try clear hcz64_3
                         try clear hcz64_4
                         try clear hcz64_5
                         try clear hcz68_0
                         try clear hcz68_1
                         try clear hcz68_2
                         try clear hcz68_3
                         try clear hcz68_4
                         try clear hcz68_5
                         try clear hcz70_0
                         try clear hcz70_1
                         try clear hcz70_2
                         try clear hcz70_3
                         try clear hcz70_4
                         try clear hcz70_5
                         try clear hcz71_0
                         try clear hcz71_1
                         try clear hcz71_2
                         try clear hcz71_3
                         try clear hcz71_4
                         try clear hcz71_5
                         try clear hcz77_0
                         try clear hcz77_1
                         try clear hcz77_2
                         try clear hcz77_3
                         try clear hcz77_4
                         try clear hcz77_5
                         try clear hcz84_0
                         try clear hcz84_1
                         try clear hcz84_2
                         try clear hcz84_3
                         try clear hcz84_4
                         try clear hcz84_5
                         try clear hcz85_0
                         try clear hcz85_1
                         try clear hcz85_2
                         try clear hcz85_3
                         try clear hcz85_4
                         try clear hcz85_5
                         try clear hcz86_0
                         try clear hcz86_1
                         try clear hcz86_2
                         try clear hcz86_3
                         try clear hcz86_4
                         try clear hcz86_5
                         try clear hfz27_0
                         try clear hfz27_1
                         try clear hfz27_2
                         try clear hfz27_3
                         try clear hfz27_4
                         try clear hfz27_5
                         try clear hfz29_0
                         try clear hfz29_1
                         try clear hfz29_2
                         try clear hfz29_3
                         try clear hfz29_4
                         try clear hfz29_5
                         try clear hfz31_0
                         try clear hfz31_1
                         try clear hfz31_2
                         try clear hfz31_3
                         try clear hfz31_4
                         try clear hfz31_5
                         try clear hfz33_0
                         try clear hfz33_1
                         try clear hfz33_2
                         try clear hfz33_3
                         try clear hfz33_4
                         try clear hfz33_5
                         try clear hfz36_0
                         try clear hfz36_1
                         try clear hfz36_2
                         try clear hfz36_3
                         try clear hfz36_4
                         try clear hfz36_5
                         try clear hfz41_0
                         try clear hfz41_1
                         try clear hfz41_2
                         try clear hfz41_3
                         try clear hfz41_4
                         try clear hfz41_5
                         try clear hfz42_0
                         try clear hfz42_1
                         try clear hfz42_2
                         try clear hfz42_3
                         try clear hfz42_4
                         try clear hfz42_5
                         try clear hfz47_0
                         try clear hfz47_1
                         try clear hfz47_2
                         try clear hfz47_3
                         try clear hfz47_4
                         try clear hfz47_5
                         try clear hfz48_0
                         try clear hfz48_1
                         try clear hfz48_2
                         try clear hfz48_3
                         try clear hfz48_4
                         try clear hfz48_5
                         try clear hfz54_0
                         try clear hfz54_1
                         try clear hfz54_2
                         try clear hfz54_3
                         try clear hfz54_4
                         try clear hfz54_5
                         try clear hfz61_0
                         try clear hfz61_1
                         try clear hfz61_2
                         try clear hfz61_3
                         try clear hfz61_4
                         try clear hfz61_5
                         try clear hfz63_0
                         try clear hfz63_1
                         try clear hfz63_2
                         try clear hfz63_3
                         try clear hfz63_4
                         try clear hfz63_5
                         try clear hfz64_0
                         try clear hfz64_1
                         try clear hfz64_2
                         try clear hfz64_3
                         try clear hfz64_4
                         try clear hfz64_5
                         try clear hfz68_0
                         try clear hfz68_1
                         try clear hfz68_2
                         try clear hfz68_3
                         try clear hfz68_4
                         try clear hfz68_5
                         try clear hfz70_0
                         try clear hfz70_1
                         try clear hfz70_2
                         try clear hfz70_3
                         try clear hfz70_4
                         try clear hfz70_5
                         try clear hfz71_0
                         try clear hfz71_1
                         try clear hfz71_2
                         try clear hfz71_3
                         try clear hfz71_4
                         try clear hfz71_5
                         try clear hfz77_0
                         try clear hfz77_1
                         try clear hfz77_2
                         try clear hfz77_3
                         try clear hfz77_4
                         try clear hfz77_5
                         try clear hfz84_0
                         try clear hfz84_1
                         try clear hfz84_2
                         try clear hfz84_3
                         try clear hfz84_4
                         try clear hfz84_5
                         try clear hfz85_0
                         try clear hfz85_1
                         try clear hfz85_2
                         try clear hfz85_3
                         try clear hfz85_4
                         try clear hfz85_5
                         try clear hfz86_0
                         try clear hfz86_1
                         try clear hfz86_2
                         try clear hfz86_3
                         try clear hfz86_4
                         try clear hfz86_5
                         try clear hx255_0
                         try clear hx255_1
                         try clear hx255_2
                         try clear hx255_3
                         try clear hx255_4
                         try clear hx255_5
                         try clear hx257_0
                         try clear hx257_1
                         try clear hx257_2
                         try clear hx257_3
                         try clear hx257_4
                         try clear hx257_5
                         try clear hx258_0
                         try clear hx258_1
                         try clear hx258_2
                         try clear hx258_3
                         try clear hx258_4
                         try clear hx258_5
                         try clear hx259_0
                         try clear hx261_0
                         try clear hx261_1
                         try clear hx261_2
                         try clear hx261_3
                         try clear hx261_4
                         try clear hx262_0
                         try clear hx262_1
                         try clear hx262_2
                         try clear hx262_3
                         try clear hx262_4
                         try clear hx263_0
                         try clear hx263_1
                         try clear hx263_2
                         try clear hx263_3
                         try clear hx263_4
                         try clear hx264_0
                         try clear hx266_0
                         try clear hx266_1
                         try clear hx266_2
                         try clear hx266_3
                         try clear hx266_4
                         try clear hx267_0
                         try clear hx267_1
                         try clear hx267_2
                         try clear hx267_3
                         try clear hx267_4
                         try clear hx268_0
                         try clear hx268_1
                         try clear hx268_2
                         try clear hx268_3
                         try clear hx268_4
                         try clear hx52_0
                         try clear hx75_0
                         try clear p2
                         try clear p25
                         try clear p255
                         try clear p257
                         try clear p258
                         try clear p259
                         try clear p26
                         try clear p261
                         try clear p262
                         try clear p263
                         try clear p264
                         try clear p266
                         try clear p267
                         try clear p268
                         try clear p5
                         try clear p52
                         try clear p6
                         try clear p64
                         try clear p75
                         try clear q2
                         try clear q25
                         try clear q255
                         try clear q257
                         try clear q258
                         try clear q259
                         try clear q26
                         try clear q261
                         try clear q262
                         try clear q263
                         try clear q264
                         try clear q266
                         try clear q267
                         try clear q268
                         try clear q5
                         try clear q52
                         try clear q59
                         try clear q75
                         obtain ⟨kq, x184_75, rfl, HA, HJ75, HO_4, HO_7, HO_9, BK256, HB⟩ := hcut
                         have hl9_75 := (Kd.R_reads' HO_9.out).1
                         rw [hl9_75] at HO_9
                         (try simp only [hl9_75])
                         (try simp only [hl9_75] at BK256)
                         (try simp only [hl9_75] at HO_4)
                         (try simp only [hl9_75] at HO_7)
                         cases kq with
                         | zero => exact absurd HA.out (by simp [hatstandlaw14_HistoryRight.j6])
                         | succ kj75 =>
                          have H := HA.out
                          clear HA
                          simp only [hatstandlaw14_HistoryRight.j6] at H
                          by_cases c87 : x184_75 = true
                          ·subst c87
                           have H1 : (some false) = some r := by rw [if_pos rfl] at H; exact H
                           clear H
                           have H := H1
                           clear H1
                           exact absurd ((Option.some.inj H).trans HT0.out) (by decide)
                          ·replace c87 := Bool.eq_false_iff.mpr c87
                           subst c87
                           have H1 : (hatstandlaw14_HistoryRight.l0 kj75 t243 t248 y265 (wrap64 (x10_3 + 1))) = some r := by rw [if_neg (show ¬ (false = true) by decide)] at H; exact H
                           clear H
                           have H := H1
                           clear H1
                           have H' := Aside0.mk H
                           clear H
                           go_wp2
                           repeat (go_quiet (fail); try go_wp2)
                           (try simp only [← hl9_52, ← hl9_75])
                           go_roundg kj75
                           case measure => have := HJ2.out; have := HJ9.out; have := HK3.out; have := HJ23.out; have := HJ52.out; have := HJ75.out; omega
                           case rel => exact ⟨(y265), (wrap64 (x10_3 + 1)), (by first | rfl | (simp; done) | (simp [*]; done)), H', ⟨by have := HJ2.out; have := HJ9.out; have := HK3.out; have := HJ23.out; have := HJ52.out; have := HJ75.out; omega⟩, ⟨by (try simp only [hl9_52]); (try simp only [hl9_75]); (with_reducible repeat (first | apply Kd.R_alloc | apply Kd.R_drewN | apply Kd.R_drew)); exact HO_4.out⟩, ⟨by (try simp only [hl9_52]); (try simp only [hl9_75]); (with_reducible repeat (first | apply Kd.R_alloc | apply Kd.R_drewN | apply Kd.R_drew)); exact Kd.R_mono HO_7.out (fun _ hk => trivial)⟩, ⟨by (try simp only [hl9_52]); (try simp only [hl9_75]); (with_reducible repeat (first | apply Kd.R_alloc | apply Kd.R_drewN | apply Kd.R_drew)); exact HO_9.out⟩, ⟨by repeat (first | (with_reducible first | exact HB.out | apply below_alloc | apply pw_below_drewN | apply below_drew1 | refine below_set ?_ GE256.out) | exact HB.out)⟩⟩
                       ·rw [if_neg c74] at H
                        exact absurd H (by simp)
                      ·rw [if_neg c73] at H
                       exact absurd H (by simp)
                 ·rw [if_neg c51] at H
                  exact absurd H (by simp)
                ·rw [if_neg c50] at H
                 exact absurd H (by simp)
            ·rw [if_neg c23] at H
             exact absurd H (by simp)
           ·rw [if_neg c22] at H
            have c22b0 : decide (x10_3 < (t248.length : Int)) = false := decide_eq_false c22
            clear c22
            have H' := Aside0.mk H
            clear H
            obtain ⟨Ao88, co88, eo88⟩ := Kd.R_slice HO_7.out
            subst eo88
            go_wp2
            repeat (go_quiet (fail); try go_wp2)
            go_loopg [12] k3 (fun kq v12 w' => ∃ (x12_4 : Int), v12 = .int .i64 x12_4 ∧ Aside0 (hatstandlaw14_HistoryRight.l1 kq x9_3 x12_4 = some r) ∧ Aside0 (kq ≤ k3) ∧ Aside0 (Kd.R (Kd.int .i64) 3 w' w.heap.size (fun _ => True) v253 x9_3) ∧ Aside0 (Below w.heap.size w w'))
            case atStart => exact ⟨(0), (by first | rfl | (simp; done) | (simp [*]; done)), H', ⟨Nat.le_refl _⟩, ⟨by (with_reducible repeat (first | apply Kd.R_alloc | apply Kd.R_drewN | apply Kd.R_drew)); exact HO_9.out⟩, ⟨by repeat (first | (with_reducible first | exact HB.out | apply below_alloc | apply pw_below_drewN | apply below_drew1) | exact HB.out)⟩⟩
            case round =>
             clear H'
             try clear c1
             try clear c2
             try clear p2
             try clear q2
             try clear hx2
             try clear c3
             try clear c4
             try clear c5
             try clear p5
             try clear q5
             try clear hx5
             try clear hf5
             try clear c6
             try clear p6
             try clear c7
             try clear p7
             try clear q7
             try clear hx7
             try clear hf7
             try clear c8
             try clear q8
             try clear c15
             try clear c15b0
             try clear c15b1
             try clear c16
             try clear c16b0
             try clear c16b1
             try clear c17
             try clear c18
             try clear c18b0
             try clear c18b1
             try clear c19
             try clear c19b0
             try clear c19b1
             try clear c22
             try clear c22b0
             try clear c23
             try clear c23b0
             try clear p25
             try clear q25
             try clear hx25
             try clear p26
             try clear q26
             try clear hx26
             try clear c28
             try clear c28b0
             try clear c30
             try clear c30b0
             try clear c32
             try clear c32b0
             try clear c34
             try clear c34b0
             try clear c35
             try clear c35b0
             try clear c37
             try clear c37b0
             try clear c39
             try clear c39b0
             try clear c40
             try clear c40b0
             try clear c43
             try clear c43b0
             try clear c45
             try clear c45b0
             try clear c46
             try clear c46b0
             try clear c49
             try clear c50
             try clear c50b0
             try clear c51
             try clear c51b0
             try clear p52
             try clear q52
             try clear hx52
             try clear hf52
             try clear c58
             try clear c58b0
             try clear q59
             try clear c60
             try clear c62
             try clear c62b0
             try clear c62b1
             try clear p64
             try clear c65
             try clear c66
             try clear c66b0
             try clear c69
             try clear c69b0
             try clear c69b1
             try clear c72
             try clear c73
             try clear c73b0
             try clear c74
             try clear c74b0
             try clear p75
             try clear q75
             try clear hx75
             try clear hf75
             try clear c80
             try clear c80b0
             try clear q81
             try clear c82
             try clear c83
             try clear c83b0
             try clear c83b1
             try clear c87
             try clear hcz27_0
             try clear hcz27_1
             try clear hcz27_2
             try clear hcz27_3
             try clear hcz27_4
             try clear hcz27_5
             try clear hcz29_0
             try clear hcz29_1
             try clear hcz29_2
             try clear hcz29_3
             try clear hcz29_4
             try clear hcz29_5
             try clear hcz31_0
             try clear hcz31_1
             try clear hcz31_2
             try clear hcz31_3
             try clear hcz31_4
             try clear hcz31_5
             try clear hcz33_0
             try clear hcz33_1
             try clear hcz33_2
             try clear hcz33_3
             try clear hcz33_4
             try clear hcz33_5
             try clear hcz36_0
             try clear hcz36_1
             try clear hcz36_2
             try clear hcz36_3
             try clear hcz36_4
             try clear hcz36_5
             try clear hcz41_0
             try clear hcz41_1
             try clear hcz41_2
             try clear hcz41_3
             try clear hcz41_4
             try clear hcz41_5
             try clear hcz42_0
             try clear hcz42_1
             try clear hcz42_2
             try clear hcz42_3
             try clear hcz42_4
             try clear hcz42_5
             try clear hcz47_0
             try clear hcz47_1
             try clear hcz47_2
             try clear hcz47_3
             try clear hcz47_4
             try clear hcz47_5
             try clear hcz48_0
             try clear hcz48_1
             try clear hcz48_2
             try clear hcz48_3
             try clear hcz48_4
             try clear hcz48_5
             try clear hcz54_0
             try clear hcz54_1
             try clear hcz54_2
             try clear hcz54_3
             try clear hcz54_4
             try clear hcz54_5
             try clear hcz61_0
             try clear hcz61_1
             try clear hcz61_2
             try clear hcz61_3
             try clear hcz61_4
             try clear hcz61_5
             try clear hcz63_0
             try clear hcz63_1
             try clear hcz63_2
             try clear hcz63_3
             try clear hcz63_4
             try clear hcz63_5
             try clear hcz64_0
             try clear hcz64_1
             try clear hcz64_2
             try clear hcz64_3
             try clear hcz64_4
             try clear hcz64_5
             try clear hcz68_0
             try clear hcz68_1
             try clear hcz68_2
             try clear hcz68_3
             try clear hcz68_4
             try clear hcz68_5
             try clear hcz70_0
             try clear hcz70_1
             try clear hcz70_2
             try clear hcz70_3
             try clear hcz70_4
             try clear hcz70_5
             try clear hcz71_0
             try clear hcz71_1
             try clear hcz71_2
             try clear hcz71_3
             try clear hcz71_4
             try clear hcz71_5
             try clear hcz77_0
             try clear hcz77_1
             try clear hcz77_2
             try clear hcz77_3
             try clear hcz77_4
             try clear hcz77_5
             try clear hcz84_0
             try clear hcz84_1
             try clear hcz84_2
             try clear hcz84_3
             try clear hcz84_4
             try clear hcz84_5
             try clear hcz85_0
             try clear hcz85_1
             try clear hcz85_2
             try clear hcz85_3
             try clear hcz85_4
             try clear hcz85_5
             try clear hcz86_0
             try clear hcz86_1
             try clear hcz86_2
             try clear hcz86_3
             try clear hcz86_4
             try clear hcz86_5
             try clear hfz27_0
             try clear hfz27_1
             try clear hfz27_2
             try clear hfz27_3
             try clear hfz27_4
             try clear hfz27_5
             try clear hfz29_0
             try clear hfz29_1
             try clear hfz29_2
             try clear hfz29_3
             try clear hfz29_4
             try clear hfz29_5
             try clear hfz31_0
             try clear hfz31_1
             try clear hfz31_2
             try clear hfz31_3
             try clear hfz31_4
             try clear hfz31_5
             try clear hfz33_0
             try clear hfz33_1
             try clear hfz33_2
             try clear hfz33_3
             try clear hfz33_4
             try clear hfz33_5
             try clear hfz36_0
             try clear hfz36_1
             try clear hfz36_2
             try clear hfz36_3
             try clear hfz36_4
             try clear hfz36_5
             try clear hfz41_0
             try clear hfz41_1
             try clear hfz41_2
             try clear hfz41_3
             try clear hfz41_4
             try clear hfz41_5
             try clear hfz42_0
             try clear hfz42_1
             try clear hfz42_2
             try clear hfz42_3
             try clear hfz42_4
             try clear hfz42_5
             try clear hfz47_0
             try clear hfz47_1
             try clear hfz47_2
             try clear hfz47_3
             try clear hfz47_4
             try clear hfz47_5
             try clear hfz48_0
             try clear hfz48_1
             try clear hfz48_2
             try clear hfz48_3
             try clear hfz48_4
             try clear hfz48_5
             try clear hfz54_0
             try clear hfz54_1
             try clear hfz54_2
             try clear hfz54_3
             try clear hfz54_4
             try clear hfz54_5
             try clear hfz61_0
             try clear hfz61_1
             try clear hfz61_2
             try clear hfz61_3
             try clear hfz61_4
             try clear hfz61_5
             try clear hfz63_0
             try clear hfz63_1
             try clear hfz63_2
             try clear hfz63_3
             try clear hfz63_4
             try clear hfz63_5
             try clear hfz64_0
             try clear hfz64_1
             try clear hfz64_2
             try clear hfz64_3
             try clear hfz64_4
             try clear hfz64_5
             try clear hfz68_0
             try clear hfz68_1
             try clear hfz68_2
             try clear hfz68_3
             try clear hfz68_4
             try clear hfz68_5
             try clear hfz70_0
             try clear hfz70_1
             try clear hfz70_2
             try clear hfz70_3
             try clear hfz70_4
             try clear hfz70_5
             try clear hfz71_0
             try clear hfz71_1
             try clear hfz71_2
             try clear hfz71_3
             try clear hfz71_4
             try clear hfz71_5
             try clear hfz77_0
             try clear hfz77_1
             try clear hfz77_2
             try clear hfz77_3
             try clear hfz77_4
             try clear hfz77_5
             try clear hfz84_0
             try clear hfz84_1
             try clear hfz84_2
             try clear hfz84_3
             try clear hfz84_4
             try clear hfz84_5
             try clear hfz85_0
             try clear hfz85_1
             try clear hfz85_2
             try clear hfz85_3
             try clear hfz85_4
             try clear hfz85_5
             try clear hfz86_0
             try clear hfz86_1
             try clear hfz86_2
             try clear hfz86_3
             try clear hfz86_4
             try clear hfz86_5
             try clear hx255_0
             try clear hx255_1
             try clear hx255_2
             try clear hx255_3
             try clear hx255_4
             try clear hx255_5
             try clear hx257_0
             try clear hx257_1
             try clear hx257_2
             try clear hx257_3
             try clear hx257_4
             try clear hx257_5
             try clear hx258_0
             try clear hx258_1
             try clear hx258_2
             try clear hx258_3
             try clear hx258_4
             try clear hx258_5
             try clear hx259_0
             try clear hx261_0
             try clear hx261_1
             try clear hx261_2
             try clear hx261_3
             try clear hx261_4
             try clear hx262_0
             try clear hx262_1
             try clear hx262_2
             try clear hx262_3
             try clear hx262_4
             try clear hx263_0
             try clear hx263_1
             try clear hx263_2
             try clear hx263_3
             try clear hx263_4
             try clear hx264_0
             try clear hx266_0
             try clear hx266_1
             try clear hx266_2
             try clear hx266_3
             try clear hx266_4
             try clear hx267_0
             try clear hx267_1
             try clear hx267_2
             try clear hx267_3
             try clear hx267_4
             try clear hx268_0
             try clear hx268_1
             try clear hx268_2
             try clear hx268_3
             try clear hx268_4
             try clear hx52_0
             try clear hx75_0
             try clear p2
             try clear p25
             try clear p255
             try clear p257
             try clear p258
             try clear p259
             try clear p26
             try clear p261
             try clear p262
             try clear p263
             try clear p264
             try clear p266
             try clear p267
             try clear p268
             try clear p5
             try clear p52
             try clear p6
             try clear p64
             try clear p7
             try clear p75
             try clear q2
             try clear q25
             try clear q255
             try clear q257
             try clear q258
             try clear q259
             try clear q26
             try clear q261
             try clear q262
             try clear q263
             try clear q264
             try clear q266
             try clear q267
             try clear q268
             try clear q5
             try clear q52
             try clear q59
             try clear q7
             try clear q75
             try clear q8
             try clear q81
             obtain ⟨x12_4, rfl, HA, HK4, HO_9, HB⟩ := hrel
             cases gk with
             | zero => exact absurd HA.out (by simp [hatstandlaw14_HistoryRight.l1])
             | succ k4 =>
              have H := HA.out
              clear HA
              simp only [hatstandlaw14_HistoryRight.l1] at H
              by_cases c89 : x12_4 < (x9_3.length : Int)
              ·rw [if_pos c89] at H
               have c89b0 : decide (x12_4 < (x9_3.length : Int)) = true := decide_eq_true c89
               clear c89
               by_cases c90 : 0 ≤ x12_4
               ·rw [if_pos c90] at H
                have c90b0 : decide (0 ≤ x12_4) = true := decide_eq_true c90
                clear c90
                by_cases c91 : (rd x9_3 x12_4) = 1
                ·rw [if_pos c91] at H
                 have c91b0 : ((rd x9_3 x12_4) == 1) = true := beq_iff_eq.mpr c91
                 have c91b1 : ((rd x9_3 x12_4) != 1) = false := bne_eq_false_iff_eq.mpr c91
                 clear c91
                 have H' := Aside0.mk H
                 clear H
                 obtain ⟨Ao92, co92, eo92⟩ := Kd.R_slice HO_9.out
                 subst eo92
                 have p269 : 0 ≤ (x12_4 : Int) := of_decide_eq_true (by first | (with_reducible assumption) | assumption)
                 have q269 : x12_4 < (x9_3.length : Int) := of_decide_eq_true (by first | (with_reducible assumption) | assumption)
                 obtain ⟨ad269, e269, hx269_0⟩ := Kd.at_int (Kd.R_reads' HO_9.out).2.2 x12_4 p269 q269
                 cases e269
                 replace p269 := eq_true p269
                 replace q269 := eq_true q269
                 go_wp2
                 repeat (go_quiet (fail); try go_wp2)
                 go_roundg k4
                 case measure => have := HJ2.out; have := HJ9.out; have := HK3.out; have := HK4.out; omega
                 case rel => exact ⟨(wrap64 (x12_4 + 1)), (by first | rfl | (simp; done) | (simp [*]; done)), H', ⟨by have := HJ2.out; have := HJ9.out; have := HK3.out; have := HK4.out; omega⟩, ⟨by (with_reducible repeat (first | apply Kd.R_alloc | apply Kd.R_drewN | apply Kd.R_drew)); exact HO_9.out⟩, ⟨by repeat (first | (with_reducible first | exact HB.out | apply below_alloc | apply pw_below_drewN | apply below_drew1) | exact HB.out)⟩⟩
                ·rw [if_neg c91] at H
                 have c91b0 : ((rd x9_3 x12_4) == 1) = false := beq_eq_false_iff_ne.mpr c91
                 have c91b1 : ((rd x9_3 x12_4) != 1) = true := bne_iff_ne.mpr c91
                 exact absurd ((Option.some.inj H).trans HT0.out) (by decide)
               ·rw [if_neg c90] at H
                exact absurd H (by simp)
              ·rw [if_neg c89] at H
               have c89b0 : decide (x12_4 < (x9_3.length : Int)) = false := decide_eq_false c89
               clear c89
               obtain rfl := Option.some.inj H
               obtain ⟨Ao93, co93, eo93⟩ := Kd.R_slice HO_9.out
               subst eo93
               go_wp2
               repeat (go_quiet (fail); try go_wp2)
               go_ret
               exact ⟨by first | rfl | (simp [errW_none, errW_some] <;> rfl) | (simp [*, errW_none, errW_some] <;> rfl), by repeat (first | (with_reducible first | exact HB.out | apply below_alloc | apply pw_below_drewN | apply below_drew1) | exact HB.out)⟩
        ·rw [if_neg c19] at H
         exact absurd H (by simp)
       ·rw [if_neg c18] at H
        exact absurd H (by simp)

/-- THE ONE PURE STATEMENT of hatstandlaw14_HistoryRight. -/
def hatstandlaw14_HistoryRight.Pure : Prop := ∀ (l0 : List (S61)), l0.length ≤ maxLen → l0.length * 32 ≤ 140737488351232 → (∀ x ∈ l0, (Lit.int .i64 x.f0).wf = true ∧ (Lit.int .i64 x.f1).wf = true ∧ (Lit.int .u64 x.f3).wf = true) → ∃ k, hatstandlaw14_HistoryRight.f k l0 = some true
theorem hatstandlaw14_HistoryRight.walk (P : hatstandlaw14_HistoryRight.Pure) (A0 : Option Addr) (c0 : Nat) (l0 : List (S61)) (w : World) (hr0 : Kd.C k61 w A0 l0.length l0) (hc0 : l0.length ≤ c0) (hm0 : l0.length ≤ maxLen) (y0 : l0.length * 32 ≤ 140737488351232) (hw0 : (∀ x ∈ l0, (Lit.int .i64 x.f0).wf = true ∧ (Lit.int .i64 x.f1).wf = true ∧ (Lit.int .u64 x.f3).wf = true)) :
  Calls Try.prog 4 #[.slice A0 l0.length c0] w fun e w' => e = .returned (.bool true) ∧ Below w.heap.size w w' := by
 obtain ⟨k, h⟩ := P l0 hm0 y0 hw0
 refine (hatstandlaw14_HistoryRight.calls k A0 c0 l0 true w hr0 hc0 h rfl).mono ?_
 rintro e w' ⟨rfl, hd⟩
 exact ⟨rfl, hd⟩

end Go.Proofs.Ytmdjmfbinjnlcaa.P
