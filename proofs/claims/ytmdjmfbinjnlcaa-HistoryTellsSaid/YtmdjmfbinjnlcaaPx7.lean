/- Walks, written by a program for this claim: each Go function that the laws reach comes to what its Lean function says. -/
import Derived.Test.YtmdjmfbinjnlcaaPx0
import Derived.Test.YtmdjmfbinjnlcaaPx6
namespace Go.Proofs.Ytmdjmfbinjnlcaa.P
open Go.RowKit Go.Proofs.YtmdjmfbinjnlcaaW.PrintWords Go.Proofs.YtmdjmfbinjnlcaaW.PrintLast Go.Proofs.YtmdjmfbinjnlcaaW.PrintMore
attribute [local go_sem] max2_int min2_int max_two min_two max_three min_three max_four min_four   -- for this text's walks alone
set_option linter.unusedVariables false
set_option linter.unusedSimpArgs false

/-! ### hatstandref14_wrong: function 22 -/
mutual
def hatstandref14_wrong.j0 : Nat → List (S59) → Int → Bool → Int → Bool → Bool → Int → Int → Option (Int)
  | 0, _, _, _, _, _, _, _, _ => none
  | k + 1, x0, x1, x19, x145000, x145001, x145002, x145003, x145004 => if x19 = true then (some 4) else ((hatstandref14_last.f k x0 x1).bind fun t145 => (if t145 ≥ 0 then (if 0 ≤ t145 then (if t145 < (x0.length : Int) then (hatstandref14_wrong.j1 k x0 t145 (!((rd_T59 x0 t145).f1)) x145000 x145001 x145002 x145003 x145004) else (none)) else (none)) else (hatstandref14_wrong.j1 k x0 t145 false x145000 x145001 x145002 x145003 x145004)))
def hatstandref14_wrong.j1 : Nat → List (S59) → Int → Bool → Int → Bool → Bool → Int → Int → Option (Int)
  | 0, _, _, _, _, _, _, _, _ => none
  | k + 1, x0, x6, x7, x145000, x145001, x145002, x145003, x145004 => if x145001 = true then (if x7 = true then (if 0 ≤ x6 then (if x6 < (x0.length : Int) then (if (x145002 != ((rd_T59 x0 x6).f2)) = true then (hatstandref14_wrong.j3 k true x145000 x145001 x145002 x145003 x145004) else (if x145004 = 1 then (hatstandref14_wrong.j3 k false x145000 x145001 x145002 x145003 x145004) else (if x145004 = 2 then (hatstandref14_wrong.j3 k false x145000 x145001 x145002 x145003 x145004) else (if x145004 = 6 then (hatstandref14_wrong.j3 k false x145000 x145001 x145002 x145003 x145004) else (hatstandref14_wrong.j3 k (x145004 != 7) x145000 x145001 x145002 x145003 x145004))))) else (none)) else (none)) else (some 6)) else (if x7 = true then (some 5) else (if x145004 = 0 then (if x145002 = true then (hatstandref14_wrong.j2 k false) else (hatstandref14_wrong.j2 k (x145003 != 0))) else (hatstandref14_wrong.j2 k true)))
def hatstandref14_wrong.j3 : Nat → Bool → Int → Bool → Bool → Int → Int → Option (Int)
  | 0, _, _, _, _, _, _ => none
  | k + 1, x79, x145000, x145001, x145002, x145003, x145004 => if x79 = true then (some 3) else (if x145003 = 0 then (hatstandref14_wrong.j4 k false) else (if x145002 = true then (hatstandref14_wrong.j4 k true) else (hatstandref14_wrong.j4 k (x145004 != 1))))
def hatstandref14_wrong.j4 : Nat → Bool → Option (Int)
  | 0, _ => none
  | k + 1, x91 => if x91 = true then (some 3) else (some 0)
def hatstandref14_wrong.j2 : Nat → Bool → Option (Int)
  | 0, _ => none
  | k + 1, x49 => if x49 = true then (some 3) else (some 0)
end
def hatstandref14_wrong.f (k : Nat) (l0 : List (S59)) (a1 : Int) : Option (Int) := if 0 ≤ a1 then (if a1 < (l0.length : Int) then (if ((rd_T59 l0 a1).f0) < 0 then (hatstandref14_wrong.j0 k l0 a1 true ((rd_T59 l0 a1).f0) ((rd_T59 l0 a1).f1) ((rd_T59 l0 a1).f2) ((rd_T59 l0 a1).f3) ((rd_T59 l0 a1).f4)) else (hatstandref14_wrong.j0 k l0 a1 (decide (((rd_T59 l0 a1).f0) > 7)) ((rd_T59 l0 a1).f0) ((rd_T59 l0 a1).f1) ((rd_T59 l0 a1).f2) ((rd_T59 l0 a1).f3) ((rd_T59 l0 a1).f4))) else (none)) else (none)
theorem hatstandref14_wrong.mono_l : ∀ k, (∀ y0 y1 y2 y3 y4 y5 y6 y7, LeO (hatstandref14_wrong.j0 k y0 y1 y2 y3 y4 y5 y6 y7) (hatstandref14_wrong.j0 (k + 1) y0 y1 y2 y3 y4 y5 y6 y7)) ∧ (∀ y0 y1 y2 y3 y4 y5 y6 y7, LeO (hatstandref14_wrong.j1 k y0 y1 y2 y3 y4 y5 y6 y7) (hatstandref14_wrong.j1 (k + 1) y0 y1 y2 y3 y4 y5 y6 y7)) ∧ (∀ y0 y1 y2 y3 y4 y5, LeO (hatstandref14_wrong.j3 k y0 y1 y2 y3 y4 y5) (hatstandref14_wrong.j3 (k + 1) y0 y1 y2 y3 y4 y5)) ∧ (∀ y0, LeO (hatstandref14_wrong.j4 k y0) (hatstandref14_wrong.j4 (k + 1) y0)) ∧ (∀ y0, LeO (hatstandref14_wrong.j2 k y0) (hatstandref14_wrong.j2 (k + 1) y0))
  | 0 => ⟨fun _ _ _ _ _ _ _ _ r h => by simp [hatstandref14_wrong.j0] at h, fun _ _ _ _ _ _ _ _ r h => by simp [hatstandref14_wrong.j1] at h, fun _ _ _ _ _ _ r h => by simp [hatstandref14_wrong.j3] at h, fun _ r h => by simp [hatstandref14_wrong.j4] at h, fun _ r h => by simp [hatstandref14_wrong.j2] at h⟩
  | k + 1 => by
    obtain ⟨ih0, ih1, ih2, ih3, ih4⟩ := hatstandref14_wrong.mono_l k
    refine ⟨?_, ?_, ?_, ?_, ?_⟩
    · intro y0 y1 y2 y3 y4 y5 y6 y7
      unfold hatstandref14_wrong.j0
      repeat' first
      | (with_reducible exact ih0 _ _ _ _ _ _ _ _)
      | (with_reducible exact ih1 _ _ _ _ _ _ _ _)
      | (with_reducible exact ih2 _ _ _ _ _ _)
      | (with_reducible exact ih3 _)
      | (with_reducible exact ih4 _)
      | (with_reducible exact hatstandref14_last.mono _ _ _)
      | (with_reducible exact LeO.refl _)
      | (with_reducible exact LeO.none _)
      | (with_reducible refine LeO.ite ?_ ?_)
      | (with_reducible refine LeO.bind ?_ (fun _ => ?_))
      | exact ih0 _ _ _ _ _ _ _ _
      | exact ih1 _ _ _ _ _ _ _ _
      | exact ih2 _ _ _ _ _ _
      | exact ih3 _
      | exact ih4 _
      | exact hatstandref14_last.mono _ _ _
      | exact LeO.none _
      | refine LeO.ite ?_ ?_
      | refine LeO.bind ?_ (fun _ => ?_)
    · intro y0 y1 y2 y3 y4 y5 y6 y7
      unfold hatstandref14_wrong.j1
      repeat' first
      | (with_reducible exact ih0 _ _ _ _ _ _ _ _)
      | (with_reducible exact ih1 _ _ _ _ _ _ _ _)
      | (with_reducible exact ih2 _ _ _ _ _ _)
      | (with_reducible exact ih3 _)
      | (with_reducible exact ih4 _)
      | (with_reducible exact hatstandref14_last.mono _ _ _)
      | (with_reducible exact LeO.refl _)
      | (with_reducible exact LeO.none _)
      | (with_reducible refine LeO.ite ?_ ?_)
      | (with_reducible refine LeO.bind ?_ (fun _ => ?_))
      | exact ih0 _ _ _ _ _ _ _ _
      | exact ih1 _ _ _ _ _ _ _ _
      | exact ih2 _ _ _ _ _ _
      | exact ih3 _
      | exact ih4 _
      | exact hatstandref14_last.mono _ _ _
      | exact LeO.none _
      | refine LeO.ite ?_ ?_
      | refine LeO.bind ?_ (fun _ => ?_)
    · intro y0 y1 y2 y3 y4 y5
      unfold hatstandref14_wrong.j3
      repeat' first
      | (with_reducible exact ih0 _ _ _ _ _ _ _ _)
      | (with_reducible exact ih1 _ _ _ _ _ _ _ _)
      | (with_reducible exact ih2 _ _ _ _ _ _)
      | (with_reducible exact ih3 _)
      | (with_reducible exact ih4 _)
      | (with_reducible exact hatstandref14_last.mono _ _ _)
      | (with_reducible exact LeO.refl _)
      | (with_reducible exact LeO.none _)
      | (with_reducible refine LeO.ite ?_ ?_)
      | (with_reducible refine LeO.bind ?_ (fun _ => ?_))
      | exact ih0 _ _ _ _ _ _ _ _
      | exact ih1 _ _ _ _ _ _ _ _
      | exact ih2 _ _ _ _ _ _
      | exact ih3 _
      | exact ih4 _
      | exact hatstandref14_last.mono _ _ _
      | exact LeO.none _
      | refine LeO.ite ?_ ?_
      | refine LeO.bind ?_ (fun _ => ?_)
    · intro y0
      unfold hatstandref14_wrong.j4
      repeat' first
      | (with_reducible exact ih0 _ _ _ _ _ _ _ _)
      | (with_reducible exact ih1 _ _ _ _ _ _ _ _)
      | (with_reducible exact ih2 _ _ _ _ _ _)
      | (with_reducible exact ih3 _)
      | (with_reducible exact ih4 _)
      | (with_reducible exact hatstandref14_last.mono _ _ _)
      | (with_reducible exact LeO.refl _)
      | (with_reducible exact LeO.none _)
      | (with_reducible refine LeO.ite ?_ ?_)
      | (with_reducible refine LeO.bind ?_ (fun _ => ?_))
      | exact ih0 _ _ _ _ _ _ _ _
      | exact ih1 _ _ _ _ _ _ _ _
      | exact ih2 _ _ _ _ _ _
      | exact ih3 _
      | exact ih4 _
      | exact hatstandref14_last.mono _ _ _
      | exact LeO.none _
      | refine LeO.ite ?_ ?_
      | refine LeO.bind ?_ (fun _ => ?_)
    · intro y0
      unfold hatstandref14_wrong.j2
      repeat' first
      | (with_reducible exact ih0 _ _ _ _ _ _ _ _)
      | (with_reducible exact ih1 _ _ _ _ _ _ _ _)
      | (with_reducible exact ih2 _ _ _ _ _ _)
      | (with_reducible exact ih3 _)
      | (with_reducible exact ih4 _)
      | (with_reducible exact hatstandref14_last.mono _ _ _)
      | (with_reducible exact LeO.refl _)
      | (with_reducible exact LeO.none _)
      | (with_reducible refine LeO.ite ?_ ?_)
      | (with_reducible refine LeO.bind ?_ (fun _ => ?_))
      | exact ih0 _ _ _ _ _ _ _ _
      | exact ih1 _ _ _ _ _ _ _ _
      | exact ih2 _ _ _ _ _ _
      | exact ih3 _
      | exact ih4 _
      | exact hatstandref14_last.mono _ _ _
      | exact LeO.none _
      | refine LeO.ite ?_ ?_
      | refine LeO.bind ?_ (fun _ => ?_)
theorem hatstandref14_wrong.mono : ∀ a0 a1 k, LeO (hatstandref14_wrong.f k a0 a1) (hatstandref14_wrong.f (k + 1) a0 a1) := by
  intro a0 a1 k
  obtain ⟨ih0, ih1, ih2, ih3, ih4⟩ := hatstandref14_wrong.mono_l k
  unfold hatstandref14_wrong.f
  repeat' first
      | (with_reducible exact ih0 _ _ _ _ _ _ _ _)
      | (with_reducible exact ih1 _ _ _ _ _ _ _ _)
      | (with_reducible exact ih2 _ _ _ _ _ _)
      | (with_reducible exact ih3 _)
      | (with_reducible exact ih4 _)
      | (with_reducible exact hatstandref14_last.mono _ _ _)
      | (with_reducible exact LeO.refl _)
      | (with_reducible exact LeO.none _)
      | (with_reducible refine LeO.ite ?_ ?_)
      | (with_reducible refine LeO.bind ?_ (fun _ => ?_))
      | exact ih0 _ _ _ _ _ _ _ _
      | exact ih1 _ _ _ _ _ _ _ _
      | exact ih2 _ _ _ _ _ _
      | exact ih3 _
      | exact ih4 _
      | exact hatstandref14_last.mono _ _ _
      | exact LeO.none _
      | refine LeO.ite ?_ ?_
      | refine LeO.bind ?_ (fun _ => ?_)
set_option maxHeartbeats 8000000 in
set_option maxRecDepth 100000 in
theorem hatstandref14_wrong.calls (k : Nat) (A0 : Option Addr) (c0 : Nat) (l0 : List (S59)) (a1 : Int) (r : Int) (w : World) (hr0 : Kd.C k59 w A0 l0.length l0) (hc0 : l0.length ≤ c0) (h : hatstandref14_wrong.f k l0 a1 = some r) :
    Calls Try.prog 22 #[.slice A0 l0.length c0, .int .i64 a1] w fun e w' => e = .returned (.int .i64 r) ∧ Below w.heap.size w w' := by
  have hu59 := Try.underlying59
  have HR0 := Aside0.mk hr0
  have HC0 := Aside0.mk hc0
  clear hr0 hc0
  have HB := Aside0.mk (Below.refl w.heap.size w)
  have H : (if 0 ≤ a1 then (if a1 < (l0.length : Int) then (if ((rd_T59 l0 a1).f0) < 0 then (hatstandref14_wrong.j0 k l0 a1 true ((rd_T59 l0 a1).f0) ((rd_T59 l0 a1).f1) ((rd_T59 l0 a1).f2) ((rd_T59 l0 a1).f3) ((rd_T59 l0 a1).f4)) else (hatstandref14_wrong.j0 k l0 a1 (decide (((rd_T59 l0 a1).f0) > 7)) ((rd_T59 l0 a1).f0) ((rd_T59 l0 a1).f1) ((rd_T59 l0 a1).f2) ((rd_T59 l0 a1).f3) ((rd_T59 l0 a1).f4))) else (none)) else (none)) = some r := h
  clear h
  by_cases c3 : 0 ≤ a1
  · rw [if_pos c3] at H
    have c3b0 : decide (0 ≤ a1) = true := decide_eq_true c3
    clear c3
    by_cases c4 : a1 < (l0.length : Int)
    · rw [if_pos c4] at H
      have c4b0 : decide (a1 < (l0.length : Int)) = true := decide_eq_true c4
      clear c4
      have HC5 := Aside0.mk H
      clear H
      have p143 : 0 ≤ (a1 : Int) := of_decide_eq_true (by first | (with_reducible assumption) | assumption)
      have q143 : a1 < (l0.length : Int) := of_decide_eq_true (by first | (with_reducible assumption) | assumption)
      obtain ⟨ad143, e143, hx143_0, hx143_1, hx143_2, hx143_3, hx143_4⟩ := at_T59 HR0.out a1 p143 q143
      cases e143
      replace p143 := eq_true p143
      replace q143 := eq_true q143
      go_enter Try.func22, Try.ntmps22
      go_upto_region 2 with (first | ((with_reducible refine gate_dst (N := 5) rfl ?_); refine box_event ?hg (N := 5) ?hd (cs := #[.int .i64 0, .bool false, .bool false, .int .u64 0, .int .i64 0]) (t := 59) ?hr ?_; (case hd => rfl); (case hg => rfl); (case hr => first | (go_simp; done) | (go_simp; rfl)); intro gb144 hg w6 hbox hb; have n0_ := Aside0.mk (below_step (by repeat (first | (with_reducible first | exact HB.out | apply below_alloc | apply pw_below_drewN | apply below_drew1) | exact HB.out)) hb); have n1_ := Aside0.mk (hbox); have n2_ := Aside0.mk ((by rw [hg]; exact (below_size (by repeat (first | (with_reducible first | exact HB.out | apply below_alloc | apply pw_below_drewN | apply below_drew1) | exact HB.out))) : w.heap.size ≤ gb144)); have n3_ := Aside0.mk ((by rw [hg]; exact (below_size (by repeat (first | (with_reducible first | exact HB.out | apply below_alloc | apply pw_below_drewN | apply below_drew1) | exact HB.out))) : w.heap.size ≤ gb144)); clear HB; have HB := n0_; have BK144 := n1_; have GW144 := n2_; have GE144 := n3_; clear n0_ n1_ n2_ n3_; clear hb hbox hg; have hcz7_0 : w6.cell? ⟨gb144, 0, none⟩ = some (.int .i64 0) := (blk_cell BK144.out 0).trans rfl; have hcz7_1 : w6.cell? ⟨gb144, 1, none⟩ = some (.bool false) := (blk_cell BK144.out 1).trans rfl; have hcz7_2 : w6.cell? ⟨gb144, 2, none⟩ = some (.bool false) := (blk_cell BK144.out 2).trans rfl; have hcz7_3 : w6.cell? ⟨gb144, 3, none⟩ = some (.int .u64 0) := (blk_cell BK144.out 3).trans rfl; have hcz7_4 : w6.cell? ⟨gb144, 4, none⟩ = some (.int .i64 0) := (blk_cell BK144.out 4).trans rfl; have hfz7_0 := blk_frozen BK144.out 0; have hfz7_1 := blk_frozen BK144.out 1; have hfz7_2 := blk_frozen BK144.out 2; have hfz7_3 := blk_frozen BK144.out 3; have hfz7_4 := blk_frozen BK144.out 4))
      repeat (go_quiet (first | ((with_reducible refine gate_dst (N := 5) rfl ?_); refine box_event ?hg (N := 5) ?hd (cs := #[.int .i64 0, .bool false, .bool false, .int .u64 0, .int .i64 0]) (t := 59) ?hr ?_; (case hd => rfl); (case hg => rfl); (case hr => first | (go_simp; done) | (go_simp; rfl)); intro gb144 hg w6 hbox hb; have n0_ := Aside0.mk (below_step (by repeat (first | (with_reducible first | exact HB.out | apply below_alloc | apply pw_below_drewN | apply below_drew1) | exact HB.out)) hb); have n1_ := Aside0.mk (hbox); have n2_ := Aside0.mk ((by rw [hg]; exact (below_size (by repeat (first | (with_reducible first | exact HB.out | apply below_alloc | apply pw_below_drewN | apply below_drew1) | exact HB.out))) : w.heap.size ≤ gb144)); have n3_ := Aside0.mk ((by rw [hg]; exact (below_size (by repeat (first | (with_reducible first | exact HB.out | apply below_alloc | apply pw_below_drewN | apply below_drew1) | exact HB.out))) : w.heap.size ≤ gb144)); clear HB; have HB := n0_; have BK144 := n1_; have GW144 := n2_; have GE144 := n3_; clear n0_ n1_ n2_ n3_; clear hb hbox hg; have hcz7_0 : w6.cell? ⟨gb144, 0, none⟩ = some (.int .i64 0) := (blk_cell BK144.out 0).trans rfl; have hcz7_1 : w6.cell? ⟨gb144, 1, none⟩ = some (.bool false) := (blk_cell BK144.out 1).trans rfl; have hcz7_2 : w6.cell? ⟨gb144, 2, none⟩ = some (.bool false) := (blk_cell BK144.out 2).trans rfl; have hcz7_3 : w6.cell? ⟨gb144, 3, none⟩ = some (.int .u64 0) := (blk_cell BK144.out 3).trans rfl; have hcz7_4 : w6.cell? ⟨gb144, 4, none⟩ = some (.int .i64 0) := (blk_cell BK144.out 4).trans rfl; have hfz7_0 := blk_frozen BK144.out 0; have hfz7_1 := blk_frozen BK144.out 1; have hfz7_2 := blk_frozen BK144.out 2; have hfz7_3 := blk_frozen BK144.out 3; have hfz7_4 := blk_frozen BK144.out 4)); go_upto_region 2 with (first | ((with_reducible refine gate_dst (N := 5) rfl ?_); refine box_event ?hg (N := 5) ?hd (cs := #[.int .i64 0, .bool false, .bool false, .int .u64 0, .int .i64 0]) (t := 59) ?hr ?_; (case hd => rfl); (case hg => rfl); (case hr => first | (go_simp; done) | (go_simp; rfl)); intro gb144 hg w6 hbox hb; have n0_ := Aside0.mk (below_step (by repeat (first | (with_reducible first | exact HB.out | apply below_alloc | apply pw_below_drewN | apply below_drew1) | exact HB.out)) hb); have n1_ := Aside0.mk (hbox); have n2_ := Aside0.mk ((by rw [hg]; exact (below_size (by repeat (first | (with_reducible first | exact HB.out | apply below_alloc | apply pw_below_drewN | apply below_drew1) | exact HB.out))) : w.heap.size ≤ gb144)); have n3_ := Aside0.mk ((by rw [hg]; exact (below_size (by repeat (first | (with_reducible first | exact HB.out | apply below_alloc | apply pw_below_drewN | apply below_drew1) | exact HB.out))) : w.heap.size ≤ gb144)); clear HB; have HB := n0_; have BK144 := n1_; have GW144 := n2_; have GE144 := n3_; clear n0_ n1_ n2_ n3_; clear hb hbox hg; have hcz7_0 : w6.cell? ⟨gb144, 0, none⟩ = some (.int .i64 0) := (blk_cell BK144.out 0).trans rfl; have hcz7_1 : w6.cell? ⟨gb144, 1, none⟩ = some (.bool false) := (blk_cell BK144.out 1).trans rfl; have hcz7_2 : w6.cell? ⟨gb144, 2, none⟩ = some (.bool false) := (blk_cell BK144.out 2).trans rfl; have hcz7_3 : w6.cell? ⟨gb144, 3, none⟩ = some (.int .u64 0) := (blk_cell BK144.out 3).trans rfl; have hcz7_4 : w6.cell? ⟨gb144, 4, none⟩ = some (.int .i64 0) := (blk_cell BK144.out 4).trans rfl; have hfz7_0 := blk_frozen BK144.out 0; have hfz7_1 := blk_frozen BK144.out 1; have hfz7_2 := blk_frozen BK144.out 2; have hfz7_3 := blk_frozen BK144.out 3; have hfz7_4 := blk_frozen BK144.out 4)))
      (try simp only [Act.put, List.setIfInBounds_toArray, List.set_cons_zero, List.set_cons_succ])
      go_cut [19] (fun v19 wc => ∃ (kq : Nat) (x19_4 : Bool), v19 = .bool x19_4 ∧ Aside0 (hatstandref14_wrong.j0 kq l0 a1 x19_4 ((rd_T59 l0 a1).f0) ((rd_T59 l0 a1).f1) ((rd_T59 l0 a1).f2) ((rd_T59 l0 a1).f3) ((rd_T59 l0 a1).f4) = some r) ∧ Aside0 (kq ≤ k) ∧ Aside0 (wc.heap[gb144]? = some (.cells #[.int .i64 ((rd_T59 l0 a1).f0), .bool ((rd_T59 l0 a1).f1), .bool ((rd_T59 l0 a1).f2), .int .u64 ((rd_T59 l0 a1).f3), .int .i64 ((rd_T59 l0 a1).f4)] 59 (0, 0))) ∧ Aside0 (Below w.heap.size w wc))
      case first =>
        have H := HC5.out
        clear HC5
        by_cases c8 : ((rd_T59 l0 a1).f0) < 0
        · rw [if_pos c8] at H
          have c8b0 : decide (((rd_T59 l0 a1).f0) < 0) = true := decide_eq_true c8
          clear c8
          (first | rw [c8b0] | (simp only [i64_w, i32_w, Go.IntKind.wrap_u32]; rw [c8b0]) | skip)
          have H' := Aside0.mk H
          clear H
          have hcz9_0 : w6.cell? ⟨gb144, 0, none⟩ = some (.int .i64 0) := (blk_cell BK144.out 0).trans rfl
          have hcz9_1 : w6.cell? ⟨gb144, 1, none⟩ = some (.bool false) := (blk_cell BK144.out 1).trans rfl
          have hcz9_2 : w6.cell? ⟨gb144, 2, none⟩ = some (.bool false) := (blk_cell BK144.out 2).trans rfl
          have hcz9_3 : w6.cell? ⟨gb144, 3, none⟩ = some (.int .u64 0) := (blk_cell BK144.out 3).trans rfl
          have hcz9_4 : w6.cell? ⟨gb144, 4, none⟩ = some (.int .i64 0) := (blk_cell BK144.out 4).trans rfl
          have hfz9_0 := blk_frozen BK144.out 0
          have hfz9_1 := blk_frozen BK144.out 1
          have hfz9_2 := blk_frozen BK144.out 2
          have hfz9_3 := blk_frozen BK144.out 3
          have hfz9_4 := blk_frozen BK144.out 4
          go_wp2
          repeat (go_quiet (fail); try go_wp2)
          go_meet
          case rel => exact ⟨_, (true), (by first | rfl | (simp; done) | (simp [*]; done)), H', ⟨by first | omega | exact Nat.le_refl _⟩, ⟨by (with_reducible repeat (first | refine blk_drewN ?_ _ | refine blk_drew ?_ | refine blk_alloc ?_ _)); refine blk_put (cs := #[.int .i64 ((rd_T59 l0 a1).f0), .bool ((rd_T59 l0 a1).f1), .bool ((rd_T59 l0 a1).f2), .int .u64 ((rd_T59 l0 a1).f3), .int .i64 0]) ?_ 4 _ rfl; (with_reducible repeat (first | refine blk_drewN ?_ _ | refine blk_drew ?_ | refine blk_alloc ?_ _)); refine blk_put (cs := #[.int .i64 ((rd_T59 l0 a1).f0), .bool ((rd_T59 l0 a1).f1), .bool ((rd_T59 l0 a1).f2), .int .u64 0, .int .i64 0]) ?_ 3 _ rfl; (with_reducible repeat (first | refine blk_drewN ?_ _ | refine blk_drew ?_ | refine blk_alloc ?_ _)); refine blk_put (cs := #[.int .i64 ((rd_T59 l0 a1).f0), .bool ((rd_T59 l0 a1).f1), .bool false, .int .u64 0, .int .i64 0]) ?_ 2 _ rfl; (with_reducible repeat (first | refine blk_drewN ?_ _ | refine blk_drew ?_ | refine blk_alloc ?_ _)); refine blk_put (cs := #[.int .i64 ((rd_T59 l0 a1).f0), .bool false, .bool false, .int .u64 0, .int .i64 0]) ?_ 1 _ rfl; (with_reducible repeat (first | refine blk_drewN ?_ _ | refine blk_drew ?_ | refine blk_alloc ?_ _)); refine blk_put (cs := #[.int .i64 0, .bool false, .bool false, .int .u64 0, .int .i64 0]) ?_ 0 _ rfl; (with_reducible repeat (first | refine blk_drewN ?_ _ | refine blk_drew ?_ | refine blk_alloc ?_ _)); exact BK144.out⟩, ⟨by repeat (first | (with_reducible first | exact HB.out | apply below_alloc | apply pw_below_drewN | apply below_drew1 | refine below_set ?_ GE144.out) | exact HB.out)⟩⟩
        · rw [if_neg c8] at H
          have c8b0 : decide (((rd_T59 l0 a1).f0) < 0) = false := decide_eq_false c8
          clear c8
          (first | rw [c8b0] | (simp only [i64_w, i32_w, Go.IntKind.wrap_u32]; rw [c8b0]) | skip)
          have H' := Aside0.mk H
          clear H
          have hcz10_0 : w6.cell? ⟨gb144, 0, none⟩ = some (.int .i64 0) := (blk_cell BK144.out 0).trans rfl
          have hcz10_1 : w6.cell? ⟨gb144, 1, none⟩ = some (.bool false) := (blk_cell BK144.out 1).trans rfl
          have hcz10_2 : w6.cell? ⟨gb144, 2, none⟩ = some (.bool false) := (blk_cell BK144.out 2).trans rfl
          have hcz10_3 : w6.cell? ⟨gb144, 3, none⟩ = some (.int .u64 0) := (blk_cell BK144.out 3).trans rfl
          have hcz10_4 : w6.cell? ⟨gb144, 4, none⟩ = some (.int .i64 0) := (blk_cell BK144.out 4).trans rfl
          have hfz10_0 := blk_frozen BK144.out 0
          have hfz10_1 := blk_frozen BK144.out 1
          have hfz10_2 := blk_frozen BK144.out 2
          have hfz10_3 := blk_frozen BK144.out 3
          have hfz10_4 := blk_frozen BK144.out 4
          go_wp2
          repeat (go_quiet (fail); try go_wp2)
          go_meet
          case rel => exact ⟨_, (decide (((rd_T59 l0 a1).f0) > 7)), (by first | rfl | (simp; done) | (simp [*]; done)), H', ⟨by first | omega | exact Nat.le_refl _⟩, ⟨by (with_reducible repeat (first | refine blk_drewN ?_ _ | refine blk_drew ?_ | refine blk_alloc ?_ _)); refine blk_put (cs := #[.int .i64 ((rd_T59 l0 a1).f0), .bool ((rd_T59 l0 a1).f1), .bool ((rd_T59 l0 a1).f2), .int .u64 ((rd_T59 l0 a1).f3), .int .i64 0]) ?_ 4 _ rfl; (with_reducible repeat (first | refine blk_drewN ?_ _ | refine blk_drew ?_ | refine blk_alloc ?_ _)); refine blk_put (cs := #[.int .i64 ((rd_T59 l0 a1).f0), .bool ((rd_T59 l0 a1).f1), .bool ((rd_T59 l0 a1).f2), .int .u64 0, .int .i64 0]) ?_ 3 _ rfl; (with_reducible repeat (first | refine blk_drewN ?_ _ | refine blk_drew ?_ | refine blk_alloc ?_ _)); refine blk_put (cs := #[.int .i64 ((rd_T59 l0 a1).f0), .bool ((rd_T59 l0 a1).f1), .bool false, .int .u64 0, .int .i64 0]) ?_ 2 _ rfl; (with_reducible repeat (first | refine blk_drewN ?_ _ | refine blk_drew ?_ | refine blk_alloc ?_ _)); refine blk_put (cs := #[.int .i64 ((rd_T59 l0 a1).f0), .bool false, .bool false, .int .u64 0, .int .i64 0]) ?_ 1 _ rfl; (with_reducible repeat (first | refine blk_drewN ?_ _ | refine blk_drew ?_ | refine blk_alloc ?_ _)); refine blk_put (cs := #[.int .i64 0, .bool false, .bool false, .int .u64 0, .int .i64 0]) ?_ 0 _ rfl; (with_reducible repeat (first | refine blk_drewN ?_ _ | refine blk_drew ?_ | refine blk_alloc ?_ _)); exact BK144.out⟩, ⟨by repeat (first | (with_reducible first | exact HB.out | apply below_alloc | apply pw_below_drewN | apply below_drew1 | refine below_set ?_ GE144.out) | exact HB.out)⟩⟩
      case rest =>
        clear HC5
        try clear p1
        try clear q1
        try clear hx1
        try clear c2
        try clear p2
        try clear c3
        try clear c3b0
        try clear c4
        try clear c4b0
        try clear c8
        try clear c8b0
        try clear hcz10_0
        try clear hcz10_1
        try clear hcz10_2
        try clear hcz10_3
        try clear hcz10_4
        try clear hcz7_0
        try clear hcz7_1
        try clear hcz7_2
        try clear hcz7_3
        try clear hcz7_4
        try clear hcz9_0
        try clear hcz9_1
        try clear hcz9_2
        try clear hcz9_3
        try clear hcz9_4
        try clear hfz10_0
        try clear hfz10_1
        try clear hfz10_2
        try clear hfz10_3
        try clear hfz10_4
        try clear hfz7_0
        try clear hfz7_1
        try clear hfz7_2
        try clear hfz7_3
        try clear hfz7_4
        try clear hfz9_0
        try clear hfz9_1
        try clear hfz9_2
        try clear hfz9_3
        try clear hfz9_4
        try clear hx143_0
        try clear hx143_1
        try clear hx143_2
        try clear hx143_3
        try clear hx143_4
        try clear p143
        try clear q143
        obtain ⟨kq, x19_4, rfl, HA, HJ4, BK144, HB⟩ := hcut
        cases kq with
        | zero => exact absurd HA.out (by simp [hatstandref14_wrong.j0])
        | succ kj4 =>
          have H := HA.out
          clear HA
          simp only [hatstandref14_wrong.j0] at H
          by_cases c11 : x19_4 = true
          · subst c11
            have H1 : (some 4) = some r := by rw [if_pos rfl] at H; exact H
            clear H
            have H := H1
            clear H1
            obtain rfl := Option.some.inj H
            go_wp2
            repeat (go_quiet (fail); try go_wp2)
            go_ret
            exact ⟨by first | rfl | (simp [errW_none, errW_some] <;> rfl) | (simp [*, errW_none, errW_some] <;> rfl), by repeat (first | (with_reducible first | exact HB.out | apply below_alloc | apply pw_below_drewN | apply below_drew1 | refine below_set ?_ GE144.out) | exact HB.out)⟩
          · replace c11 := Bool.eq_false_iff.mpr c11
            subst c11
            have H1 : ((hatstandref14_last.f kj4 l0 a1).bind fun t145 => (if t145 ≥ 0 then (if 0 ≤ t145 then (if t145 < (l0.length : Int) then (hatstandref14_wrong.j1 kj4 l0 t145 (!((rd_T59 l0 t145).f1)) ((rd_T59 l0 a1).f0) ((rd_T59 l0 a1).f1) ((rd_T59 l0 a1).f2) ((rd_T59 l0 a1).f3) ((rd_T59 l0 a1).f4)) else (none)) else (none)) else (hatstandref14_wrong.j1 kj4 l0 t145 false ((rd_T59 l0 a1).f0) ((rd_T59 l0 a1).f1) ((rd_T59 l0 a1).f2) ((rd_T59 l0 a1).f3) ((rd_T59 l0 a1).f4)))) = some r := by rw [if_neg (show ¬ (false = true) by decide)] at H; exact H
            clear H
            have H := H1
            clear H1
            replace H := Option.bind_eq_some_iff.mp H
            obtain ⟨t145, A120, H⟩ := H
            replace H : (if t145 ≥ 0 then (if 0 ≤ t145 then (if t145 < (l0.length : Int) then (hatstandref14_wrong.j1 kj4 l0 t145 (!((rd_T59 l0 t145).f1)) ((rd_T59 l0 a1).f0) ((rd_T59 l0 a1).f1) ((rd_T59 l0 a1).f2) ((rd_T59 l0 a1).f3) ((rd_T59 l0 a1).f4)) else (none)) else (none)) else (hatstandref14_wrong.j1 kj4 l0 t145 false ((rd_T59 l0 a1).f0) ((rd_T59 l0 a1).f1) ((rd_T59 l0 a1).f2) ((rd_T59 l0 a1).f3) ((rd_T59 l0 a1).f4))) = some r := H
            have A12 := Aside0.mk A120
            clear A120
            have HC13 := Aside0.mk H
            clear H
            go_upto_region 5 with (first | (go_at_call 25; (with_reducible refine (hatstandref14_last.calls kj4 _ _ l0 a1 t145 _ ?side1 ?side2 A12.out).mono ?_); (case side1 => repeat (first | exact (Kd.C_below HR0.out HB.out) | (with_reducible refine Kd.C_alloc ?_ _) | (with_reducible refine Kd.C_drewN ?_ _) | (with_reducible refine Kd.C_drew ?_))); (case side2 => exact HC0.out); rintro e w' ⟨rfl, ⟨nd, rfl⟩⟩; (try first | exact ⟨rfl, _, World.drewN_drewN _ _ _⟩ | exact ⟨rfl, _, Eq.trans (World.drewN_drewN _ _ _) (congrArg (World.drewN _) (Nat.add_assoc _ _ _))⟩)))
            repeat (go_quiet (first | (go_at_call 25; (with_reducible refine (hatstandref14_last.calls kj4 _ _ l0 a1 t145 _ ?side1 ?side2 A12.out).mono ?_); (case side1 => repeat (first | exact (Kd.C_below HR0.out HB.out) | (with_reducible refine Kd.C_alloc ?_ _) | (with_reducible refine Kd.C_drewN ?_ _) | (with_reducible refine Kd.C_drew ?_))); (case side2 => exact HC0.out); rintro e w' ⟨rfl, ⟨nd, rfl⟩⟩; (try first | exact ⟨rfl, _, World.drewN_drewN _ _ _⟩ | exact ⟨rfl, _, Eq.trans (World.drewN_drewN _ _ _) (congrArg (World.drewN _) (Nat.add_assoc _ _ _))⟩))); go_upto_region 5 with (first | (go_at_call 25; (with_reducible refine (hatstandref14_last.calls kj4 _ _ l0 a1 t145 _ ?side1 ?side2 A12.out).mono ?_); (case side1 => repeat (first | exact (Kd.C_below HR0.out HB.out) | (with_reducible refine Kd.C_alloc ?_ _) | (with_reducible refine Kd.C_drewN ?_ _) | (with_reducible refine Kd.C_drew ?_))); (case side2 => exact HC0.out); rintro e w' ⟨rfl, ⟨nd, rfl⟩⟩; (try first | exact ⟨rfl, _, World.drewN_drewN _ _ _⟩ | exact ⟨rfl, _, Eq.trans (World.drewN_drewN _ _ _) (congrArg (World.drewN _) (Nat.add_assoc _ _ _))⟩))))
            (try simp only [Act.put, List.setIfInBounds_toArray, List.set_cons_zero, List.set_cons_succ])
            go_cut [7] (fun v7 wc => ∃ (kq : Nat) (x7_12 : Bool), v7 = .bool x7_12 ∧ Aside0 (hatstandref14_wrong.j1 kq l0 t145 x7_12 ((rd_T59 l0 a1).f0) ((rd_T59 l0 a1).f1) ((rd_T59 l0 a1).f2) ((rd_T59 l0 a1).f3) ((rd_T59 l0 a1).f4) = some r) ∧ Aside0 (kq ≤ kj4) ∧ Aside0 (wc.heap[gb144]? = some (.cells #[.int .i64 ((rd_T59 l0 a1).f0), .bool ((rd_T59 l0 a1).f1), .bool ((rd_T59 l0 a1).f2), .int .u64 ((rd_T59 l0 a1).f3), .int .i64 ((rd_T59 l0 a1).f4)] 59 (0, 0))) ∧ Aside0 (Below w.heap.size w wc))
            case first =>
              have H := HC13.out
              clear HC13
              by_cases c14 : t145 ≥ 0
              · rw [if_pos c14] at H
                have c14b0 : decide (0 ≤ t145) = true := decide_eq_true c14
                clear c14
                (first | rw [c14b0] | (simp only [i64_w, i32_w, Go.IntKind.wrap_u32]; rw [c14b0]) | skip)
                by_cases c15 : 0 ≤ t145
                · rw [if_pos c15] at H
                  have c15b0 : decide (0 ≤ t145) = true := decide_eq_true c15
                  clear c15
                  by_cases c16 : t145 < (l0.length : Int)
                  · rw [if_pos c16] at H
                    have c16b0 : decide (t145 < (l0.length : Int)) = true := decide_eq_true c16
                    clear c16
                    have H' := Aside0.mk H
                    clear H
                    have p146 : 0 ≤ (t145 : Int) := of_decide_eq_true (by first | (with_reducible assumption) | assumption)
                    have q146 : t145 < (l0.length : Int) := of_decide_eq_true (by first | (with_reducible assumption) | assumption)
                    obtain ⟨ad146, e146, hx146_0, hx146_1, hx146_2, hx146_3, hx146_4⟩ := at_T59 HR0.out t145 p146 q146
                    obtain rfl : ad143 = ad146 := (by injection e146)
                    replace hx146_0 := (HB.out.cell (World.block_lt_of_cell? w _ hx146_0)).trans hx146_0
                    replace hx146_1 := (HB.out.cell (World.block_lt_of_cell? w _ hx146_1)).trans hx146_1
                    replace hx146_2 := (HB.out.cell (World.block_lt_of_cell? w _ hx146_2)).trans hx146_2
                    replace hx146_3 := (HB.out.cell (World.block_lt_of_cell? w _ hx146_3)).trans hx146_3
                    replace hx146_4 := (HB.out.cell (World.block_lt_of_cell? w _ hx146_4)).trans hx146_4
                    replace p146 := eq_true p146
                    replace q146 := eq_true q146
                    go_wp2
                    repeat (go_quiet (fail); try go_wp2)
                    go_meet
                    case rel => exact ⟨_, (!((rd_T59 l0 t145).f1)), (by first | rfl | (simp; done) | (simp [*]; done)), H', ⟨by have := HJ4.out; first | omega | exact Nat.le_refl _⟩, ⟨by (with_reducible repeat (first | refine blk_drewN ?_ _ | refine blk_drew ?_ | refine blk_alloc ?_ _)); exact BK144.out⟩, ⟨by repeat (first | (with_reducible first | exact HB.out | apply below_alloc | apply pw_below_drewN | apply below_drew1 | refine below_set ?_ GE144.out) | exact HB.out)⟩⟩
                  · rw [if_neg c16] at H
                    exact absurd H (by simp)
                · rw [if_neg c15] at H
                  exact absurd H (by simp)
              · rw [if_neg c14] at H
                have c14b0 : decide (0 ≤ t145) = false := decide_eq_false c14
                clear c14
                (first | rw [c14b0] | (simp only [i64_w, i32_w, Go.IntKind.wrap_u32]; rw [c14b0]) | skip)
                have H' := Aside0.mk H
                clear H
                go_wp2
                repeat (go_quiet (fail); try go_wp2)
                go_meet
                case rel => exact ⟨_, (false), (by first | rfl | (simp; done) | (simp [*]; done)), H', ⟨by have := HJ4.out; first | omega | exact Nat.le_refl _⟩, ⟨by (with_reducible repeat (first | refine blk_drewN ?_ _ | refine blk_drew ?_ | refine blk_alloc ?_ _)); exact BK144.out⟩, ⟨by repeat (first | (with_reducible first | exact HB.out | apply below_alloc | apply pw_below_drewN | apply below_drew1 | refine below_set ?_ GE144.out) | exact HB.out)⟩⟩
            case rest =>
              clear HC13
              try clear c1
              try clear p1
              try clear q1
              try clear hx1
              try clear c2
              try clear p2
              try clear c3
              try clear c3b0
              try clear c4
              try clear c4b0
              try clear c8
              try clear c8b0
              try clear c11
              try clear c14
              try clear c14b0
              try clear p14
              try clear q14
              try clear hx14
              try clear c15
              try clear c15b0
              try clear c16
              try clear c16b0
              try clear hcz10_0
              try clear hcz10_1
              try clear hcz10_2
              try clear hcz10_3
              try clear hcz10_4
              try clear hcz7_0
              try clear hcz7_1
              try clear hcz7_2
              try clear hcz7_3
              try clear hcz7_4
              try clear hcz9_0
              try clear hcz9_1
              try clear hcz9_2
              try clear hcz9_3
              try clear hcz9_4
              try clear hfz10_0
              try clear hfz10_1
              try clear hfz10_2
              try clear hfz10_3
              try clear hfz10_4
              try clear hfz7_0
              try clear hfz7_1
              try clear hfz7_2
              try clear hfz7_3
              try clear hfz7_4
              try clear hfz9_0
              try clear hfz9_1
              try clear hfz9_2
              try clear hfz9_3
              try clear hfz9_4
              try clear hx143_0
              try clear hx143_1
              try clear hx143_2
              try clear hx143_3
              try clear hx143_4
              try clear hx146_0
              try clear hx146_1
              try clear hx146_2
              try clear hx146_3
              try clear hx146_4
              try clear p1
              try clear p143
              try clear p146
              try clear p2
              try clear q1
              try clear q143
              try clear q146
              obtain ⟨kq, x7_12, rfl, HA, HJ12, BK144, HB⟩ := hcut
              cases kq with
              | zero => exact absurd HA.out (by simp [hatstandref14_wrong.j1])
              | succ kj12 =>
                have H := HA.out
                clear HA
                simp only [hatstandref14_wrong.j1] at H
                by_cases c17 : ((rd_T59 l0 a1).f1) = true
                · rw [if_pos c17] at H
                  have c17b0 : ((rd_T59 l0 a1).f1) = true := c17
                  clear c17
                  by_cases c18 : x7_12 = true
                  · subst c18
                    have H1 : (if 0 ≤ t145 then (if t145 < (l0.length : Int) then (if (((rd_T59 l0 a1).f2) != ((rd_T59 l0 t145).f2)) = true then (hatstandref14_wrong.j3 kj12 true ((rd_T59 l0 a1).f0) ((rd_T59 l0 a1).f1) ((rd_T59 l0 a1).f2) ((rd_T59 l0 a1).f3) ((rd_T59 l0 a1).f4)) else (if ((rd_T59 l0 a1).f4) = 1 then (hatstandref14_wrong.j3 kj12 false ((rd_T59 l0 a1).f0) ((rd_T59 l0 a1).f1) ((rd_T59 l0 a1).f2) ((rd_T59 l0 a1).f3) ((rd_T59 l0 a1).f4)) else (if ((rd_T59 l0 a1).f4) = 2 then (hatstandref14_wrong.j3 kj12 false ((rd_T59 l0 a1).f0) ((rd_T59 l0 a1).f1) ((rd_T59 l0 a1).f2) ((rd_T59 l0 a1).f3) ((rd_T59 l0 a1).f4)) else (if ((rd_T59 l0 a1).f4) = 6 then (hatstandref14_wrong.j3 kj12 false ((rd_T59 l0 a1).f0) ((rd_T59 l0 a1).f1) ((rd_T59 l0 a1).f2) ((rd_T59 l0 a1).f3) ((rd_T59 l0 a1).f4)) else (hatstandref14_wrong.j3 kj12 (((rd_T59 l0 a1).f4) != 7) ((rd_T59 l0 a1).f0) ((rd_T59 l0 a1).f1) ((rd_T59 l0 a1).f2) ((rd_T59 l0 a1).f3) ((rd_T59 l0 a1).f4)))))) else (none)) else (none)) = some r := by rw [if_pos rfl] at H; exact H
                    clear H
                    have H := H1
                    clear H1
                    have HC19 := Aside0.mk H
                    clear H
                    have hcz20_0 : wc.cell? ⟨gb144, 0, none⟩ = some (.int .i64 ((rd_T59 l0 a1).f0)) := (blk_cell BK144.out 0).trans rfl
                    have hcz20_1 : wc.cell? ⟨gb144, 1, none⟩ = some (.bool ((rd_T59 l0 a1).f1)) := (blk_cell BK144.out 1).trans rfl
                    have hcz20_2 : wc.cell? ⟨gb144, 2, none⟩ = some (.bool ((rd_T59 l0 a1).f2)) := (blk_cell BK144.out 2).trans rfl
                    have hcz20_3 : wc.cell? ⟨gb144, 3, none⟩ = some (.int .u64 ((rd_T59 l0 a1).f3)) := (blk_cell BK144.out 3).trans rfl
                    have hcz20_4 : wc.cell? ⟨gb144, 4, none⟩ = some (.int .i64 ((rd_T59 l0 a1).f4)) := (blk_cell BK144.out 4).trans rfl
                    have hfz20_0 := blk_frozen BK144.out 0
                    have hfz20_1 := blk_frozen BK144.out 1
                    have hfz20_2 := blk_frozen BK144.out 2
                    have hfz20_3 := blk_frozen BK144.out 3
                    have hfz20_4 := blk_frozen BK144.out 4
                    go_upto_region 14 with (fail)
                    repeat (go_quiet (fail); go_upto_region 14 with (fail))
                    go_cut [79] (fun v79 wc => ∃ (kq : Nat) (x79_18 : Bool), v79 = .bool x79_18 ∧ Aside0 (hatstandref14_wrong.j3 kq x79_18 ((rd_T59 l0 a1).f0) ((rd_T59 l0 a1).f1) ((rd_T59 l0 a1).f2) ((rd_T59 l0 a1).f3) ((rd_T59 l0 a1).f4) = some r) ∧ Aside0 (kq ≤ kj12) ∧ Aside0 (wc.heap[gb144]? = some (.cells #[.int .i64 ((rd_T59 l0 a1).f0), .bool ((rd_T59 l0 a1).f1), .bool ((rd_T59 l0 a1).f2), .int .u64 ((rd_T59 l0 a1).f3), .int .i64 ((rd_T59 l0 a1).f4)] 59 (0, 0))) ∧ Aside0 (Below w.heap.size w wc))
                    case first =>
                      have H := HC19.out
                      clear HC19
                      by_cases c21 : 0 ≤ t145
                      · rw [if_pos c21] at H
                        have c21b0 : decide (0 ≤ t145) = true := decide_eq_true c21
                        clear c21
                        (first | rw [c21b0] | (simp only [i64_w, i32_w, Go.IntKind.wrap_u32]; rw [c21b0]) | skip)
                        by_cases c22 : t145 < (l0.length : Int)
                        · rw [if_pos c22] at H
                          have c22b0 : decide (t145 < (l0.length : Int)) = true := decide_eq_true c22
                          clear c22
                          by_cases c23 : (((rd_T59 l0 a1).f2) != ((rd_T59 l0 t145).f2)) = true
                          · rw [if_pos c23] at H
                            have c23b0 : (((rd_T59 l0 a1).f2) != ((rd_T59 l0 t145).f2)) = true := c23
                            (try (have c23b1 : decide (((rd_T59 l0 a1).f2) = ((rd_T59 l0 t145).f2)) = false := by simpa using c23))
                            (try (have c23b2 : (((rd_T59 l0 a1).f2) == ((rd_T59 l0 t145).f2)) = false := by simpa using c23))
                            (try (have c23b3 : ¬ (((rd_T59 l0 a1).f2) = ((rd_T59 l0 t145).f2)) := by simpa using c23))
                            clear c23
                            have H' := Aside0.mk H
                            clear H
                            have hcz24_0 : wc.cell? ⟨gb144, 0, none⟩ = some (.int .i64 ((rd_T59 l0 a1).f0)) := (blk_cell BK144.out 0).trans rfl
                            have hcz24_1 : wc.cell? ⟨gb144, 1, none⟩ = some (.bool ((rd_T59 l0 a1).f1)) := (blk_cell BK144.out 1).trans rfl
                            have hcz24_2 : wc.cell? ⟨gb144, 2, none⟩ = some (.bool ((rd_T59 l0 a1).f2)) := (blk_cell BK144.out 2).trans rfl
                            have hcz24_3 : wc.cell? ⟨gb144, 3, none⟩ = some (.int .u64 ((rd_T59 l0 a1).f3)) := (blk_cell BK144.out 3).trans rfl
                            have hcz24_4 : wc.cell? ⟨gb144, 4, none⟩ = some (.int .i64 ((rd_T59 l0 a1).f4)) := (blk_cell BK144.out 4).trans rfl
                            have hfz24_0 := blk_frozen BK144.out 0
                            have hfz24_1 := blk_frozen BK144.out 1
                            have hfz24_2 := blk_frozen BK144.out 2
                            have hfz24_3 := blk_frozen BK144.out 3
                            have hfz24_4 := blk_frozen BK144.out 4
                            have p147 : 0 ≤ (t145 : Int) := of_decide_eq_true (by first | (with_reducible assumption) | assumption)
                            have q147 : t145 < (l0.length : Int) := of_decide_eq_true (by first | (with_reducible assumption) | assumption)
                            obtain ⟨ad147, e147, hx147_0, hx147_1, hx147_2, hx147_3, hx147_4⟩ := at_T59 HR0.out t145 p147 q147
                            obtain rfl : ad143 = ad147 := (by injection e147)
                            replace hx147_0 := (HB.out.cell (World.block_lt_of_cell? w _ hx147_0)).trans hx147_0
                            replace hx147_1 := (HB.out.cell (World.block_lt_of_cell? w _ hx147_1)).trans hx147_1
                            replace hx147_2 := (HB.out.cell (World.block_lt_of_cell? w _ hx147_2)).trans hx147_2
                            replace hx147_3 := (HB.out.cell (World.block_lt_of_cell? w _ hx147_3)).trans hx147_3
                            replace hx147_4 := (HB.out.cell (World.block_lt_of_cell? w _ hx147_4)).trans hx147_4
                            replace p147 := eq_true p147
                            replace q147 := eq_true q147
                            go_wp2
                            repeat (go_quiet (fail); try go_wp2)
                            go_meet
                            case rel => exact ⟨_, (true), (by first | rfl | (simp; done) | (simp [*]; done)), H', ⟨by have := HJ4.out; have := HJ12.out; first | omega | exact Nat.le_refl _⟩, ⟨by (with_reducible repeat (first | refine blk_drewN ?_ _ | refine blk_drew ?_ | refine blk_alloc ?_ _)); exact BK144.out⟩, ⟨by repeat (first | (with_reducible first | exact HB.out | apply below_alloc | apply pw_below_drewN | apply below_drew1 | refine below_set ?_ GE144.out) | exact HB.out)⟩⟩
                          · rw [if_neg c23] at H
                            have c23b0 : (((rd_T59 l0 a1).f2) != ((rd_T59 l0 t145).f2)) = false := by simpa using c23
                            (try (have c23b1 : decide (((rd_T59 l0 a1).f2) = ((rd_T59 l0 t145).f2)) = true := by simpa using c23))
                            (try (have c23b2 : (((rd_T59 l0 a1).f2) == ((rd_T59 l0 t145).f2)) = true := by simpa using c23))
                            clear c23
                            by_cases c25 : ((rd_T59 l0 a1).f4) = 1
                            · rw [if_pos c25] at H
                              have c25b0 : (((rd_T59 l0 a1).f4) == 1) = true := beq_iff_eq.mpr c25
                              have c25b1 : (((rd_T59 l0 a1).f4) != 1) = false := bne_eq_false_iff_eq.mpr c25
                              clear c25
                              have H' := Aside0.mk H
                              clear H
                              have hcz26_0 : wc.cell? ⟨gb144, 0, none⟩ = some (.int .i64 ((rd_T59 l0 a1).f0)) := (blk_cell BK144.out 0).trans rfl
                              have hcz26_1 : wc.cell? ⟨gb144, 1, none⟩ = some (.bool ((rd_T59 l0 a1).f1)) := (blk_cell BK144.out 1).trans rfl
                              have hcz26_2 : wc.cell? ⟨gb144, 2, none⟩ = some (.bool ((rd_T59 l0 a1).f2)) := (blk_cell BK144.out 2).trans rfl
                              have hcz26_3 : wc.cell? ⟨gb144, 3, none⟩ = some (.int .u64 ((rd_T59 l0 a1).f3)) := (blk_cell BK144.out 3).trans rfl
                              have hcz26_4 : wc.cell? ⟨gb144, 4, none⟩ = some (.int .i64 ((rd_T59 l0 a1).f4)) := (blk_cell BK144.out 4).trans rfl
                              have hfz26_0 := blk_frozen BK144.out 0
                              have hfz26_1 := blk_frozen BK144.out 1
                              have hfz26_2 := blk_frozen BK144.out 2
                              have hfz26_3 := blk_frozen BK144.out 3
                              have hfz26_4 := blk_frozen BK144.out 4
                              have p147 : 0 ≤ (t145 : Int) := of_decide_eq_true (by first | (with_reducible assumption) | assumption)
                              have q147 : t145 < (l0.length : Int) := of_decide_eq_true (by first | (with_reducible assumption) | assumption)
                              obtain ⟨ad147, e147, hx147_0, hx147_1, hx147_2, hx147_3, hx147_4⟩ := at_T59 HR0.out t145 p147 q147
                              obtain rfl : ad143 = ad147 := (by injection e147)
                              replace hx147_0 := (HB.out.cell (World.block_lt_of_cell? w _ hx147_0)).trans hx147_0
                              replace hx147_1 := (HB.out.cell (World.block_lt_of_cell? w _ hx147_1)).trans hx147_1
                              replace hx147_2 := (HB.out.cell (World.block_lt_of_cell? w _ hx147_2)).trans hx147_2
                              replace hx147_3 := (HB.out.cell (World.block_lt_of_cell? w _ hx147_3)).trans hx147_3
                              replace hx147_4 := (HB.out.cell (World.block_lt_of_cell? w _ hx147_4)).trans hx147_4
                              replace p147 := eq_true p147
                              replace q147 := eq_true q147
                              go_wp2
                              repeat (go_quiet (fail); try go_wp2)
                              go_meet
                              case rel => exact ⟨_, (false), (by first | rfl | (simp; done) | (simp [*]; done)), H', ⟨by have := HJ4.out; have := HJ12.out; first | omega | exact Nat.le_refl _⟩, ⟨by (with_reducible repeat (first | refine blk_drewN ?_ _ | refine blk_drew ?_ | refine blk_alloc ?_ _)); exact BK144.out⟩, ⟨by repeat (first | (with_reducible first | exact HB.out | apply below_alloc | apply pw_below_drewN | apply below_drew1 | refine below_set ?_ GE144.out) | exact HB.out)⟩⟩
                            · rw [if_neg c25] at H
                              have c25b0 : (((rd_T59 l0 a1).f4) == 1) = false := beq_eq_false_iff_ne.mpr c25
                              have c25b1 : (((rd_T59 l0 a1).f4) != 1) = true := bne_iff_ne.mpr c25
                              by_cases c27 : ((rd_T59 l0 a1).f4) = 2
                              · rw [if_pos c27] at H
                                have c27b0 : (((rd_T59 l0 a1).f4) == 2) = true := beq_iff_eq.mpr c27
                                have c27b1 : (((rd_T59 l0 a1).f4) != 2) = false := bne_eq_false_iff_eq.mpr c27
                                clear c27
                                have H' := Aside0.mk H
                                clear H
                                have hcz28_0 : wc.cell? ⟨gb144, 0, none⟩ = some (.int .i64 ((rd_T59 l0 a1).f0)) := (blk_cell BK144.out 0).trans rfl
                                have hcz28_1 : wc.cell? ⟨gb144, 1, none⟩ = some (.bool ((rd_T59 l0 a1).f1)) := (blk_cell BK144.out 1).trans rfl
                                have hcz28_2 : wc.cell? ⟨gb144, 2, none⟩ = some (.bool ((rd_T59 l0 a1).f2)) := (blk_cell BK144.out 2).trans rfl
                                have hcz28_3 : wc.cell? ⟨gb144, 3, none⟩ = some (.int .u64 ((rd_T59 l0 a1).f3)) := (blk_cell BK144.out 3).trans rfl
                                have hcz28_4 : wc.cell? ⟨gb144, 4, none⟩ = some (.int .i64 ((rd_T59 l0 a1).f4)) := (blk_cell BK144.out 4).trans rfl
                                have hfz28_0 := blk_frozen BK144.out 0
                                have hfz28_1 := blk_frozen BK144.out 1
                                have hfz28_2 := blk_frozen BK144.out 2
                                have hfz28_3 := blk_frozen BK144.out 3
                                have hfz28_4 := blk_frozen BK144.out 4
                                have p147 : 0 ≤ (t145 : Int) := of_decide_eq_true (by first | (with_reducible assumption) | assumption)
                                have q147 : t145 < (l0.length : Int) := of_decide_eq_true (by first | (with_reducible assumption) | assumption)
                                obtain ⟨ad147, e147, hx147_0, hx147_1, hx147_2, hx147_3, hx147_4⟩ := at_T59 HR0.out t145 p147 q147
                                obtain rfl : ad143 = ad147 := (by injection e147)
                                replace hx147_0 := (HB.out.cell (World.block_lt_of_cell? w _ hx147_0)).trans hx147_0
                                replace hx147_1 := (HB.out.cell (World.block_lt_of_cell? w _ hx147_1)).trans hx147_1
                                replace hx147_2 := (HB.out.cell (World.block_lt_of_cell? w _ hx147_2)).trans hx147_2
                                replace hx147_3 := (HB.out.cell (World.block_lt_of_cell? w _ hx147_3)).trans hx147_3
                                replace hx147_4 := (HB.out.cell (World.block_lt_of_cell? w _ hx147_4)).trans hx147_4
                                replace p147 := eq_true p147
                                replace q147 := eq_true q147
                                go_wp2
                                repeat (go_quiet (fail); try go_wp2)
                                go_meet
                                case rel => exact ⟨_, (false), (by first | rfl | (simp; done) | (simp [*]; done)), H', ⟨by have := HJ4.out; have := HJ12.out; first | omega | exact Nat.le_refl _⟩, ⟨by (with_reducible repeat (first | refine blk_drewN ?_ _ | refine blk_drew ?_ | refine blk_alloc ?_ _)); exact BK144.out⟩, ⟨by repeat (first | (with_reducible first | exact HB.out | apply below_alloc | apply pw_below_drewN | apply below_drew1 | refine below_set ?_ GE144.out) | exact HB.out)⟩⟩
                              · rw [if_neg c27] at H
                                have c27b0 : (((rd_T59 l0 a1).f4) == 2) = false := beq_eq_false_iff_ne.mpr c27
                                have c27b1 : (((rd_T59 l0 a1).f4) != 2) = true := bne_iff_ne.mpr c27
                                by_cases c29 : ((rd_T59 l0 a1).f4) = 6
                                · rw [if_pos c29] at H
                                  have c29b0 : (((rd_T59 l0 a1).f4) == 6) = true := beq_iff_eq.mpr c29
                                  have c29b1 : (((rd_T59 l0 a1).f4) != 6) = false := bne_eq_false_iff_eq.mpr c29
                                  clear c29
                                  have H' := Aside0.mk H
                                  clear H
                                  have hcz30_0 : wc.cell? ⟨gb144, 0, none⟩ = some (.int .i64 ((rd_T59 l0 a1).f0)) := (blk_cell BK144.out 0).trans rfl
                                  have hcz30_1 : wc.cell? ⟨gb144, 1, none⟩ = some (.bool ((rd_T59 l0 a1).f1)) := (blk_cell BK144.out 1).trans rfl
                                  have hcz30_2 : wc.cell? ⟨gb144, 2, none⟩ = some (.bool ((rd_T59 l0 a1).f2)) := (blk_cell BK144.out 2).trans rfl
                                  have hcz30_3 : wc.cell? ⟨gb144, 3, none⟩ = some (.int .u64 ((rd_T59 l0 a1).f3)) := (blk_cell BK144.out 3).trans rfl
                                  have hcz30_4 : wc.cell? ⟨gb144, 4, none⟩ = some (.int .i64 ((rd_T59 l0 a1).f4)) := (blk_cell BK144.out 4).trans rfl
                                  have hfz30_0 := blk_frozen BK144.out 0
                                  have hfz30_1 := blk_frozen BK144.out 1
                                  have hfz30_2 := blk_frozen BK144.out 2
                                  have hfz30_3 := blk_frozen BK144.out 3
                                  have hfz30_4 := blk_frozen BK144.out 4
                                  have p147 : 0 ≤ (t145 : Int) := of_decide_eq_true (by first | (with_reducible assumption) | assumption)
                                  have q147 : t145 < (l0.length : Int) := of_decide_eq_true (by first | (with_reducible assumption) | assumption)
                                  obtain ⟨ad147, e147, hx147_0, hx147_1, hx147_2, hx147_3, hx147_4⟩ := at_T59 HR0.out t145 p147 q147
                                  obtain rfl : ad143 = ad147 := (by injection e147)
                                  replace hx147_0 := (HB.out.cell (World.block_lt_of_cell? w _ hx147_0)).trans hx147_0
                                  replace hx147_1 := (HB.out.cell (World.block_lt_of_cell? w _ hx147_1)).trans hx147_1
                                  replace hx147_2 := (HB.out.cell (World.block_lt_of_cell? w _ hx147_2)).trans hx147_2
                                  replace hx147_3 := (HB.out.cell (World.block_lt_of_cell? w _ hx147_3)).trans hx147_3
                                  replace hx147_4 := (HB.out.cell (World.block_lt_of_cell? w _ hx147_4)).trans hx147_4
                                  replace p147 := eq_true p147
                                  replace q147 := eq_true q147
                                  go_wp2
                                  repeat (go_quiet (fail); try go_wp2)
                                  go_meet
                                  case rel => exact ⟨_, (false), (by first | rfl | (simp; done) | (simp [*]; done)), H', ⟨by have := HJ4.out; have := HJ12.out; first | omega | exact Nat.le_refl _⟩, ⟨by (with_reducible repeat (first | refine blk_drewN ?_ _ | refine blk_drew ?_ | refine blk_alloc ?_ _)); exact BK144.out⟩, ⟨by repeat (first | (with_reducible first | exact HB.out | apply below_alloc | apply pw_below_drewN | apply below_drew1 | refine below_set ?_ GE144.out) | exact HB.out)⟩⟩
                                · rw [if_neg c29] at H
                                  have c29b0 : (((rd_T59 l0 a1).f4) == 6) = false := beq_eq_false_iff_ne.mpr c29
                                  have c29b1 : (((rd_T59 l0 a1).f4) != 6) = true := bne_iff_ne.mpr c29
                                  have H' := Aside0.mk H
                                  clear H
                                  have hcz31_0 : wc.cell? ⟨gb144, 0, none⟩ = some (.int .i64 ((rd_T59 l0 a1).f0)) := (blk_cell BK144.out 0).trans rfl
                                  have hcz31_1 : wc.cell? ⟨gb144, 1, none⟩ = some (.bool ((rd_T59 l0 a1).f1)) := (blk_cell BK144.out 1).trans rfl
                                  have hcz31_2 : wc.cell? ⟨gb144, 2, none⟩ = some (.bool ((rd_T59 l0 a1).f2)) := (blk_cell BK144.out 2).trans rfl
                                  have hcz31_3 : wc.cell? ⟨gb144, 3, none⟩ = some (.int .u64 ((rd_T59 l0 a1).f3)) := (blk_cell BK144.out 3).trans rfl
                                  have hcz31_4 : wc.cell? ⟨gb144, 4, none⟩ = some (.int .i64 ((rd_T59 l0 a1).f4)) := (blk_cell BK144.out 4).trans rfl
                                  have hfz31_0 := blk_frozen BK144.out 0
                                  have hfz31_1 := blk_frozen BK144.out 1
                                  have hfz31_2 := blk_frozen BK144.out 2
                                  have hfz31_3 := blk_frozen BK144.out 3
                                  have hfz31_4 := blk_frozen BK144.out 4
                                  have p147 : 0 ≤ (t145 : Int) := of_decide_eq_true (by first | (with_reducible assumption) | assumption)
                                  have q147 : t145 < (l0.length : Int) := of_decide_eq_true (by first | (with_reducible assumption) | assumption)
                                  obtain ⟨ad147, e147, hx147_0, hx147_1, hx147_2, hx147_3, hx147_4⟩ := at_T59 HR0.out t145 p147 q147
                                  obtain rfl : ad143 = ad147 := (by injection e147)
                                  replace hx147_0 := (HB.out.cell (World.block_lt_of_cell? w _ hx147_0)).trans hx147_0
                                  replace hx147_1 := (HB.out.cell (World.block_lt_of_cell? w _ hx147_1)).trans hx147_1
                                  replace hx147_2 := (HB.out.cell (World.block_lt_of_cell? w _ hx147_2)).trans hx147_2
                                  replace hx147_3 := (HB.out.cell (World.block_lt_of_cell? w _ hx147_3)).trans hx147_3
                                  replace hx147_4 := (HB.out.cell (World.block_lt_of_cell? w _ hx147_4)).trans hx147_4
                                  replace p147 := eq_true p147
                                  replace q147 := eq_true q147
                                  go_wp2
                                  repeat (go_quiet (fail); try go_wp2)
                                  go_meet
                                  case rel => exact ⟨_, ((((rd_T59 l0 a1).f4) != 7)), (by first | rfl | (simp; done) | (simp [*]; done)), H', ⟨by have := HJ4.out; have := HJ12.out; first | omega | exact Nat.le_refl _⟩, ⟨by (with_reducible repeat (first | refine blk_drewN ?_ _ | refine blk_drew ?_ | refine blk_alloc ?_ _)); exact BK144.out⟩, ⟨by repeat (first | (with_reducible first | exact HB.out | apply below_alloc | apply pw_below_drewN | apply below_drew1 | refine below_set ?_ GE144.out) | exact HB.out)⟩⟩
                        · rw [if_neg c22] at H
                          exact absurd H (by simp)
                      · rw [if_neg c21] at H
                        exact absurd H (by simp)
                    case rest =>
                      clear HC19
                      try clear c1
                      try clear p1
                      try clear q1
                      try clear hx1
                      try clear c2
                      try clear p2
                      try clear c3
                      try clear c3b0
                      try clear c4
                      try clear c4b0
                      try clear c8
                      try clear c8b0
                      try clear c11
                      try clear c14
                      try clear c14b0
                      try clear p14
                      try clear q14
                      try clear hx14
                      try clear c15
                      try clear c15b0
                      try clear c16
                      try clear c16b0
                      try clear c17
                      try clear c17b0
                      try clear c18
                      try clear c21
                      try clear c21b0
                      try clear c22
                      try clear c22b0
                      try clear c23
                      try clear c23b0
                      try clear c23b1
                      try clear c23b2
                      try clear c25
                      try clear c25b0
                      try clear c25b1
                      try clear c27
                      try clear c27b0
                      try clear c27b1
                      try clear c29
                      try clear c29b0
                      try clear c29b1
                      try clear hcz10_0
                      try clear hcz10_1
                      try clear hcz10_2
                      try clear hcz10_3
                      try clear hcz10_4
                      try clear hcz20_0
                      try clear hcz20_1
                      try clear hcz20_2
                      try clear hcz20_3
                      try clear hcz20_4
                      try clear hcz24_0
                      try clear hcz24_1
                      try clear hcz24_2
                      try clear hcz24_3
                      try clear hcz24_4
                      try clear hcz26_0
                      try clear hcz26_1
                      try clear hcz26_2
                      try clear hcz26_3
                      try clear hcz26_4
                      try clear hcz28_0
                      try clear hcz28_1
                      try clear hcz28_2
                      try clear hcz28_3
                      try clear hcz28_4
                      try clear hcz30_0
                      try clear hcz30_1
                      try clear hcz30_2
                      try clear hcz30_3
                      try clear hcz30_4
                      try clear hcz31_0
                      try clear hcz31_1
                      try clear hcz31_2
                      try clear hcz31_3
                      try clear hcz31_4
                      try clear hcz7_0
                      try clear hcz7_1
                      try clear hcz7_2
                      try clear hcz7_3
                      try clear hcz7_4
                      try clear hcz9_0
                      try clear hcz9_1
                      try clear hcz9_2
                      try clear hcz9_3
                      try clear hcz9_4
                      try clear hfz10_0
                      try clear hfz10_1
                      try clear hfz10_2
                      try clear hfz10_3
                      try clear hfz10_4
                      try clear hfz20_0
                      try clear hfz20_1
                      try clear hfz20_2
                      try clear hfz20_3
                      try clear hfz20_4
                      try clear hfz24_0
                      try clear hfz24_1
                      try clear hfz24_2
                      try clear hfz24_3
                      try clear hfz24_4
                      try clear hfz26_0
                      try clear hfz26_1
                      try clear hfz26_2
                      try clear hfz26_3
                      try clear hfz26_4
                      try clear hfz28_0
                      try clear hfz28_1
                      try clear hfz28_2
                      try clear hfz28_3
                      try clear hfz28_4
                      try clear hfz30_0
                      try clear hfz30_1
                      try clear hfz30_2
                      try clear hfz30_3
                      try clear hfz30_4
                      try clear hfz31_0
                      try clear hfz31_1
                      try clear hfz31_2
                      try clear hfz31_3
                      try clear hfz31_4
                      try clear hfz7_0
                      try clear hfz7_1
                      try clear hfz7_2
                      try clear hfz7_3
                      try clear hfz7_4
                      try clear hfz9_0
                      try clear hfz9_1
                      try clear hfz9_2
                      try clear hfz9_3
                      try clear hfz9_4
                      try clear hx143_0
                      try clear hx143_1
                      try clear hx143_2
                      try clear hx143_3
                      try clear hx143_4
                      try clear hx146_0
                      try clear hx146_1
                      try clear hx146_2
                      try clear hx146_3
                      try clear hx146_4
                      try clear hx147_0
                      try clear hx147_1
                      try clear hx147_2
                      try clear hx147_3
                      try clear hx147_4
                      try clear p1
                      try clear p14
                      try clear p143
                      try clear p146
                      try clear p147
                      try clear p2
                      try clear q1
                      try clear q14
                      try clear q143
                      try clear q146
                      try clear q147
                      obtain ⟨kq, x79_18, rfl, HA, HJ18, BK144, HB⟩ := hcut
                      cases kq with
                      | zero => exact absurd HA.out (by simp [hatstandref14_wrong.j3])
                      | succ kj18 =>
                        have H := HA.out
                        clear HA
                        simp only [hatstandref14_wrong.j3] at H
                        by_cases c32 : x79_18 = true
                        · subst c32
                          have H1 : (some 3) = some r := by rw [if_pos rfl] at H; exact H
                          clear H
                          have H := H1
                          clear H1
                          obtain rfl := Option.some.inj H
                          go_wp2
                          repeat (go_quiet (fail); try go_wp2)
                          go_ret
                          exact ⟨by first | rfl | (simp [errW_none, errW_some] <;> rfl) | (simp [*, errW_none, errW_some] <;> rfl), by repeat (first | (with_reducible first | exact HB.out | apply below_alloc | apply pw_below_drewN | apply below_drew1 | refine below_set ?_ GE144.out) | exact HB.out)⟩
                        · replace c32 := Bool.eq_false_iff.mpr c32
                          subst c32
                          have H1 : (if ((rd_T59 l0 a1).f3) = 0 then (hatstandref14_wrong.j4 kj18 false) else (if ((rd_T59 l0 a1).f2) = true then (hatstandref14_wrong.j4 kj18 true) else (hatstandref14_wrong.j4 kj18 (((rd_T59 l0 a1).f4) != 1)))) = some r := by rw [if_neg (show ¬ (false = true) by decide)] at H; exact H
                          clear H
                          have H := H1
                          clear H1
                          have HC33 := Aside0.mk H
                          clear H
                          go_upto_region 16 with (fail)
                          repeat (go_quiet (fail); go_upto_region 16 with (fail))
                          go_cut [91] (fun v91 wc => ∃ (kq : Nat) (x91_32 : Bool), v91 = .bool x91_32 ∧ Aside0 (hatstandref14_wrong.j4 kq x91_32 = some r) ∧ Aside0 (kq ≤ kj18) ∧ Aside0 (wc.heap[gb144]? = some (.cells #[.int .i64 ((rd_T59 l0 a1).f0), .bool ((rd_T59 l0 a1).f1), .bool ((rd_T59 l0 a1).f2), .int .u64 ((rd_T59 l0 a1).f3), .int .i64 ((rd_T59 l0 a1).f4)] 59 (0, 0))) ∧ Aside0 (Below w.heap.size w wc))
                          case first =>
                            have H := HC33.out
                            clear HC33
                            by_cases c34 : ((rd_T59 l0 a1).f3) = 0
                            · rw [if_pos c34] at H
                              have c34b0 : (((rd_T59 l0 a1).f3) == 0) = true := beq_iff_eq.mpr c34
                              have c34b1 : (((rd_T59 l0 a1).f3) != 0) = false := bne_eq_false_iff_eq.mpr c34
                              clear c34
                              (first | rw [c34b0] | (simp only [i64_w, i32_w, Go.IntKind.wrap_u32]; rw [c34b0]) | skip)
                              have H' := Aside0.mk H
                              clear H
                              have hcz35_0 : wc.cell? ⟨gb144, 0, none⟩ = some (.int .i64 ((rd_T59 l0 a1).f0)) := (blk_cell BK144.out 0).trans rfl
                              have hcz35_1 : wc.cell? ⟨gb144, 1, none⟩ = some (.bool ((rd_T59 l0 a1).f1)) := (blk_cell BK144.out 1).trans rfl
                              have hcz35_2 : wc.cell? ⟨gb144, 2, none⟩ = some (.bool ((rd_T59 l0 a1).f2)) := (blk_cell BK144.out 2).trans rfl
                              have hcz35_3 : wc.cell? ⟨gb144, 3, none⟩ = some (.int .u64 ((rd_T59 l0 a1).f3)) := (blk_cell BK144.out 3).trans rfl
                              have hcz35_4 : wc.cell? ⟨gb144, 4, none⟩ = some (.int .i64 ((rd_T59 l0 a1).f4)) := (blk_cell BK144.out 4).trans rfl
                              have hfz35_0 := blk_frozen BK144.out 0
                              have hfz35_1 := blk_frozen BK144.out 1
                              have hfz35_2 := blk_frozen BK144.out 2
                              have hfz35_3 := blk_frozen BK144.out 3
                              have hfz35_4 := blk_frozen BK144.out 4
                              go_wp2
                              repeat (go_quiet (fail); try go_wp2)
                              go_meet
                              case rel => exact ⟨_, (false), (by first | rfl | (simp; done) | (simp [*]; done)), H', ⟨by have := HJ4.out; have := HJ12.out; have := HJ18.out; first | omega | exact Nat.le_refl _⟩, ⟨by (with_reducible repeat (first | refine blk_drewN ?_ _ | refine blk_drew ?_ | refine blk_alloc ?_ _)); exact BK144.out⟩, ⟨by repeat (first | (with_reducible first | exact HB.out | apply below_alloc | apply pw_below_drewN | apply below_drew1 | refine below_set ?_ GE144.out) | exact HB.out)⟩⟩
                            · rw [if_neg c34] at H
                              have c34b0 : (((rd_T59 l0 a1).f3) == 0) = false := beq_eq_false_iff_ne.mpr c34
                              have c34b1 : (((rd_T59 l0 a1).f3) != 0) = true := bne_iff_ne.mpr c34
                              (first | rw [c34b0] | (simp only [i64_w, i32_w, Go.IntKind.wrap_u32]; rw [c34b0]) | skip)
                              by_cases c36 : ((rd_T59 l0 a1).f2) = true
                              · rw [if_pos c36] at H
                                have c36b0 : ((rd_T59 l0 a1).f2) = true := c36
                                clear c36
                                have H' := Aside0.mk H
                                clear H
                                have hcz37_0 : wc.cell? ⟨gb144, 0, none⟩ = some (.int .i64 ((rd_T59 l0 a1).f0)) := (blk_cell BK144.out 0).trans rfl
                                have hcz37_1 : wc.cell? ⟨gb144, 1, none⟩ = some (.bool ((rd_T59 l0 a1).f1)) := (blk_cell BK144.out 1).trans rfl
                                have hcz37_2 : wc.cell? ⟨gb144, 2, none⟩ = some (.bool ((rd_T59 l0 a1).f2)) := (blk_cell BK144.out 2).trans rfl
                                have hcz37_3 : wc.cell? ⟨gb144, 3, none⟩ = some (.int .u64 ((rd_T59 l0 a1).f3)) := (blk_cell BK144.out 3).trans rfl
                                have hcz37_4 : wc.cell? ⟨gb144, 4, none⟩ = some (.int .i64 ((rd_T59 l0 a1).f4)) := (blk_cell BK144.out 4).trans rfl
                                have hfz37_0 := blk_frozen BK144.out 0
                                have hfz37_1 := blk_frozen BK144.out 1
                                have hfz37_2 := blk_frozen BK144.out 2
                                have hfz37_3 := blk_frozen BK144.out 3
                                have hfz37_4 := blk_frozen BK144.out 4
                                go_wp2
                                repeat (go_quiet (fail); try go_wp2)
                                go_meet
                                case rel => exact ⟨_, (true), (by first | rfl | (simp; done) | (simp [*]; done)), H', ⟨by have := HJ4.out; have := HJ12.out; have := HJ18.out; first | omega | exact Nat.le_refl _⟩, ⟨by (with_reducible repeat (first | refine blk_drewN ?_ _ | refine blk_drew ?_ | refine blk_alloc ?_ _)); exact BK144.out⟩, ⟨by repeat (first | (with_reducible first | exact HB.out | apply below_alloc | apply pw_below_drewN | apply below_drew1 | refine below_set ?_ GE144.out) | exact HB.out)⟩⟩
                              · rw [if_neg c36] at H
                                have c36b0 : ((rd_T59 l0 a1).f2) = false := by simpa using c36
                                clear c36
                                have H' := Aside0.mk H
                                clear H
                                have hcz38_0 : wc.cell? ⟨gb144, 0, none⟩ = some (.int .i64 ((rd_T59 l0 a1).f0)) := (blk_cell BK144.out 0).trans rfl
                                have hcz38_1 : wc.cell? ⟨gb144, 1, none⟩ = some (.bool ((rd_T59 l0 a1).f1)) := (blk_cell BK144.out 1).trans rfl
                                have hcz38_2 : wc.cell? ⟨gb144, 2, none⟩ = some (.bool ((rd_T59 l0 a1).f2)) := (blk_cell BK144.out 2).trans rfl
                                have hcz38_3 : wc.cell? ⟨gb144, 3, none⟩ = some (.int .u64 ((rd_T59 l0 a1).f3)) := (blk_cell BK144.out 3).trans rfl
                                have hcz38_4 : wc.cell? ⟨gb144, 4, none⟩ = some (.int .i64 ((rd_T59 l0 a1).f4)) := (blk_cell BK144.out 4).trans rfl
                                have hfz38_0 := blk_frozen BK144.out 0
                                have hfz38_1 := blk_frozen BK144.out 1
                                have hfz38_2 := blk_frozen BK144.out 2
                                have hfz38_3 := blk_frozen BK144.out 3
                                have hfz38_4 := blk_frozen BK144.out 4
                                go_wp2
                                repeat (go_quiet (fail); try go_wp2)
                                go_meet
                                case rel => exact ⟨_, ((((rd_T59 l0 a1).f4) != 1)), (by first | rfl | (simp; done) | (simp [*]; done)), H', ⟨by have := HJ4.out; have := HJ12.out; have := HJ18.out; first | omega | exact Nat.le_refl _⟩, ⟨by (with_reducible repeat (first | refine blk_drewN ?_ _ | refine blk_drew ?_ | refine blk_alloc ?_ _)); exact BK144.out⟩, ⟨by repeat (first | (with_reducible first | exact HB.out | apply below_alloc | apply pw_below_drewN | apply below_drew1 | refine below_set ?_ GE144.out) | exact HB.out)⟩⟩
                          case rest =>
                            clear HC33
                            try clear c1
                            try clear p1
                            try clear q1
                            try clear hx1
                            try clear c2
                            try clear p2
                            try clear c3
                            try clear c3b0
                            try clear c4
                            try clear c4b0
                            try clear c8
                            try clear c8b0
                            try clear c11
                            try clear c14
                            try clear c14b0
                            try clear p14
                            try clear q14
                            try clear hx14
                            try clear c15
                            try clear c15b0
                            try clear c16
                            try clear c16b0
                            try clear c17
                            try clear c17b0
                            try clear c18
                            try clear c21
                            try clear c21b0
                            try clear c22
                            try clear c22b0
                            try clear c23
                            try clear c23b0
                            try clear c23b1
                            try clear c23b2
                            try clear c25
                            try clear c25b0
                            try clear c25b1
                            try clear c27
                            try clear c27b0
                            try clear c27b1
                            try clear c29
                            try clear c29b0
                            try clear c29b1
                            try clear c32
                            try clear c34
                            try clear c34b0
                            try clear c34b1
                            try clear c36
                            try clear c36b0
                            try clear hcz10_0
                            try clear hcz10_1
                            try clear hcz10_2
                            try clear hcz10_3
                            try clear hcz10_4
                            try clear hcz20_0
                            try clear hcz20_1
                            try clear hcz20_2
                            try clear hcz20_3
                            try clear hcz20_4
                            try clear hcz24_0
                            try clear hcz24_1
                            try clear hcz24_2
                            try clear hcz24_3
                            try clear hcz24_4
                            try clear hcz26_0
                            try clear hcz26_1
                            try clear hcz26_2
                            try clear hcz26_3
                            try clear hcz26_4
                            try clear hcz28_0
                            try clear hcz28_1
                            try clear hcz28_2
                            try clear hcz28_3
                            try clear hcz28_4
                            try clear hcz30_0
                            try clear hcz30_1
                            try clear hcz30_2
                            try clear hcz30_3
                            try clear hcz30_4
                            try clear hcz31_0
                            try clear hcz31_1
                            try clear hcz31_2
                            try clear hcz31_3
                            try clear hcz31_4
                            try clear hcz35_0
                            try clear hcz35_1
                            try clear hcz35_2
                            try clear hcz35_3
                            try clear hcz35_4
                            try clear hcz37_0
                            try clear hcz37_1
                            try clear hcz37_2
                            try clear hcz37_3
                            try clear hcz37_4
                            try clear hcz38_0
                            try clear hcz38_1
                            try clear hcz38_2
                            try clear hcz38_3
                            try clear hcz38_4
                            try clear hcz7_0
                            try clear hcz7_1
                            try clear hcz7_2
                            try clear hcz7_3
                            try clear hcz7_4
                            try clear hcz9_0
                            try clear hcz9_1
                            try clear hcz9_2
                            try clear hcz9_3
                            try clear hcz9_4
                            try clear hfz10_0
                            try clear hfz10_1
                            try clear hfz10_2
                            try clear hfz10_3
                            try clear hfz10_4
                            try clear hfz20_0
                            try clear hfz20_1
                            try clear hfz20_2
                            try clear hfz20_3
                            try clear hfz20_4
                            try clear hfz24_0
                            try clear hfz24_1
                            try clear hfz24_2
                            try clear hfz24_3
                            try clear hfz24_4
                            try clear hfz26_0
                            try clear hfz26_1
                            try clear hfz26_2
                            try clear hfz26_3
                            try clear hfz26_4
                            try clear hfz28_0
                            try clear hfz28_1
                            try clear hfz28_2
                            try clear hfz28_3
                            try clear hfz28_4
                            try clear hfz30_0
                            try clear hfz30_1
                            try clear hfz30_2
                            try clear hfz30_3
                            try clear hfz30_4
                            try clear hfz31_0
                            try clear hfz31_1
                            try clear hfz31_2
                            try clear hfz31_3
                            try clear hfz31_4
                            try clear hfz35_0
                            try clear hfz35_1
                            try clear hfz35_2
                            try clear hfz35_3
                            try clear hfz35_4
                            try clear hfz37_0
                            try clear hfz37_1
                            try clear hfz37_2
                            try clear hfz37_3
                            try clear hfz37_4
                            try clear hfz38_0
                            try clear hfz38_1
                            try clear hfz38_2
                            try clear hfz38_3
                            try clear hfz38_4
                            try clear hfz7_0
                            try clear hfz7_1
                            try clear hfz7_2
                            try clear hfz7_3
                            try clear hfz7_4
                            try clear hfz9_0
                            try clear hfz9_1
                            try clear hfz9_2
                            try clear hfz9_3
                            try clear hfz9_4
                            try clear hx143_0
                            try clear hx143_1
                            try clear hx143_2
                            try clear hx143_3
                            try clear hx143_4
                            try clear hx146_0
                            try clear hx146_1
                            try clear hx146_2
                            try clear hx146_3
                            try clear hx146_4
                            try clear hx147_0
                            try clear hx147_1
                            try clear hx147_2
                            try clear hx147_3
                            try clear hx147_4
                            try clear p1
                            try clear p14
                            try clear p143
                            try clear p146
                            try clear p147
                            try clear p2
                            try clear q1
                            try clear q14
                            try clear q143
                            try clear q146
                            try clear q147
                            obtain ⟨kq, x91_32, rfl, HA, HJ32, BK144, HB⟩ := hcut
                            cases kq with
                            | zero => exact absurd HA.out (by simp [hatstandref14_wrong.j4])
                            | succ kj32 =>
                              have H := HA.out
                              clear HA
                              simp only [hatstandref14_wrong.j4] at H
                              by_cases c39 : x91_32 = true
                              · subst c39
                                have H1 : (some 3) = some r := by rw [if_pos rfl] at H; exact H
                                clear H
                                have H := H1
                                clear H1
                                obtain rfl := Option.some.inj H
                                go_wp2
                                repeat (go_quiet (fail); try go_wp2)
                                go_ret
                                exact ⟨by first | rfl | (simp [errW_none, errW_some] <;> rfl) | (simp [*, errW_none, errW_some] <;> rfl), by repeat (first | (with_reducible first | exact HB.out | apply below_alloc | apply pw_below_drewN | apply below_drew1 | refine below_set ?_ GE144.out) | exact HB.out)⟩
                              · replace c39 := Bool.eq_false_iff.mpr c39
                                subst c39
                                have H1 : (some 0) = some r := by rw [if_neg (show ¬ (false = true) by decide)] at H; exact H
                                clear H
                                have H := H1
                                clear H1
                                obtain rfl := Option.some.inj H
                                go_wp2
                                repeat (go_quiet (fail); try go_wp2)
                                go_ret
                                exact ⟨by first | rfl | (simp [errW_none, errW_some] <;> rfl) | (simp [*, errW_none, errW_some] <;> rfl), by repeat (first | (with_reducible first | exact HB.out | apply below_alloc | apply pw_below_drewN | apply below_drew1 | refine below_set ?_ GE144.out) | exact HB.out)⟩
                  · replace c18 := Bool.eq_false_iff.mpr c18
                    subst c18
                    have H1 : (some 6) = some r := by rw [if_neg (show ¬ (false = true) by decide)] at H; exact H
                    clear H
                    have H := H1
                    clear H1
                    obtain rfl := Option.some.inj H
                    have hcz40_0 : wc.cell? ⟨gb144, 0, none⟩ = some (.int .i64 ((rd_T59 l0 a1).f0)) := (blk_cell BK144.out 0).trans rfl
                    have hcz40_1 : wc.cell? ⟨gb144, 1, none⟩ = some (.bool ((rd_T59 l0 a1).f1)) := (blk_cell BK144.out 1).trans rfl
                    have hcz40_2 : wc.cell? ⟨gb144, 2, none⟩ = some (.bool ((rd_T59 l0 a1).f2)) := (blk_cell BK144.out 2).trans rfl
                    have hcz40_3 : wc.cell? ⟨gb144, 3, none⟩ = some (.int .u64 ((rd_T59 l0 a1).f3)) := (blk_cell BK144.out 3).trans rfl
                    have hcz40_4 : wc.cell? ⟨gb144, 4, none⟩ = some (.int .i64 ((rd_T59 l0 a1).f4)) := (blk_cell BK144.out 4).trans rfl
                    have hfz40_0 := blk_frozen BK144.out 0
                    have hfz40_1 := blk_frozen BK144.out 1
                    have hfz40_2 := blk_frozen BK144.out 2
                    have hfz40_3 := blk_frozen BK144.out 3
                    have hfz40_4 := blk_frozen BK144.out 4
                    go_wp2
                    repeat (go_quiet (fail); try go_wp2)
                    go_ret
                    exact ⟨by first | rfl | (simp [errW_none, errW_some] <;> rfl) | (simp [*, errW_none, errW_some] <;> rfl), by repeat (first | (with_reducible first | exact HB.out | apply below_alloc | apply pw_below_drewN | apply below_drew1 | refine below_set ?_ GE144.out) | exact HB.out)⟩
                · rw [if_neg c17] at H
                  have c17b0 : ((rd_T59 l0 a1).f1) = false := by simpa using c17
                  clear c17
                  by_cases c41 : x7_12 = true
                  · subst c41
                    have H1 : (some 5) = some r := by rw [if_pos rfl] at H; exact H
                    clear H
                    have H := H1
                    clear H1
                    obtain rfl := Option.some.inj H
                    have hcz42_0 : wc.cell? ⟨gb144, 0, none⟩ = some (.int .i64 ((rd_T59 l0 a1).f0)) := (blk_cell BK144.out 0).trans rfl
                    have hcz42_1 : wc.cell? ⟨gb144, 1, none⟩ = some (.bool ((rd_T59 l0 a1).f1)) := (blk_cell BK144.out 1).trans rfl
                    have hcz42_2 : wc.cell? ⟨gb144, 2, none⟩ = some (.bool ((rd_T59 l0 a1).f2)) := (blk_cell BK144.out 2).trans rfl
                    have hcz42_3 : wc.cell? ⟨gb144, 3, none⟩ = some (.int .u64 ((rd_T59 l0 a1).f3)) := (blk_cell BK144.out 3).trans rfl
                    have hcz42_4 : wc.cell? ⟨gb144, 4, none⟩ = some (.int .i64 ((rd_T59 l0 a1).f4)) := (blk_cell BK144.out 4).trans rfl
                    have hfz42_0 := blk_frozen BK144.out 0
                    have hfz42_1 := blk_frozen BK144.out 1
                    have hfz42_2 := blk_frozen BK144.out 2
                    have hfz42_3 := blk_frozen BK144.out 3
                    have hfz42_4 := blk_frozen BK144.out 4
                    go_wp2
                    repeat (go_quiet (fail); try go_wp2)
                    go_ret
                    exact ⟨by first | rfl | (simp [errW_none, errW_some] <;> rfl) | (simp [*, errW_none, errW_some] <;> rfl), by repeat (first | (with_reducible first | exact HB.out | apply below_alloc | apply pw_below_drewN | apply below_drew1 | refine below_set ?_ GE144.out) | exact HB.out)⟩
                  · replace c41 := Bool.eq_false_iff.mpr c41
                    subst c41
                    have H1 : (if ((rd_T59 l0 a1).f4) = 0 then (if ((rd_T59 l0 a1).f2) = true then (hatstandref14_wrong.j2 kj12 false) else (hatstandref14_wrong.j2 kj12 (((rd_T59 l0 a1).f3) != 0))) else (hatstandref14_wrong.j2 kj12 true)) = some r := by rw [if_neg (show ¬ (false = true) by decide)] at H; exact H
                    clear H
                    have H := H1
                    clear H1
                    have HC43 := Aside0.mk H
                    clear H
                    have hcz44_0 : wc.cell? ⟨gb144, 0, none⟩ = some (.int .i64 ((rd_T59 l0 a1).f0)) := (blk_cell BK144.out 0).trans rfl
                    have hcz44_1 : wc.cell? ⟨gb144, 1, none⟩ = some (.bool ((rd_T59 l0 a1).f1)) := (blk_cell BK144.out 1).trans rfl
                    have hcz44_2 : wc.cell? ⟨gb144, 2, none⟩ = some (.bool ((rd_T59 l0 a1).f2)) := (blk_cell BK144.out 2).trans rfl
                    have hcz44_3 : wc.cell? ⟨gb144, 3, none⟩ = some (.int .u64 ((rd_T59 l0 a1).f3)) := (blk_cell BK144.out 3).trans rfl
                    have hcz44_4 : wc.cell? ⟨gb144, 4, none⟩ = some (.int .i64 ((rd_T59 l0 a1).f4)) := (blk_cell BK144.out 4).trans rfl
                    have hfz44_0 := blk_frozen BK144.out 0
                    have hfz44_1 := blk_frozen BK144.out 1
                    have hfz44_2 := blk_frozen BK144.out 2
                    have hfz44_3 := blk_frozen BK144.out 3
                    have hfz44_4 := blk_frozen BK144.out 4
                    go_upto_region 9 with (fail)
                    repeat (go_quiet (fail); go_upto_region 9 with (fail))
                    go_cut [49] (fun v49 wc => ∃ (kq : Nat) (x49_42 : Bool), v49 = .bool x49_42 ∧ Aside0 (hatstandref14_wrong.j2 kq x49_42 = some r) ∧ Aside0 (kq ≤ kj12) ∧ Aside0 (wc.heap[gb144]? = some (.cells #[.int .i64 ((rd_T59 l0 a1).f0), .bool ((rd_T59 l0 a1).f1), .bool ((rd_T59 l0 a1).f2), .int .u64 ((rd_T59 l0 a1).f3), .int .i64 ((rd_T59 l0 a1).f4)] 59 (0, 0))) ∧ Aside0 (Below w.heap.size w wc))
                    case first =>
                      have H := HC43.out
                      clear HC43
                      by_cases c45 : ((rd_T59 l0 a1).f4) = 0
                      · rw [if_pos c45] at H
                        have c45b0 : (((rd_T59 l0 a1).f4) == 0) = true := beq_iff_eq.mpr c45
                        have c45b1 : (((rd_T59 l0 a1).f4) != 0) = false := bne_eq_false_iff_eq.mpr c45
                        clear c45
                        (first | rw [c45b0] | (simp only [i64_w, i32_w, Go.IntKind.wrap_u32]; rw [c45b0]) | skip)
                        by_cases c46 : ((rd_T59 l0 a1).f2) = true
                        · rw [if_pos c46] at H
                          have c46b0 : ((rd_T59 l0 a1).f2) = true := c46
                          clear c46
                          have H' := Aside0.mk H
                          clear H
                          have hcz47_0 : wc.cell? ⟨gb144, 0, none⟩ = some (.int .i64 ((rd_T59 l0 a1).f0)) := (blk_cell BK144.out 0).trans rfl
                          have hcz47_1 : wc.cell? ⟨gb144, 1, none⟩ = some (.bool ((rd_T59 l0 a1).f1)) := (blk_cell BK144.out 1).trans rfl
                          have hcz47_2 : wc.cell? ⟨gb144, 2, none⟩ = some (.bool ((rd_T59 l0 a1).f2)) := (blk_cell BK144.out 2).trans rfl
                          have hcz47_3 : wc.cell? ⟨gb144, 3, none⟩ = some (.int .u64 ((rd_T59 l0 a1).f3)) := (blk_cell BK144.out 3).trans rfl
                          have hcz47_4 : wc.cell? ⟨gb144, 4, none⟩ = some (.int .i64 ((rd_T59 l0 a1).f4)) := (blk_cell BK144.out 4).trans rfl
                          have hfz47_0 := blk_frozen BK144.out 0
                          have hfz47_1 := blk_frozen BK144.out 1
                          have hfz47_2 := blk_frozen BK144.out 2
                          have hfz47_3 := blk_frozen BK144.out 3
                          have hfz47_4 := blk_frozen BK144.out 4
                          go_wp2
                          repeat (go_quiet (fail); try go_wp2)
                          go_meet
                          case rel => exact ⟨_, (false), (by first | rfl | (simp; done) | (simp [*]; done)), H', ⟨by have := HJ4.out; have := HJ12.out; first | omega | exact Nat.le_refl _⟩, ⟨by (with_reducible repeat (first | refine blk_drewN ?_ _ | refine blk_drew ?_ | refine blk_alloc ?_ _)); exact BK144.out⟩, ⟨by repeat (first | (with_reducible first | exact HB.out | apply below_alloc | apply pw_below_drewN | apply below_drew1 | refine below_set ?_ GE144.out) | exact HB.out)⟩⟩
                        · rw [if_neg c46] at H
                          have c46b0 : ((rd_T59 l0 a1).f2) = false := by simpa using c46
                          clear c46
                          have H' := Aside0.mk H
                          clear H
                          have hcz48_0 : wc.cell? ⟨gb144, 0, none⟩ = some (.int .i64 ((rd_T59 l0 a1).f0)) := (blk_cell BK144.out 0).trans rfl
                          have hcz48_1 : wc.cell? ⟨gb144, 1, none⟩ = some (.bool ((rd_T59 l0 a1).f1)) := (blk_cell BK144.out 1).trans rfl
                          have hcz48_2 : wc.cell? ⟨gb144, 2, none⟩ = some (.bool ((rd_T59 l0 a1).f2)) := (blk_cell BK144.out 2).trans rfl
                          have hcz48_3 : wc.cell? ⟨gb144, 3, none⟩ = some (.int .u64 ((rd_T59 l0 a1).f3)) := (blk_cell BK144.out 3).trans rfl
                          have hcz48_4 : wc.cell? ⟨gb144, 4, none⟩ = some (.int .i64 ((rd_T59 l0 a1).f4)) := (blk_cell BK144.out 4).trans rfl
                          have hfz48_0 := blk_frozen BK144.out 0
                          have hfz48_1 := blk_frozen BK144.out 1
                          have hfz48_2 := blk_frozen BK144.out 2
                          have hfz48_3 := blk_frozen BK144.out 3
                          have hfz48_4 := blk_frozen BK144.out 4
                          go_wp2
                          repeat (go_quiet (fail); try go_wp2)
                          go_meet
                          case rel => exact ⟨_, ((((rd_T59 l0 a1).f3) != 0)), (by first | rfl | (simp; done) | (simp [*]; done)), H', ⟨by have := HJ4.out; have := HJ12.out; first | omega | exact Nat.le_refl _⟩, ⟨by (with_reducible repeat (first | refine blk_drewN ?_ _ | refine blk_drew ?_ | refine blk_alloc ?_ _)); exact BK144.out⟩, ⟨by repeat (first | (with_reducible first | exact HB.out | apply below_alloc | apply pw_below_drewN | apply below_drew1 | refine below_set ?_ GE144.out) | exact HB.out)⟩⟩
                      · rw [if_neg c45] at H
                        have c45b0 : (((rd_T59 l0 a1).f4) == 0) = false := beq_eq_false_iff_ne.mpr c45
                        have c45b1 : (((rd_T59 l0 a1).f4) != 0) = true := bne_iff_ne.mpr c45
                        (first | rw [c45b0] | (simp only [i64_w, i32_w, Go.IntKind.wrap_u32]; rw [c45b0]) | skip)
                        have H' := Aside0.mk H
                        clear H
                        have hcz49_0 : wc.cell? ⟨gb144, 0, none⟩ = some (.int .i64 ((rd_T59 l0 a1).f0)) := (blk_cell BK144.out 0).trans rfl
                        have hcz49_1 : wc.cell? ⟨gb144, 1, none⟩ = some (.bool ((rd_T59 l0 a1).f1)) := (blk_cell BK144.out 1).trans rfl
                        have hcz49_2 : wc.cell? ⟨gb144, 2, none⟩ = some (.bool ((rd_T59 l0 a1).f2)) := (blk_cell BK144.out 2).trans rfl
                        have hcz49_3 : wc.cell? ⟨gb144, 3, none⟩ = some (.int .u64 ((rd_T59 l0 a1).f3)) := (blk_cell BK144.out 3).trans rfl
                        have hcz49_4 : wc.cell? ⟨gb144, 4, none⟩ = some (.int .i64 ((rd_T59 l0 a1).f4)) := (blk_cell BK144.out 4).trans rfl
                        have hfz49_0 := blk_frozen BK144.out 0
                        have hfz49_1 := blk_frozen BK144.out 1
                        have hfz49_2 := blk_frozen BK144.out 2
                        have hfz49_3 := blk_frozen BK144.out 3
                        have hfz49_4 := blk_frozen BK144.out 4
                        go_wp2
                        repeat (go_quiet (fail); try go_wp2)
                        go_meet
                        case rel => exact ⟨_, (true), (by first | rfl | (simp; done) | (simp [*]; done)), H', ⟨by have := HJ4.out; have := HJ12.out; first | omega | exact Nat.le_refl _⟩, ⟨by (with_reducible repeat (first | refine blk_drewN ?_ _ | refine blk_drew ?_ | refine blk_alloc ?_ _)); exact BK144.out⟩, ⟨by repeat (first | (with_reducible first | exact HB.out | apply below_alloc | apply pw_below_drewN | apply below_drew1 | refine below_set ?_ GE144.out) | exact HB.out)⟩⟩
                    case rest =>
                      clear HC43
                      try clear c1
                      try clear p1
                      try clear q1
                      try clear hx1
                      try clear c2
                      try clear p2
                      try clear c3
                      try clear c3b0
                      try clear c4
                      try clear c4b0
                      try clear c8
                      try clear c8b0
                      try clear c11
                      try clear c14
                      try clear c14b0
                      try clear p14
                      try clear q14
                      try clear hx14
                      try clear c15
                      try clear c15b0
                      try clear c16
                      try clear c16b0
                      try clear c17
                      try clear c17b0
                      try clear c18
                      try clear c21
                      try clear c21b0
                      try clear c22
                      try clear c22b0
                      try clear c23
                      try clear c23b0
                      try clear c23b1
                      try clear c23b2
                      try clear c25
                      try clear c25b0
                      try clear c25b1
                      try clear c27
                      try clear c27b0
                      try clear c27b1
                      try clear c29
                      try clear c29b0
                      try clear c29b1
                      try clear c32
                      try clear c34
                      try clear c34b0
                      try clear c34b1
                      try clear c36
                      try clear c36b0
                      try clear c39
                      try clear c41
                      try clear c45
                      try clear c45b0
                      try clear c45b1
                      try clear c46
                      try clear c46b0
                      try clear hcz10_0
                      try clear hcz10_1
                      try clear hcz10_2
                      try clear hcz10_3
                      try clear hcz10_4
                      try clear hcz20_0
                      try clear hcz20_1
                      try clear hcz20_2
                      try clear hcz20_3
                      try clear hcz20_4
                      try clear hcz24_0
                      try clear hcz24_1
                      try clear hcz24_2
                      try clear hcz24_3
                      try clear hcz24_4
                      try clear hcz26_0
                      try clear hcz26_1
                      try clear hcz26_2
                      try clear hcz26_3
                      try clear hcz26_4
                      try clear hcz28_0
                      try clear hcz28_1
                      try clear hcz28_2
                      try clear hcz28_3
                      try clear hcz28_4
                      try clear hcz30_0
                      try clear hcz30_1
                      try clear hcz30_2
                      try clear hcz30_3
                      try clear hcz30_4
                      try clear hcz31_0
                      try clear hcz31_1
                      try clear hcz31_2
                      try clear hcz31_3
                      try clear hcz31_4
                      try clear hcz35_0
                      try clear hcz35_1
                      try clear hcz35_2
                      try clear hcz35_3
                      try clear hcz35_4
                      try clear hcz37_0
                      try clear hcz37_1
                      try clear hcz37_2
                      try clear hcz37_3
                      try clear hcz37_4
                      try clear hcz38_0
                      try clear hcz38_1
                      try clear hcz38_2
                      try clear hcz38_3
                      try clear hcz38_4
                      try clear hcz40_0
                      try clear hcz40_1
                      try clear hcz40_2
                      try clear hcz40_3
                      try clear hcz40_4
                      try clear hcz42_0
                      try clear hcz42_1
                      try clear hcz42_2
                      try clear hcz42_3
                      try clear hcz42_4
                      try clear hcz44_0
                      try clear hcz44_1
                      try clear hcz44_2
                      try clear hcz44_3
                      try clear hcz44_4
                      try clear hcz47_0
                      try clear hcz47_1
                      try clear hcz47_2
                      try clear hcz47_3
                      try clear hcz47_4
                      try clear hcz48_0
                      try clear hcz48_1
                      try clear hcz48_2
                      try clear hcz48_3
                      try clear hcz48_4
                      try clear hcz49_0
                      try clear hcz49_1
                      try clear hcz49_2
                      try clear hcz49_3
                      try clear hcz49_4
                      try clear hcz7_0
                      try clear hcz7_1
                      try clear hcz7_2
                      try clear hcz7_3
                      try clear hcz7_4
                      try clear hcz9_0
                      try clear hcz9_1
                      try clear hcz9_2
                      try clear hcz9_3
                      try clear hcz9_4
                      try clear hfz10_0
                      try clear hfz10_1
                      try clear hfz10_2
                      try clear hfz10_3
                      try clear hfz10_4
                      try clear hfz20_0
                      try clear hfz20_1
                      try clear hfz20_2
                      try clear hfz20_3
                      try clear hfz20_4
                      try clear hfz24_0
                      try clear hfz24_1
                      try clear hfz24_2
                      try clear hfz24_3
                      try clear hfz24_4
                      try clear hfz26_0
                      try clear hfz26_1
                      try clear hfz26_2
                      try clear hfz26_3
                      try clear hfz26_4
                      try clear hfz28_0
                      try clear hfz28_1
                      try clear hfz28_2
                      try clear hfz28_3
                      try clear hfz28_4
                      try clear hfz30_0
                      try clear hfz30_1
                      try clear hfz30_2
                      try clear hfz30_3
                      try clear hfz30_4
                      try clear hfz31_0
                      try clear hfz31_1
                      try clear hfz31_2
                      try clear hfz31_3
                      try clear hfz31_4
                      try clear hfz35_0
                      try clear hfz35_1
                      try clear hfz35_2
                      try clear hfz35_3
                      try clear hfz35_4
                      try clear hfz37_0
                      try clear hfz37_1
                      try clear hfz37_2
                      try clear hfz37_3
                      try clear hfz37_4
                      try clear hfz38_0
                      try clear hfz38_1
                      try clear hfz38_2
                      try clear hfz38_3
                      try clear hfz38_4
                      try clear hfz40_0
                      try clear hfz40_1
                      try clear hfz40_2
                      try clear hfz40_3
                      try clear hfz40_4
                      try clear hfz42_0
                      try clear hfz42_1
                      try clear hfz42_2
                      try clear hfz42_3
                      try clear hfz42_4
                      try clear hfz44_0
                      try clear hfz44_1
                      try clear hfz44_2
                      try clear hfz44_3
                      try clear hfz44_4
                      try clear hfz47_0
                      try clear hfz47_1
                      try clear hfz47_2
                      try clear hfz47_3
                      try clear hfz47_4
                      try clear hfz48_0
                      try clear hfz48_1
                      try clear hfz48_2
                      try clear hfz48_3
                      try clear hfz48_4
                      try clear hfz49_0
                      try clear hfz49_1
                      try clear hfz49_2
                      try clear hfz49_3
                      try clear hfz49_4
                      try clear hfz7_0
                      try clear hfz7_1
                      try clear hfz7_2
                      try clear hfz7_3
                      try clear hfz7_4
                      try clear hfz9_0
                      try clear hfz9_1
                      try clear hfz9_2
                      try clear hfz9_3
                      try clear hfz9_4
                      try clear hx143_0
                      try clear hx143_1
                      try clear hx143_2
                      try clear hx143_3
                      try clear hx143_4
                      try clear hx146_0
                      try clear hx146_1
                      try clear hx146_2
                      try clear hx146_3
                      try clear hx146_4
                      try clear hx147_0
                      try clear hx147_1
                      try clear hx147_2
                      try clear hx147_3
                      try clear hx147_4
                      try clear p1
                      try clear p14
                      try clear p143
                      try clear p146
                      try clear p147
                      try clear p2
                      try clear q1
                      try clear q14
                      try clear q143
                      try clear q146
                      try clear q147
                      obtain ⟨kq, x49_42, rfl, HA, HJ42, BK144, HB⟩ := hcut
                      cases kq with
                      | zero => exact absurd HA.out (by simp [hatstandref14_wrong.j2])
                      | succ kj42 =>
                        have H := HA.out
                        clear HA
                        simp only [hatstandref14_wrong.j2] at H
                        by_cases c50 : x49_42 = true
                        · subst c50
                          have H1 : (some 3) = some r := by rw [if_pos rfl] at H; exact H
                          clear H
                          have H := H1
                          clear H1
                          obtain rfl := Option.some.inj H
                          go_wp2
                          repeat (go_quiet (fail); try go_wp2)
                          go_ret
                          exact ⟨by first | rfl | (simp [errW_none, errW_some] <;> rfl) | (simp [*, errW_none, errW_some] <;> rfl), by repeat (first | (with_reducible first | exact HB.out | apply below_alloc | apply pw_below_drewN | apply below_drew1 | refine below_set ?_ GE144.out) | exact HB.out)⟩
                        · replace c50 := Bool.eq_false_iff.mpr c50
                          subst c50
                          have H1 : (some 0) = some r := by rw [if_neg (show ¬ (false = true) by decide)] at H; exact H
                          clear H
                          have H := H1
                          clear H1
                          obtain rfl := Option.some.inj H
                          go_wp2
                          repeat (go_quiet (fail); try go_wp2)
                          go_ret
                          exact ⟨by first | rfl | (simp [errW_none, errW_some] <;> rfl) | (simp [*, errW_none, errW_some] <;> rfl), by repeat (first | (with_reducible first | exact HB.out | apply below_alloc | apply pw_below_drewN | apply below_drew1 | refine below_set ?_ GE144.out) | exact HB.out)⟩
    · rw [if_neg c4] at H
      exact absurd H (by simp)
  · rw [if_neg c3] at H
    exact absurd H (by simp)

end Go.Proofs.Ytmdjmfbinjnlcaa.P
