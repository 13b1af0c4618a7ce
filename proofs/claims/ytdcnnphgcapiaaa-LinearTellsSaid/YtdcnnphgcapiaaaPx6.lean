/- Walks, written by a program for this claim: each Go function that the laws reach comes to what its Lean function says. -/
import Derived.Test.YtdcnnphgcapiaaaPx0
import Derived.Test.YtdcnnphgcapiaaaPx5
namespace Go.Proofs.Ytdcnnphgcapiaaa.P
open Go.RowKit Go.Proofs.YtdcnnphgcapiaaaW.PrintWords Go.Proofs.YtdcnnphgcapiaaaW.PrintLast Go.Proofs.YtdcnnphgcapiaaaW.PrintMore
attribute [local go_sem] max2_int min2_int max_two min_two max_three min_three max_four min_four   -- for this text's walks alone
set_option linter.unusedVariables false
set_option linter.unusedSimpArgs false

/-! ### linear_may: function 24 -/
mutual
def linear_may.l0 : Nat → List (S30) → Int → List Bool → List (S30) → Int → Int → Option (Bool)
  | 0, _, _, _, _, _, _ => none
  | k + 1, x0, x1, x2, x9, x10, x11 => if x11 < x10 then (if 0 ≤ x11 then (if x11 < (x9.length : Int) then (if x11 = x1 then (linear_may.j1 k x0 x1 x2 x9 x10 x11 false) else (if x11 < (x2.length : Int) then (if rdOf false x2 x11 = true then (linear_may.j1 k x0 x1 x2 x9 x10 x11 false) else (if 0 ≤ x1 then (if x1 < (x0.length : Int) then ((history_Ahead.f ((rd_T30 x9 x11).f0) ((rd_T30 x9 x11).f1) ((rd_T30 x9 x11).f2) ((rd_T30 x9 x11).f3) ((rd_T30 x9 x11).f4) ((rd_T30 x9 x11).f5) ((rd_T30 x0 x1).f0) ((rd_T30 x0 x1).f1) ((rd_T30 x0 x1).f2) ((rd_T30 x0 x1).f3) ((rd_T30 x0 x1).f4) ((rd_T30 x0 x1).f5)).bind fun t153 => (linear_may.j1 k x0 x1 x2 x9 x10 x11 t153)) else (none)) else (none))) else (none))) else (none)) else (none)) else (if 0 ≤ x1 then (if x1 < (x2.length : Int) then (some (!(rdOf false x2 x1))) else (none)) else (none))
def linear_may.j1 : Nat → List (S30) → Int → List Bool → List (S30) → Int → Int → Bool → Option (Bool)
  | 0, _, _, _, _, _, _, _ => none
  | k + 1, x0, x1, x2, x9, x10, x11, x33 => if x33 = true then (some false) else (linear_may.l0 k x0 x1 x2 x9 x10 (wrap64 (x11 + 1)))
end
def linear_may.f (k : Nat) (l0 : List (S30)) (a1 : Int) (l2 : List Bool) : Option (Bool) := linear_may.l0 k l0 a1 l2 l0 (l0.length : Int) 0
theorem linear_may.mono_l : ∀ k, (∀ y0 y1 y2 y3 y4 y5, LeO (linear_may.l0 k y0 y1 y2 y3 y4 y5) (linear_may.l0 (k + 1) y0 y1 y2 y3 y4 y5)) ∧ (∀ y0 y1 y2 y3 y4 y5 y6, LeO (linear_may.j1 k y0 y1 y2 y3 y4 y5 y6) (linear_may.j1 (k + 1) y0 y1 y2 y3 y4 y5 y6))
  | 0 => ⟨fun _ _ _ _ _ _ r h => by simp [linear_may.l0] at h, fun _ _ _ _ _ _ _ r h => by simp [linear_may.j1] at h⟩
  | k + 1 => by
    obtain ⟨ih0, ih1⟩ := linear_may.mono_l k
    refine ⟨?_, ?_⟩
    · intro y0 y1 y2 y3 y4 y5
      unfold linear_may.l0
      repeat' first
      | (with_reducible exact ih0 _ _ _ _ _ _)
      | (with_reducible exact ih1 _ _ _ _ _ _ _)
      | (with_reducible exact LeO.refl _)
      | (with_reducible exact LeO.none _)
      | (with_reducible refine LeO.ite ?_ ?_)
      | (with_reducible refine LeO.bind ?_ (fun _ => ?_))
      | exact ih0 _ _ _ _ _ _
      | exact ih1 _ _ _ _ _ _ _
      | exact LeO.none _
      | refine LeO.ite ?_ ?_
      | refine LeO.bind ?_ (fun _ => ?_)
    · intro y0 y1 y2 y3 y4 y5 y6
      unfold linear_may.j1
      repeat' first
      | (with_reducible exact ih0 _ _ _ _ _ _)
      | (with_reducible exact ih1 _ _ _ _ _ _ _)
      | (with_reducible exact LeO.refl _)
      | (with_reducible exact LeO.none _)
      | (with_reducible refine LeO.ite ?_ ?_)
      | (with_reducible refine LeO.bind ?_ (fun _ => ?_))
      | exact ih0 _ _ _ _ _ _
      | exact ih1 _ _ _ _ _ _ _
      | exact LeO.none _
      | refine LeO.ite ?_ ?_
      | refine LeO.bind ?_ (fun _ => ?_)
theorem linear_may.mono : ∀ a0 a1 a2 k, LeO (linear_may.f k a0 a1 a2) (linear_may.f (k + 1) a0 a1 a2) := by
  intro a0 a1 a2 k
  obtain ⟨ih0, ih1⟩ := linear_may.mono_l k
  unfold linear_may.f
  repeat' first
      | (with_reducible exact ih0 _ _ _ _ _ _)
      | (with_reducible exact ih1 _ _ _ _ _ _ _)
      | (with_reducible exact LeO.refl _)
      | (with_reducible exact LeO.none _)
      | (with_reducible refine LeO.ite ?_ ?_)
      | (with_reducible refine LeO.bind ?_ (fun _ => ?_))
      | exact ih0 _ _ _ _ _ _
      | exact ih1 _ _ _ _ _ _ _
      | exact LeO.none _
      | refine LeO.ite ?_ ?_
      | refine LeO.bind ?_ (fun _ => ?_)
def linear_may.T4 : Bool × List (List Nat × List Nat) := (true, [([], []), ([], []), ([0, 1], [0, 1]), ([2], [2]), ([3], [3]), ([3], [3]), ([4, 5, 3], [3, 4, 5]), ([6, 3], [3, 6]), ([7, 3], [3, 7]), ([3, 8], [3, 8]), ([9, 3], [9]), ([10], [10]), ([10], [10]), ([10], [10]), ([12, 13, 10], [10, 12, 13]), ([14, 10], [10, 14]), ([11, 15, 10, 10], [10, 11, 15]), ([10, 16], [10, 16])])
def linear_may.B4 : List Nat := [0, 0, 3, 7, 15, 15, 63, 127, 255, 511, 1023, 2047, 2047, 2047, 14335, 30719, 65535, 131071]
theorem linear_may.tab4 : rtab .any (opsOf Try.f24 4) = linear_may.T4 := by kernel_rfl
theorem linear_may.bits4 : waitsOk linear_may.T4.2 linear_may.B4 = true := by kernel_rfl
set_option maxHeartbeats 8000000 in
set_option maxRecDepth 100000 in
theorem linear_may.calls (k : Nat) (A0 : Option Addr) (c0 : Nat) (l0 : List (S30)) (a1 : Int) (A2 : Option Addr) (c2 : Nat) (l2 : List Bool) (r : Bool) (w : World) (hr0 : Kd.C k30 w A0 l0.length l0) (hc0 : l0.length ≤ c0) (hr2 : Kd.C Kd.bool w A2 l2.length l2) (hc2 : l2.length ≤ c2) (h : linear_may.f k l0 a1 l2 = some r) :
    Calls Try.prog 24 #[.slice A0 l0.length c0, .int .i64 a1, .slice A2 l2.length c2] w fun e w' => e = .returned (.bool r) ∧ Below w.heap.size w w' := by
  have hu30 := Try.underlying30
  have HR0 := Aside0.mk hr0
  have HC0 := Aside0.mk hc0
  clear hr0 hc0
  have HR2 := Aside0.mk hr2
  have HC2 := Aside0.mk hc2
  clear hr2 hc2
  have HB := Aside0.mk (Below.refl w.heap.size w)
  have H : (linear_may.l0 k l0 a1 l2 l0 (l0.length : Int) 0) = some r := h
  clear h
  have H' := Aside0.mk H
  clear H
  go_enter Try.func24, Try.ntmps24
  go_wp2
  go_loopg [11] k (fun kq v11 w' => ∃ (x11_1 : Int), v11 = .int .i64 x11_1 ∧ Aside0 (linear_may.l0 kq l0 a1 l2 l0 (l0.length : Int) x11_1 = some r) ∧ Aside0 (kq ≤ k) ∧ Aside0 (Below w.heap.size w w'))
  case atStart => exact ⟨(0), (by first | rfl | (simp; done) | (simp [*]; done)), H', ⟨Nat.le_refl _⟩, ⟨by repeat (first | (with_reducible first | exact HB.out | apply below_alloc | apply pw_below_drewN | apply below_drew1) | exact HB.out)⟩⟩
  case round =>
    clear H'
    try clear c2
    try clear p2
    obtain ⟨x11_1, rfl, HA, HK1, HB⟩ := hrel
    cases gk with
    | zero => exact absurd HA.out (by simp [linear_may.l0])
    | succ k1 =>
      have H := HA.out
      clear HA
      simp only [linear_may.l0] at H
      by_cases c4 : x11_1 < (l0.length : Int)
      · rw [if_pos c4] at H
        have c4b0 : decide (x11_1 < (l0.length : Int)) = true := decide_eq_true c4
        clear c4
        by_cases c5 : 0 ≤ x11_1
        · rw [if_pos c5] at H
          have c5b0 : decide (0 ≤ x11_1) = true := decide_eq_true c5
          clear c5
          by_cases c6 : x11_1 < (l0.length : Int)
          · rw [if_pos c6] at H
            have c6b0 : decide (x11_1 < (l0.length : Int)) = true := decide_eq_true c6
            clear c6
            have HC7 := Aside0.mk H
            clear H
            have p149 : 0 ≤ (x11_1 : Int) := of_decide_eq_true (by first | (with_reducible assumption) | assumption)
            have q149 : x11_1 < (l0.length : Int) := of_decide_eq_true (by first | (with_reducible assumption) | assumption)
            obtain ⟨ad149, e149, hx149_0, hx149_1, hx149_2, hx149_3, hx149_4, hx149_5⟩ := at_T30 HR0.out x11_1 p149 q149
            cases e149
            replace hx149_0 := (HB.out.cell (World.block_lt_of_cell? w _ hx149_0)).trans hx149_0
            replace hx149_1 := (HB.out.cell (World.block_lt_of_cell? w _ hx149_1)).trans hx149_1
            replace hx149_2 := (HB.out.cell (World.block_lt_of_cell? w _ hx149_2)).trans hx149_2
            replace hx149_3 := (HB.out.cell (World.block_lt_of_cell? w _ hx149_3)).trans hx149_3
            replace hx149_4 := (HB.out.cell (World.block_lt_of_cell? w _ hx149_4)).trans hx149_4
            replace hx149_5 := (HB.out.cell (World.block_lt_of_cell? w _ hx149_5)).trans hx149_5
            replace p149 := eq_true p149
            replace q149 := eq_true q149
            go_upto_region 4 with (first | ((with_reducible refine gate_dst (N := 8) rfl ?_); refine box_event ?hg (N := 8) ?hd (cs := #[.int .i64 0, .bool false, .int .u64 0, .int .i64 0, .int .i64 0, .int .i64 0]) (t := 30) ?hr ?_; (case hd => rfl); (case hg => rfl); (case hr => first | (go_simp; done) | (go_simp; rfl)); intro gb150 hg w8 hbox hb; have n0_ := Aside0.mk (below_step (by repeat (first | (with_reducible first | exact HB.out | apply below_alloc | apply pw_below_drewN | apply below_drew1) | exact HB.out)) hb); have n1_ := Aside0.mk (hbox); have n2_ := Aside0.mk ((by rw [hg]; exact (below_size (by repeat (first | (with_reducible first | exact HB.out | apply below_alloc | apply pw_below_drewN | apply below_drew1) | exact HB.out))) : w.heap.size ≤ gb150)); have n3_ := Aside0.mk ((by rw [hg]; exact (below_size (by repeat (first | (with_reducible first | exact HB.out | apply below_alloc | apply pw_below_drewN | apply below_drew1) | exact HB.out))) : w.heap.size ≤ gb150)); clear HB; have HB := n0_; have BK150 := n1_; have GW150 := n2_; have GE150 := n3_; clear n0_ n1_ n2_ n3_; clear hb hbox hg; have hcz9_0 : w8.cell? ⟨gb150, 0, none⟩ = some (.int .i64 0) := (blk_cell BK150.out 0).trans rfl; have hcz9_1 : w8.cell? ⟨gb150, 1, none⟩ = some (.bool false) := (blk_cell BK150.out 1).trans rfl; have hcz9_2 : w8.cell? ⟨gb150, 2, none⟩ = some (.int .u64 0) := (blk_cell BK150.out 2).trans rfl; have hcz9_3 : w8.cell? ⟨gb150, 3, none⟩ = some (.int .i64 0) := (blk_cell BK150.out 3).trans rfl; have hcz9_4 : w8.cell? ⟨gb150, 4, none⟩ = some (.int .i64 0) := (blk_cell BK150.out 4).trans rfl; have hcz9_5 : w8.cell? ⟨gb150, 5, none⟩ = some (.int .i64 0) := (blk_cell BK150.out 5).trans rfl; have hfz9_0 := blk_frozen BK150.out 0; have hfz9_1 := blk_frozen BK150.out 1; have hfz9_2 := blk_frozen BK150.out 2; have hfz9_3 := blk_frozen BK150.out 3; have hfz9_4 := blk_frozen BK150.out 4; have hfz9_5 := blk_frozen BK150.out 5))
            (try simp only [Act.put, List.setIfInBounds_toArray, List.set_cons_zero, List.set_cons_succ])
            go_cut [33] (fun v33 wc => ∃ (kq : Nat) (x33_6 : Bool), v33 = .bool x33_6 ∧ Aside0 (linear_may.j1 kq l0 a1 l2 l0 (l0.length : Int) x11_1 x33_6 = some r) ∧ Aside0 (kq ≤ k1) ∧ Aside0 (wc.heap[gb150]? = some (.cells #[.int .i64 ((rd_T30 l0 x11_1).f0), .bool ((rd_T30 l0 x11_1).f1), .int .u64 ((rd_T30 l0 x11_1).f2), .int .i64 ((rd_T30 l0 x11_1).f3), .int .i64 ((rd_T30 l0 x11_1).f4), .int .i64 ((rd_T30 l0 x11_1).f5)] 30 (0, 0))) ∧ Aside0 (Below w.heap.size w wc))
            case first =>
              have H := HC7.out
              clear HC7
              by_cases c10 : x11_1 = a1
              · rw [if_pos c10] at H
                have c10b0 : (x11_1 == a1) = true := beq_iff_eq.mpr c10
                have c10b1 : (x11_1 != a1) = false := bne_eq_false_iff_eq.mpr c10
                clear c10
                (first | rw [c10b0] | (simp only [i64_w, i32_w, Go.IntKind.wrap_u32]; rw [c10b0]) | skip)
                have H' := Aside0.mk H
                clear H
                try go_wp2
                have n0_ : Aside0 (((((((w8.setCell ⟨gb150, 0, none⟩ (.int .i64 ((rd_T30 l0 x11_1).f0))).setCell ⟨gb150, 1, none⟩ (.bool ((rd_T30 l0 x11_1).f1))).setCell ⟨gb150, 2, none⟩ (.int .u64 ((rd_T30 l0 x11_1).f2))).setCell ⟨gb150, 3, none⟩ (.int .i64 ((rd_T30 l0 x11_1).f3))).setCell ⟨gb150, 4, none⟩ (.int .i64 ((rd_T30 l0 x11_1).f4))).setCell ⟨gb150, 5, none⟩ (.int .i64 ((rd_T30 l0 x11_1).f5))).heap[gb150]? = some (.cells #[.int .i64 ((rd_T30 l0 x11_1).f0), .bool ((rd_T30 l0 x11_1).f1), .int .u64 ((rd_T30 l0 x11_1).f2), .int .i64 ((rd_T30 l0 x11_1).f3), .int .i64 ((rd_T30 l0 x11_1).f4), .int .i64 ((rd_T30 l0 x11_1).f5)] 30 (0, 0))) := ⟨by (with_reducible repeat (first | refine blk_drewN ?_ _ | refine blk_drew ?_ | refine blk_alloc ?_ _)); refine blk_put (cs := #[.int .i64 ((rd_T30 l0 x11_1).f0), .bool ((rd_T30 l0 x11_1).f1), .int .u64 ((rd_T30 l0 x11_1).f2), .int .i64 ((rd_T30 l0 x11_1).f3), .int .i64 ((rd_T30 l0 x11_1).f4), .int .i64 0]) ?_ 5 _ rfl; (with_reducible repeat (first | refine blk_drewN ?_ _ | refine blk_drew ?_ | refine blk_alloc ?_ _)); refine blk_put (cs := #[.int .i64 ((rd_T30 l0 x11_1).f0), .bool ((rd_T30 l0 x11_1).f1), .int .u64 ((rd_T30 l0 x11_1).f2), .int .i64 ((rd_T30 l0 x11_1).f3), .int .i64 0, .int .i64 0]) ?_ 4 _ rfl; (with_reducible repeat (first | refine blk_drewN ?_ _ | refine blk_drew ?_ | refine blk_alloc ?_ _)); refine blk_put (cs := #[.int .i64 ((rd_T30 l0 x11_1).f0), .bool ((rd_T30 l0 x11_1).f1), .int .u64 ((rd_T30 l0 x11_1).f2), .int .i64 0, .int .i64 0, .int .i64 0]) ?_ 3 _ rfl; (with_reducible repeat (first | refine blk_drewN ?_ _ | refine blk_drew ?_ | refine blk_alloc ?_ _)); refine blk_put (cs := #[.int .i64 ((rd_T30 l0 x11_1).f0), .bool ((rd_T30 l0 x11_1).f1), .int .u64 0, .int .i64 0, .int .i64 0, .int .i64 0]) ?_ 2 _ rfl; (with_reducible repeat (first | refine blk_drewN ?_ _ | refine blk_drew ?_ | refine blk_alloc ?_ _)); refine blk_put (cs := #[.int .i64 ((rd_T30 l0 x11_1).f0), .bool false, .int .u64 0, .int .i64 0, .int .i64 0, .int .i64 0]) ?_ 1 _ rfl; (with_reducible repeat (first | refine blk_drewN ?_ _ | refine blk_drew ?_ | refine blk_alloc ?_ _)); refine blk_put (cs := #[.int .i64 0, .bool false, .int .u64 0, .int .i64 0, .int .i64 0, .int .i64 0]) ?_ 0 _ rfl; (with_reducible repeat (first | refine blk_drewN ?_ _ | refine blk_drew ?_ | refine blk_alloc ?_ _)); exact BK150.out⟩
                have n1_ : Aside0 (Below w.heap.size w ((((((w8.setCell ⟨gb150, 0, none⟩ (.int .i64 ((rd_T30 l0 x11_1).f0))).setCell ⟨gb150, 1, none⟩ (.bool ((rd_T30 l0 x11_1).f1))).setCell ⟨gb150, 2, none⟩ (.int .u64 ((rd_T30 l0 x11_1).f2))).setCell ⟨gb150, 3, none⟩ (.int .i64 ((rd_T30 l0 x11_1).f3))).setCell ⟨gb150, 4, none⟩ (.int .i64 ((rd_T30 l0 x11_1).f4))).setCell ⟨gb150, 5, none⟩ (.int .i64 ((rd_T30 l0 x11_1).f5)))) := ⟨by repeat (first | (with_reducible first | exact HB.out | apply below_alloc | apply pw_below_drewN | apply below_drew1 | refine below_set ?_ GE150.out) | exact HB.out)⟩
                (try clear BK150)
                (try clear HB)
                generalize ((((((w8.setCell ⟨gb150, 0, none⟩ (.int .i64 ((rd_T30 l0 x11_1).f0))).setCell ⟨gb150, 1, none⟩ (.bool ((rd_T30 l0 x11_1).f1))).setCell ⟨gb150, 2, none⟩ (.int .u64 ((rd_T30 l0 x11_1).f2))).setCell ⟨gb150, 3, none⟩ (.int .i64 ((rd_T30 l0 x11_1).f3))).setCell ⟨gb150, 4, none⟩ (.int .i64 ((rd_T30 l0 x11_1).f4))).setCell ⟨gb150, 5, none⟩ (.int .i64 ((rd_T30 l0 x11_1).f5))) = w11 at n0_ n1_ ⊢
                have BK150 := n0_
                have HB := n1_
                clear n0_ n1_
                have n0_ := Aside0.mk (blk_drew BK150.out)
                have n1_ := Aside0.mk (below_drew1 HB.out)
                clear BK150
                clear HB
                have BK150 := n0_
                have HB := n1_
                clear n0_ n1_
                refine start_ (n := 18) (S := fun w' => True) (ds := []) #[false, false, false, false, false, false, false, false, false, false, false, false, false, false, false, false, false, false] (by kernel_rfl) rfl rfl trivial (fun hHeld => ?_); refine with_tabW linear_may.tab4 linear_may.bits4 (fun HT_ HW_ => ?_)
                generalize w11.drew = w12 at BK150 HB hHeld ⊢
                refine pure_ (i := 0) (N := some 16) (v := ?_) (a' := ?_) #[true, false, false, false, false, false, false, false, false, false, false, false, false, false, false, false, false, false] rfl rfl (any_of HT_.out (by kernel_rfl)) (fun _ _ _ h => h) (Or.inl ⟨by rfl, ?_⟩) ?_ ?_
                rotate_left
                · intro w'
                  go_simp
                  with_reducible rfl
                rotate_left
                · simp only [Act.put, List.setIfInBounds_toArray, List.set_cons_zero, List.set_cons_succ, i64_w, i32_w, Go.IntKind.wrap_u32]
                  rfl
                refine pure_ (i := 1) (N := some 17) (v := ?_) (a' := ?_) #[true, true, false, false, false, false, false, false, false, false, false, false, false, false, false, false, false, false] rfl rfl (any_of HT_.out (by kernel_rfl)) (fun _ _ _ h => h) (Or.inl ⟨by rfl, ?_⟩) ?_ ?_
                rotate_left
                · intro w'
                  go_simp
                  with_reducible rfl
                rotate_left
                · simp only [Act.put, List.setIfInBounds_toArray, List.set_cons_zero, List.set_cons_succ, i64_w, i32_w, Go.IntKind.wrap_u32]
                  rfl
                refine pure_ (i := 2) (N := some 18) (v := ?_) (a' := ?_) #[true, true, true, false, false, false, false, false, false, false, false, false, false, false, false, false, false, false] rfl rfl (any_of HT_.out (by kernel_rfl)) (fun _ _ _ h => h) (Or.inl ⟨by rfl, ?_⟩) ?_ ?_
                rotate_left
                · intro w'
                  go_simp
                  with_reducible rfl
                rotate_left
                · simp only [Act.put, List.setIfInBounds_toArray, List.set_cons_zero, List.set_cons_succ, i64_w, i32_w, Go.IntKind.wrap_u32]
                  rfl
                refine pure_ (i := 3) (N := some 19) (v := ?_) (a' := ?_) #[true, true, true, true, false, false, false, false, false, false, false, false, false, false, false, false, false, false] rfl rfl (any_of HT_.out (by kernel_rfl)) (fun _ _ _ h => h) (Or.inl ⟨by rfl, ?_⟩) ?_ ?_
                rotate_left
                · intro w'
                  go_simp
                  with_reducible rfl
                rotate_left
                · simp only [Act.put, List.setIfInBounds_toArray, List.set_cons_zero, List.set_cons_succ, i64_w, i32_w, Go.IntKind.wrap_u32]
                  rfl
                refine pure_ (i := 4) (N := some 20) (v := undef) (a' := ?_) #[true, true, true, true, true, false, false, false, false, false, false, false, false, false, false, false, false, false] rfl rfl (any_of HT_.out (by kernel_rfl)) (fun _ _ _ h => h) (Or.inr ⟨by rfl, rfl⟩) ?_ ?_
                rotate_left
                · simp only [Act.put, List.setIfInBounds_toArray, List.set_cons_zero, List.set_cons_succ, i64_w, i32_w, Go.IntKind.wrap_u32]
                  rfl
                refine pure_ (i := 5) (N := some 21) (v := undef) (a' := ?_) #[true, true, true, true, true, true, false, false, false, false, false, false, false, false, false, false, false, false] rfl rfl (any_of HT_.out (by kernel_rfl)) (fun _ _ _ h => h) (Or.inr ⟨by rfl, rfl⟩) ?_ ?_
                rotate_left
                · simp only [Act.put, List.setIfInBounds_toArray, List.set_cons_zero, List.set_cons_succ, i64_w, i32_w, Go.IntKind.wrap_u32]
                  rfl
                refine pure_ (i := 6) (N := some 22) (v := undef) (a' := ?_) #[true, true, true, true, true, true, true, false, false, false, false, false, false, false, false, false, false, false] rfl rfl (any_of HT_.out (by kernel_rfl)) (fun _ _ _ h => h) (Or.inr ⟨by rfl, rfl⟩) ?_ ?_
                rotate_left
                · simp only [Act.put, List.setIfInBounds_toArray, List.set_cons_zero, List.set_cons_succ, i64_w, i32_w, Go.IntKind.wrap_u32]
                  rfl
                refine pure_ (i := 7) (N := some 23) (v := undef) (a' := ?_) #[true, true, true, true, true, true, true, true, false, false, false, false, false, false, false, false, false, false] rfl rfl (any_of HT_.out (by kernel_rfl)) (fun _ _ _ h => h) (Or.inr ⟨by rfl, rfl⟩) ?_ ?_
                rotate_left
                · simp only [Act.put, List.setIfInBounds_toArray, List.set_cons_zero, List.set_cons_succ, i64_w, i32_w, Go.IntKind.wrap_u32]
                  rfl
                refine pure_ (i := 8) (N := some 24) (v := undef) (a' := ?_) #[true, true, true, true, true, true, true, true, true, false, false, false, false, false, false, false, false, false] rfl rfl (any_of HT_.out (by kernel_rfl)) (fun _ _ _ h => h) (Or.inr ⟨by rfl, rfl⟩) ?_ ?_
                rotate_left
                · simp only [Act.put, List.setIfInBounds_toArray, List.set_cons_zero, List.set_cons_succ, i64_w, i32_w, Go.IntKind.wrap_u32]
                  rfl
                refine pure_ (i := 9) (N := some 25) (v := ?_) (a' := ?_) #[true, true, true, true, true, true, true, true, true, true, false, false, false, false, false, false, false, false] rfl rfl (any_of HT_.out (by kernel_rfl)) (fun _ _ _ h => h) (Or.inl ⟨by rfl, ?_⟩) ?_ ?_
                rotate_left
                · intro w'
                  go_simp
                  with_reducible rfl
                rotate_left
                · simp only [Act.put, List.setIfInBounds_toArray, List.set_cons_zero, List.set_cons_succ, i64_w, i32_w, Go.IntKind.wrap_u32]
                  rfl
                refine pure_ (i := 10) (N := some 26) (v := ?_) (a' := ?_) #[true, true, true, true, true, true, true, true, true, true, true, false, false, false, false, false, false, false] rfl rfl (any_of HT_.out (by kernel_rfl)) (fun _ _ _ h => h) (Or.inl ⟨by rfl, ?_⟩) ?_ ?_
                rotate_left
                · intro w'
                  go_simp
                  with_reducible rfl
                rotate_left
                · simp only [Act.put, List.setIfInBounds_toArray, List.set_cons_zero, List.set_cons_succ, i64_w, i32_w, Go.IntKind.wrap_u32]
                  rfl
                refine pure_ (i := 11) (N := some 27) (v := undef) (a' := ?_) #[true, true, true, true, true, true, true, true, true, true, true, true, false, false, false, false, false, false] rfl rfl (any_of HT_.out (by kernel_rfl)) (fun _ _ _ h => h) (Or.inr ⟨by rfl, rfl⟩) ?_ ?_
                rotate_left
                · simp only [Act.put, List.setIfInBounds_toArray, List.set_cons_zero, List.set_cons_succ, i64_w, i32_w, Go.IntKind.wrap_u32]
                  rfl
                refine pure_ (i := 12) (N := some 28) (v := undef) (a' := ?_) #[true, true, true, true, true, true, true, true, true, true, true, true, true, false, false, false, false, false] rfl rfl (any_of HT_.out (by kernel_rfl)) (fun _ _ _ h => h) (Or.inr ⟨by rfl, rfl⟩) ?_ ?_
                rotate_left
                · simp only [Act.put, List.setIfInBounds_toArray, List.set_cons_zero, List.set_cons_succ, i64_w, i32_w, Go.IntKind.wrap_u32]
                  rfl
                refine pure_ (i := 13) (N := some 29) (v := undef) (a' := ?_) #[true, true, true, true, true, true, true, true, true, true, true, true, true, true, false, false, false, false] rfl rfl (any_of HT_.out (by kernel_rfl)) (fun _ _ _ h => h) (Or.inr ⟨by rfl, rfl⟩) ?_ ?_
                rotate_left
                · simp only [Act.put, List.setIfInBounds_toArray, List.set_cons_zero, List.set_cons_succ, i64_w, i32_w, Go.IntKind.wrap_u32]
                  rfl
                refine pure_ (i := 14) (N := some 30) (v := undef) (a' := ?_) #[true, true, true, true, true, true, true, true, true, true, true, true, true, true, true, false, false, false] rfl rfl (any_of HT_.out (by kernel_rfl)) (fun _ _ _ h => h) (Or.inr ⟨by rfl, rfl⟩) ?_ ?_
                rotate_left
                · simp only [Act.put, List.setIfInBounds_toArray, List.set_cons_zero, List.set_cons_succ, i64_w, i32_w, Go.IntKind.wrap_u32]
                  rfl
                refine pure_ (i := 15) (N := some 31) (v := undef) (a' := ?_) #[true, true, true, true, true, true, true, true, true, true, true, true, true, true, true, true, false, false] rfl rfl (any_of HT_.out (by kernel_rfl)) (fun _ _ _ h => h) (Or.inr ⟨by rfl, rfl⟩) ?_ ?_
                rotate_left
                · simp only [Act.put, List.setIfInBounds_toArray, List.set_cons_zero, List.set_cons_succ, i64_w, i32_w, Go.IntKind.wrap_u32]
                  rfl
                refine pure_ (i := 16) (N := some 32) (v := undef) (a' := ?_) #[true, true, true, true, true, true, true, true, true, true, true, true, true, true, true, true, true, false] rfl rfl (any_of HT_.out (by kernel_rfl)) (fun _ _ _ h => h) (Or.inr ⟨by rfl, rfl⟩) ?_ ?_
                rotate_left
                · simp only [Act.put, List.setIfInBounds_toArray, List.set_cons_zero, List.set_cons_succ, i64_w, i32_w, Go.IntKind.wrap_u32]
                  rfl
                refine pure_ (i := 17) (N := some 33) (v := ?_) (a' := ?_) #[true, true, true, true, true, true, true, true, true, true, true, true, true, true, true, true, true, true] rfl rfl (any_of HT_.out (by kernel_rfl)) (fun _ _ _ h => h) (Or.inl ⟨by rfl, ?_⟩) ?_ ?_
                rotate_left
                · intro w'
                  go_simp
                  with_reducible rfl
                rotate_left
                · simp only [Act.put, List.setIfInBounds_toArray, List.set_cons_zero, List.set_cons_succ, i64_w, i32_w, Go.IntKind.wrap_u32]
                  rfl
                refine done_ (done_of HT_.out (by kernel_rfl)) ?_
                try go_wp2
                go_meet
                case rel => exact ⟨_, (false), (by first | rfl | (simp; done) | (simp [*]; done)), H', ⟨by have := HK1.out; first | omega | exact Nat.le_refl _⟩, ⟨by (with_reducible repeat (first | refine blk_drewN ?_ _ | refine blk_drew ?_ | refine blk_alloc ?_ _)); exact BK150.out⟩, ⟨by repeat (first | (with_reducible first | exact HB.out | apply below_alloc | apply pw_below_drewN | apply below_drew1 | refine below_set ?_ GE150.out) | exact HB.out)⟩⟩
              · rw [if_neg c10] at H
                have c10b0 : (x11_1 == a1) = false := beq_eq_false_iff_ne.mpr c10
                have c10b1 : (x11_1 != a1) = true := bne_iff_ne.mpr c10
                (first | rw [c10b0] | (simp only [i64_w, i32_w, Go.IntKind.wrap_u32]; rw [c10b0]) | skip)
                by_cases c13 : x11_1 < (l2.length : Int)
                · rw [if_pos c13] at H
                  have c13b0 : decide (x11_1 < (l2.length : Int)) = true := decide_eq_true c13
                  clear c13
                  obtain ⟨bq14, hbq14⟩ : ∃ b_ : Bool, b_ = (rdOf false l2 x11_1) := ⟨_, rfl⟩
                  replace H : (if bq14 = true then (linear_may.j1 k1 l0 a1 l2 l0 (l0.length : Int) x11_1 false) else (if 0 ≤ a1 then (if a1 < (l0.length : Int) then ((history_Ahead.f ((rd_T30 l0 x11_1).f0) ((rd_T30 l0 x11_1).f1) ((rd_T30 l0 x11_1).f2) ((rd_T30 l0 x11_1).f3) ((rd_T30 l0 x11_1).f4) ((rd_T30 l0 x11_1).f5) ((rd_T30 l0 a1).f0) ((rd_T30 l0 a1).f1) ((rd_T30 l0 a1).f2) ((rd_T30 l0 a1).f3) ((rd_T30 l0 a1).f4) ((rd_T30 l0 a1).f5)).bind fun t153 => (linear_may.j1 k1 l0 a1 l2 l0 (l0.length : Int) x11_1 t153)) else (none)) else (none))) = some r := by rw [← hbq14] at H; exact H
                  have Nbq14 := Aside0.mk hbq14
                  clear hbq14
                  by_cases c15 : bq14 = true
                  · subst c15
                    have H1 : (linear_may.j1 k1 l0 a1 l2 l0 (l0.length : Int) x11_1 false) = some r := by rw [if_pos rfl] at H; exact H
                    clear H
                    have H := H1
                    clear H1
                    have H' := Aside0.mk H
                    clear H
                    try go_wp2
                    have n0_ : Aside0 (((((((w8.setCell ⟨gb150, 0, none⟩ (.int .i64 ((rd_T30 l0 x11_1).f0))).setCell ⟨gb150, 1, none⟩ (.bool ((rd_T30 l0 x11_1).f1))).setCell ⟨gb150, 2, none⟩ (.int .u64 ((rd_T30 l0 x11_1).f2))).setCell ⟨gb150, 3, none⟩ (.int .i64 ((rd_T30 l0 x11_1).f3))).setCell ⟨gb150, 4, none⟩ (.int .i64 ((rd_T30 l0 x11_1).f4))).setCell ⟨gb150, 5, none⟩ (.int .i64 ((rd_T30 l0 x11_1).f5))).heap[gb150]? = some (.cells #[.int .i64 ((rd_T30 l0 x11_1).f0), .bool ((rd_T30 l0 x11_1).f1), .int .u64 ((rd_T30 l0 x11_1).f2), .int .i64 ((rd_T30 l0 x11_1).f3), .int .i64 ((rd_T30 l0 x11_1).f4), .int .i64 ((rd_T30 l0 x11_1).f5)] 30 (0, 0))) := ⟨by (with_reducible repeat (first | refine blk_drewN ?_ _ | refine blk_drew ?_ | refine blk_alloc ?_ _)); refine blk_put (cs := #[.int .i64 ((rd_T30 l0 x11_1).f0), .bool ((rd_T30 l0 x11_1).f1), .int .u64 ((rd_T30 l0 x11_1).f2), .int .i64 ((rd_T30 l0 x11_1).f3), .int .i64 ((rd_T30 l0 x11_1).f4), .int .i64 0]) ?_ 5 _ rfl; (with_reducible repeat (first | refine blk_drewN ?_ _ | refine blk_drew ?_ | refine blk_alloc ?_ _)); refine blk_put (cs := #[.int .i64 ((rd_T30 l0 x11_1).f0), .bool ((rd_T30 l0 x11_1).f1), .int .u64 ((rd_T30 l0 x11_1).f2), .int .i64 ((rd_T30 l0 x11_1).f3), .int .i64 0, .int .i64 0]) ?_ 4 _ rfl; (with_reducible repeat (first | refine blk_drewN ?_ _ | refine blk_drew ?_ | refine blk_alloc ?_ _)); refine blk_put (cs := #[.int .i64 ((rd_T30 l0 x11_1).f0), .bool ((rd_T30 l0 x11_1).f1), .int .u64 ((rd_T30 l0 x11_1).f2), .int .i64 0, .int .i64 0, .int .i64 0]) ?_ 3 _ rfl; (with_reducible repeat (first | refine blk_drewN ?_ _ | refine blk_drew ?_ | refine blk_alloc ?_ _)); refine blk_put (cs := #[.int .i64 ((rd_T30 l0 x11_1).f0), .bool ((rd_T30 l0 x11_1).f1), .int .u64 0, .int .i64 0, .int .i64 0, .int .i64 0]) ?_ 2 _ rfl; (with_reducible repeat (first | refine blk_drewN ?_ _ | refine blk_drew ?_ | refine blk_alloc ?_ _)); refine blk_put (cs := #[.int .i64 ((rd_T30 l0 x11_1).f0), .bool false, .int .u64 0, .int .i64 0, .int .i64 0, .int .i64 0]) ?_ 1 _ rfl; (with_reducible repeat (first | refine blk_drewN ?_ _ | refine blk_drew ?_ | refine blk_alloc ?_ _)); refine blk_put (cs := #[.int .i64 0, .bool false, .int .u64 0, .int .i64 0, .int .i64 0, .int .i64 0]) ?_ 0 _ rfl; (with_reducible repeat (first | refine blk_drewN ?_ _ | refine blk_drew ?_ | refine blk_alloc ?_ _)); exact BK150.out⟩
                    have n1_ : Aside0 (Below w.heap.size w ((((((w8.setCell ⟨gb150, 0, none⟩ (.int .i64 ((rd_T30 l0 x11_1).f0))).setCell ⟨gb150, 1, none⟩ (.bool ((rd_T30 l0 x11_1).f1))).setCell ⟨gb150, 2, none⟩ (.int .u64 ((rd_T30 l0 x11_1).f2))).setCell ⟨gb150, 3, none⟩ (.int .i64 ((rd_T30 l0 x11_1).f3))).setCell ⟨gb150, 4, none⟩ (.int .i64 ((rd_T30 l0 x11_1).f4))).setCell ⟨gb150, 5, none⟩ (.int .i64 ((rd_T30 l0 x11_1).f5)))) := ⟨by repeat (first | (with_reducible first | exact HB.out | apply below_alloc | apply pw_below_drewN | apply below_drew1 | refine below_set ?_ GE150.out) | exact HB.out)⟩
                    (try clear BK150)
                    (try clear HB)
                    generalize ((((((w8.setCell ⟨gb150, 0, none⟩ (.int .i64 ((rd_T30 l0 x11_1).f0))).setCell ⟨gb150, 1, none⟩ (.bool ((rd_T30 l0 x11_1).f1))).setCell ⟨gb150, 2, none⟩ (.int .u64 ((rd_T30 l0 x11_1).f2))).setCell ⟨gb150, 3, none⟩ (.int .i64 ((rd_T30 l0 x11_1).f3))).setCell ⟨gb150, 4, none⟩ (.int .i64 ((rd_T30 l0 x11_1).f4))).setCell ⟨gb150, 5, none⟩ (.int .i64 ((rd_T30 l0 x11_1).f5))) = w16 at n0_ n1_ ⊢
                    have BK150 := n0_
                    have HB := n1_
                    clear n0_ n1_
                    have n0_ := Aside0.mk (blk_drew BK150.out)
                    have n1_ := Aside0.mk (below_drew1 HB.out)
                    clear BK150
                    clear HB
                    have BK150 := n0_
                    have HB := n1_
                    clear n0_ n1_
                    have p151 : 0 ≤ (x11_1 : Int) := of_decide_eq_true (by first | (with_reducible assumption) | assumption)
                    have q151 : x11_1 < (l2.length : Int) := of_decide_eq_true (by first | (with_reducible assumption) | assumption)
                    obtain ⟨ad151, e151, hx151_0⟩ := Kd.at_bool HR2.out x11_1 p151 q151
                    have hw151_0 := hx151_0
                    (try rw [← Nbq14.out] at hx151_0)
                    (try rw [← Nbq14.out] at hw151_0)
                    cases e151
                    replace hx151_0 := (HB.out.cell (World.block_lt_of_cell? w _ hx151_0)).trans hx151_0
                    replace p151 := eq_true p151
                    replace q151 := eq_true q151
                    refine start_ (n := 18) (S := fun w' => w'.cell? (ad151.add (x11_1).toNat) = some (.bool true)) (ds := []) #[false, false, false, false, false, false, false, false, false, false, false, false, false, false, false, false, false, false] (by kernel_rfl) rfl rfl (((HB.out.cell (World.block_lt_of_cell? w _ hw151_0)).trans hw151_0)) (fun hHeld => ?_); refine with_tabW linear_may.tab4 linear_may.bits4 (fun HT_ HW_ => ?_)
                    generalize w16.drew = w17 at BK150 HB hx151_0 hHeld ⊢
                    refine pure_ (i := 0) (N := some 16) (v := ?_) (a' := ?_) #[true, false, false, false, false, false, false, false, false, false, false, false, false, false, false, false, false, false] rfl rfl (any_of HT_.out (by kernel_rfl)) (fun _ _ _ h => h) (Or.inl ⟨by rfl, ?_⟩) ?_ ?_
                    rotate_left
                    · intro w'
                      go_simp
                      with_reducible rfl
                    rotate_left
                    · simp only [Act.put, List.setIfInBounds_toArray, List.set_cons_zero, List.set_cons_succ, i64_w, i32_w, Go.IntKind.wrap_u32]
                      rfl
                    refine pure_ (i := 1) (N := some 17) (v := ?_) (a' := ?_) #[true, true, false, false, false, false, false, false, false, false, false, false, false, false, false, false, false, false] rfl rfl (any_of HT_.out (by kernel_rfl)) (fun _ _ _ h => h) (Or.inl ⟨by rfl, ?_⟩) ?_ ?_
                    rotate_left
                    · intro w'
                      go_simp
                      with_reducible rfl
                    rotate_left
                    · simp only [Act.put, List.setIfInBounds_toArray, List.set_cons_zero, List.set_cons_succ, i64_w, i32_w, Go.IntKind.wrap_u32]
                      rfl
                    refine pure_ (i := 2) (N := some 18) (v := ?_) (a' := ?_) #[true, true, true, false, false, false, false, false, false, false, false, false, false, false, false, false, false, false] rfl rfl (any_of HT_.out (by kernel_rfl)) (fun _ _ _ h => h) (Or.inl ⟨by rfl, ?_⟩) ?_ ?_
                    rotate_left
                    · intro w'
                      go_simp
                      with_reducible rfl
                    rotate_left
                    · simp only [Act.put, List.setIfInBounds_toArray, List.set_cons_zero, List.set_cons_succ, i64_w, i32_w, Go.IntKind.wrap_u32]
                      rfl
                    refine pure_ (i := 3) (N := some 19) (v := ?_) (a' := ?_) #[true, true, true, true, false, false, false, false, false, false, false, false, false, false, false, false, false, false] rfl rfl (any_of HT_.out (by kernel_rfl)) (fun _ _ _ h => h) (Or.inl ⟨by rfl, ?_⟩) ?_ ?_
                    rotate_left
                    · intro w'
                      go_simp
                      with_reducible rfl
                    rotate_left
                    · simp only [Act.put, List.setIfInBounds_toArray, List.set_cons_zero, List.set_cons_succ, i64_w, i32_w, Go.IntKind.wrap_u32]
                      rfl
                    refine pure_ (i := 4) (N := some 20) (v := ?_) (a' := ?_) #[true, true, true, true, true, false, false, false, false, false, false, false, false, false, false, false, false, false] rfl rfl (any_of HT_.out (by kernel_rfl)) (fun _ _ _ h => h) (Or.inl ⟨by rfl, ?_⟩) ?_ ?_
                    rotate_left
                    · intro w'
                      go_simp
                      with_reducible rfl
                    rotate_left
                    · simp only [Act.put, List.setIfInBounds_toArray, List.set_cons_zero, List.set_cons_succ, i64_w, i32_w, Go.IntKind.wrap_u32]
                      rfl
                    refine pure_ (i := 5) (N := some 21) (v := ?_) (a' := ?_) #[true, true, true, true, true, true, false, false, false, false, false, false, false, false, false, false, false, false] rfl rfl (any_of HT_.out (by kernel_rfl)) (fun _ _ _ h => h) (Or.inl ⟨by rfl, ?_⟩) ?_ ?_
                    rotate_left
                    · intro w'
                      go_simp
                      with_reducible rfl
                    rotate_left
                    · simp only [Act.put, List.setIfInBounds_toArray, List.set_cons_zero, List.set_cons_succ, i64_w, i32_w, Go.IntKind.wrap_u32]
                      rfl
                    refine pure_ (i := 6) (N := some 22) (v := ?_) (a' := ?_) #[true, true, true, true, true, true, true, false, false, false, false, false, false, false, false, false, false, false] rfl rfl (any_of HT_.out (by kernel_rfl)) (fun _ _ _ h => h) (Or.inl ⟨by rfl, ?_⟩) ?_ ?_
                    rotate_left
                    · intro w'
                      go_simp
                      with_reducible rfl
                    rotate_left
                    · simp only [Act.put, List.setIfInBounds_toArray, List.set_cons_zero, List.set_cons_succ, i64_w, i32_w, Go.IntKind.wrap_u32]
                      rfl
                    refine take_ (i := 7) (N := some 23) (v := ?_) (a' := ?_) #[true, true, true, true, true, true, true, true, false, false, false, false, false, false, false, false, false, false] rfl rfl (take_ofW HT_.out HW_.out (by kernel_rfl)) (fun _ _ _ h => h) (Or.inl ⟨by rfl, ?_⟩) hHeld ?_ ?_
                    rotate_left
                    · intro w' s0
                      go_simp
                      with_reducible rfl
                    rotate_left
                    · simp only [Act.put, List.setIfInBounds_toArray, List.set_cons_zero, List.set_cons_succ, i64_w, i32_w, Go.IntKind.wrap_u32]
                      rfl
                    refine pure_ (i := 8) (N := some 24) (v := ?_) (a' := ?_) #[true, true, true, true, true, true, true, true, true, false, false, false, false, false, false, false, false, false] rfl rfl (any_of HT_.out (by kernel_rfl)) (fun _ _ _ h => h) (Or.inl ⟨by rfl, ?_⟩) ?_ ?_
                    rotate_left
                    · intro w'
                      go_simp
                      with_reducible rfl
                    rotate_left
                    · simp only [Act.put, List.setIfInBounds_toArray, List.set_cons_zero, List.set_cons_succ, i64_w, i32_w, Go.IntKind.wrap_u32]
                      rfl
                    refine pure_ (i := 9) (N := some 25) (v := ?_) (a' := ?_) #[true, true, true, true, true, true, true, true, true, true, false, false, false, false, false, false, false, false] rfl rfl (any_of HT_.out (by kernel_rfl)) (fun _ _ _ h => h) (Or.inl ⟨by rfl, ?_⟩) ?_ ?_
                    rotate_left
                    · intro w'
                      go_simp
                      with_reducible rfl
                    rotate_left
                    · simp only [Act.put, List.setIfInBounds_toArray, List.set_cons_zero, List.set_cons_succ, i64_w, i32_w, Go.IntKind.wrap_u32]
                      rfl
                    refine pure_ (i := 10) (N := some 26) (v := ?_) (a' := ?_) #[true, true, true, true, true, true, true, true, true, true, true, false, false, false, false, false, false, false] rfl rfl (any_of HT_.out (by kernel_rfl)) (fun _ _ _ h => h) (Or.inl ⟨by rfl, ?_⟩) ?_ ?_
                    rotate_left
                    · intro w'
                      go_simp
                      with_reducible rfl
                    rotate_left
                    · simp only [Act.put, List.setIfInBounds_toArray, List.set_cons_zero, List.set_cons_succ, i64_w, i32_w, Go.IntKind.wrap_u32]
                      rfl
                    refine pure_ (i := 11) (N := some 27) (v := undef) (a' := ?_) #[true, true, true, true, true, true, true, true, true, true, true, true, false, false, false, false, false, false] rfl rfl (any_of HT_.out (by kernel_rfl)) (fun _ _ _ h => h) (Or.inr ⟨by rfl, rfl⟩) ?_ ?_
                    rotate_left
                    · simp only [Act.put, List.setIfInBounds_toArray, List.set_cons_zero, List.set_cons_succ, i64_w, i32_w, Go.IntKind.wrap_u32]
                      rfl
                    refine pure_ (i := 12) (N := some 28) (v := undef) (a' := ?_) #[true, true, true, true, true, true, true, true, true, true, true, true, true, false, false, false, false, false] rfl rfl (any_of HT_.out (by kernel_rfl)) (fun _ _ _ h => h) (Or.inr ⟨by rfl, rfl⟩) ?_ ?_
                    rotate_left
                    · simp only [Act.put, List.setIfInBounds_toArray, List.set_cons_zero, List.set_cons_succ, i64_w, i32_w, Go.IntKind.wrap_u32]
                      rfl
                    refine pure_ (i := 13) (N := some 29) (v := undef) (a' := ?_) #[true, true, true, true, true, true, true, true, true, true, true, true, true, true, false, false, false, false] rfl rfl (any_of HT_.out (by kernel_rfl)) (fun _ _ _ h => h) (Or.inr ⟨by rfl, rfl⟩) ?_ ?_
                    rotate_left
                    · simp only [Act.put, List.setIfInBounds_toArray, List.set_cons_zero, List.set_cons_succ, i64_w, i32_w, Go.IntKind.wrap_u32]
                      rfl
                    refine pure_ (i := 14) (N := some 30) (v := undef) (a' := ?_) #[true, true, true, true, true, true, true, true, true, true, true, true, true, true, true, false, false, false] rfl rfl (any_of HT_.out (by kernel_rfl)) (fun _ _ _ h => h) (Or.inr ⟨by rfl, rfl⟩) ?_ ?_
                    rotate_left
                    · simp only [Act.put, List.setIfInBounds_toArray, List.set_cons_zero, List.set_cons_succ, i64_w, i32_w, Go.IntKind.wrap_u32]
                      rfl
                    refine pure_ (i := 15) (N := some 31) (v := undef) (a' := ?_) #[true, true, true, true, true, true, true, true, true, true, true, true, true, true, true, true, false, false] rfl rfl (any_of HT_.out (by kernel_rfl)) (fun _ _ _ h => h) (Or.inr ⟨by rfl, rfl⟩) ?_ ?_
                    rotate_left
                    · simp only [Act.put, List.setIfInBounds_toArray, List.set_cons_zero, List.set_cons_succ, i64_w, i32_w, Go.IntKind.wrap_u32]
                      rfl
                    refine pure_ (i := 16) (N := some 32) (v := undef) (a' := ?_) #[true, true, true, true, true, true, true, true, true, true, true, true, true, true, true, true, true, false] rfl rfl (any_of HT_.out (by kernel_rfl)) (fun _ _ _ h => h) (Or.inr ⟨by rfl, rfl⟩) ?_ ?_
                    rotate_left
                    · simp only [Act.put, List.setIfInBounds_toArray, List.set_cons_zero, List.set_cons_succ, i64_w, i32_w, Go.IntKind.wrap_u32]
                      rfl
                    refine pure_ (i := 17) (N := some 33) (v := ?_) (a' := ?_) #[true, true, true, true, true, true, true, true, true, true, true, true, true, true, true, true, true, true] rfl rfl (any_of HT_.out (by kernel_rfl)) (fun _ _ _ h => h) (Or.inl ⟨by rfl, ?_⟩) ?_ ?_
                    rotate_left
                    · intro w'
                      go_simp
                      with_reducible rfl
                    rotate_left
                    · simp only [Act.put, List.setIfInBounds_toArray, List.set_cons_zero, List.set_cons_succ, i64_w, i32_w, Go.IntKind.wrap_u32]
                      rfl
                    refine done_ (done_of HT_.out (by kernel_rfl)) ?_
                    try go_wp2
                    go_meet
                    case rel => exact ⟨_, (false), (by first | rfl | (simp; done) | (simp [*]; done)), H', ⟨by have := HK1.out; first | omega | exact Nat.le_refl _⟩, ⟨by (with_reducible repeat (first | refine blk_drewN ?_ _ | refine blk_drew ?_ | refine blk_alloc ?_ _)); exact BK150.out⟩, ⟨by repeat (first | (with_reducible first | exact HB.out | apply below_alloc | apply pw_below_drewN | apply below_drew1 | refine below_set ?_ GE150.out) | exact HB.out)⟩⟩
                  · replace c15 := Bool.eq_false_iff.mpr c15
                    subst c15
                    have H1 : (if 0 ≤ a1 then (if a1 < (l0.length : Int) then ((history_Ahead.f ((rd_T30 l0 x11_1).f0) ((rd_T30 l0 x11_1).f1) ((rd_T30 l0 x11_1).f2) ((rd_T30 l0 x11_1).f3) ((rd_T30 l0 x11_1).f4) ((rd_T30 l0 x11_1).f5) ((rd_T30 l0 a1).f0) ((rd_T30 l0 a1).f1) ((rd_T30 l0 a1).f2) ((rd_T30 l0 a1).f3) ((rd_T30 l0 a1).f4) ((rd_T30 l0 a1).f5)).bind fun t153 => (linear_may.j1 k1 l0 a1 l2 l0 (l0.length : Int) x11_1 t153)) else (none)) else (none)) = some r := by rw [if_neg (show ¬ (false = true) by decide)] at H; exact H
                    clear H
                    have H := H1
                    clear H1
                    by_cases c18 : 0 ≤ a1
                    · rw [if_pos c18] at H
                      have c18b0 : decide (0 ≤ a1) = true := decide_eq_true c18
                      clear c18
                      by_cases c19 : a1 < (l0.length : Int)
                      · rw [if_pos c19] at H
                        have c19b0 : decide (a1 < (l0.length : Int)) = true := decide_eq_true c19
                        clear c19
                        replace H := Option.bind_eq_some_iff.mp H
                        obtain ⟨t153, A200, H⟩ := H
                        replace H : (linear_may.j1 k1 l0 a1 l2 l0 (l0.length : Int) x11_1 t153) = some r := H
                        have A20 := Aside0.mk A200
                        clear A200
                        have H' := Aside0.mk H
                        clear H
                        try go_wp2
                        have n0_ : Aside0 (((((((w8.setCell ⟨gb150, 0, none⟩ (.int .i64 ((rd_T30 l0 x11_1).f0))).setCell ⟨gb150, 1, none⟩ (.bool ((rd_T30 l0 x11_1).f1))).setCell ⟨gb150, 2, none⟩ (.int .u64 ((rd_T30 l0 x11_1).f2))).setCell ⟨gb150, 3, none⟩ (.int .i64 ((rd_T30 l0 x11_1).f3))).setCell ⟨gb150, 4, none⟩ (.int .i64 ((rd_T30 l0 x11_1).f4))).setCell ⟨gb150, 5, none⟩ (.int .i64 ((rd_T30 l0 x11_1).f5))).heap[gb150]? = some (.cells #[.int .i64 ((rd_T30 l0 x11_1).f0), .bool ((rd_T30 l0 x11_1).f1), .int .u64 ((rd_T30 l0 x11_1).f2), .int .i64 ((rd_T30 l0 x11_1).f3), .int .i64 ((rd_T30 l0 x11_1).f4), .int .i64 ((rd_T30 l0 x11_1).f5)] 30 (0, 0))) := ⟨by (with_reducible repeat (first | refine blk_drewN ?_ _ | refine blk_drew ?_ | refine blk_alloc ?_ _)); refine blk_put (cs := #[.int .i64 ((rd_T30 l0 x11_1).f0), .bool ((rd_T30 l0 x11_1).f1), .int .u64 ((rd_T30 l0 x11_1).f2), .int .i64 ((rd_T30 l0 x11_1).f3), .int .i64 ((rd_T30 l0 x11_1).f4), .int .i64 0]) ?_ 5 _ rfl; (with_reducible repeat (first | refine blk_drewN ?_ _ | refine blk_drew ?_ | refine blk_alloc ?_ _)); refine blk_put (cs := #[.int .i64 ((rd_T30 l0 x11_1).f0), .bool ((rd_T30 l0 x11_1).f1), .int .u64 ((rd_T30 l0 x11_1).f2), .int .i64 ((rd_T30 l0 x11_1).f3), .int .i64 0, .int .i64 0]) ?_ 4 _ rfl; (with_reducible repeat (first | refine blk_drewN ?_ _ | refine blk_drew ?_ | refine blk_alloc ?_ _)); refine blk_put (cs := #[.int .i64 ((rd_T30 l0 x11_1).f0), .bool ((rd_T30 l0 x11_1).f1), .int .u64 ((rd_T30 l0 x11_1).f2), .int .i64 0, .int .i64 0, .int .i64 0]) ?_ 3 _ rfl; (with_reducible repeat (first | refine blk_drewN ?_ _ | refine blk_drew ?_ | refine blk_alloc ?_ _)); refine blk_put (cs := #[.int .i64 ((rd_T30 l0 x11_1).f0), .bool ((rd_T30 l0 x11_1).f1), .int .u64 0, .int .i64 0, .int .i64 0, .int .i64 0]) ?_ 2 _ rfl; (with_reducible repeat (first | refine blk_drewN ?_ _ | refine blk_drew ?_ | refine blk_alloc ?_ _)); refine blk_put (cs := #[.int .i64 ((rd_T30 l0 x11_1).f0), .bool false, .int .u64 0, .int .i64 0, .int .i64 0, .int .i64 0]) ?_ 1 _ rfl; (with_reducible repeat (first | refine blk_drewN ?_ _ | refine blk_drew ?_ | refine blk_alloc ?_ _)); refine blk_put (cs := #[.int .i64 0, .bool false, .int .u64 0, .int .i64 0, .int .i64 0, .int .i64 0]) ?_ 0 _ rfl; (with_reducible repeat (first | refine blk_drewN ?_ _ | refine blk_drew ?_ | refine blk_alloc ?_ _)); exact BK150.out⟩
                        have n1_ : Aside0 (Below w.heap.size w ((((((w8.setCell ⟨gb150, 0, none⟩ (.int .i64 ((rd_T30 l0 x11_1).f0))).setCell ⟨gb150, 1, none⟩ (.bool ((rd_T30 l0 x11_1).f1))).setCell ⟨gb150, 2, none⟩ (.int .u64 ((rd_T30 l0 x11_1).f2))).setCell ⟨gb150, 3, none⟩ (.int .i64 ((rd_T30 l0 x11_1).f3))).setCell ⟨gb150, 4, none⟩ (.int .i64 ((rd_T30 l0 x11_1).f4))).setCell ⟨gb150, 5, none⟩ (.int .i64 ((rd_T30 l0 x11_1).f5)))) := ⟨by repeat (first | (with_reducible first | exact HB.out | apply below_alloc | apply pw_below_drewN | apply below_drew1 | refine below_set ?_ GE150.out) | exact HB.out)⟩
                        (try clear BK150)
                        (try clear HB)
                        generalize ((((((w8.setCell ⟨gb150, 0, none⟩ (.int .i64 ((rd_T30 l0 x11_1).f0))).setCell ⟨gb150, 1, none⟩ (.bool ((rd_T30 l0 x11_1).f1))).setCell ⟨gb150, 2, none⟩ (.int .u64 ((rd_T30 l0 x11_1).f2))).setCell ⟨gb150, 3, none⟩ (.int .i64 ((rd_T30 l0 x11_1).f3))).setCell ⟨gb150, 4, none⟩ (.int .i64 ((rd_T30 l0 x11_1).f4))).setCell ⟨gb150, 5, none⟩ (.int .i64 ((rd_T30 l0 x11_1).f5))) = w21 at n0_ n1_ ⊢
                        have BK150 := n0_
                        have HB := n1_
                        clear n0_ n1_
                        have n0_ := Aside0.mk (blk_drew BK150.out)
                        have n1_ := Aside0.mk (below_drew1 HB.out)
                        clear BK150
                        clear HB
                        have BK150 := n0_
                        have HB := n1_
                        clear n0_ n1_
                        have p151 : 0 ≤ (x11_1 : Int) := of_decide_eq_true (by first | (with_reducible assumption) | assumption)
                        have q151 : x11_1 < (l2.length : Int) := of_decide_eq_true (by first | (with_reducible assumption) | assumption)
                        obtain ⟨ad151, e151, hx151_0⟩ := Kd.at_bool HR2.out x11_1 p151 q151
                        have hw151_0 := hx151_0
                        (try rw [← Nbq14.out] at hx151_0)
                        (try rw [← Nbq14.out] at hw151_0)
                        cases e151
                        replace hx151_0 := (HB.out.cell (World.block_lt_of_cell? w _ hx151_0)).trans hx151_0
                        replace p151 := eq_true p151
                        replace q151 := eq_true q151
                        have p152 : 0 ≤ (a1 : Int) := of_decide_eq_true (by first | (with_reducible assumption) | assumption)
                        have q152 : a1 < (l0.length : Int) := of_decide_eq_true (by first | (with_reducible assumption) | assumption)
                        obtain ⟨ad152, e152, hx152_0, hx152_1, hx152_2, hx152_3, hx152_4, hx152_5⟩ := at_T30 HR0.out a1 p152 q152
                        have hw152_5 := hx152_5
                        have hw152_4 := hx152_4
                        have hw152_3 := hx152_3
                        have hw152_2 := hx152_2
                        have hw152_1 := hx152_1
                        have hw152_0 := hx152_0
                        (try rw [← Nbq14.out] at hx152_1)
                        (try rw [← Nbq14.out] at hw152_1)
                        obtain rfl : ad149 = ad152 := (by injection e152)
                        replace hx152_0 := (HB.out.cell (World.block_lt_of_cell? w _ hx152_0)).trans hx152_0
                        replace hx152_1 := (HB.out.cell (World.block_lt_of_cell? w _ hx152_1)).trans hx152_1
                        replace hx152_2 := (HB.out.cell (World.block_lt_of_cell? w _ hx152_2)).trans hx152_2
                        replace hx152_3 := (HB.out.cell (World.block_lt_of_cell? w _ hx152_3)).trans hx152_3
                        replace hx152_4 := (HB.out.cell (World.block_lt_of_cell? w _ hx152_4)).trans hx152_4
                        replace hx152_5 := (HB.out.cell (World.block_lt_of_cell? w _ hx152_5)).trans hx152_5
                        replace p152 := eq_true p152
                        replace q152 := eq_true q152
                        refine start_ (n := 18) (S := fun w' => w'.cell? ⟨gb150, 0, none⟩ = some (.int .i64 ((rd_T30 l0 x11_1).f0)) ∧ w'.cell? ⟨gb150, 1, none⟩ = some (.bool ((rd_T30 l0 x11_1).f1)) ∧ w'.cell? ⟨gb150, 2, none⟩ = some (.int .u64 ((rd_T30 l0 x11_1).f2)) ∧ w'.cell? ⟨gb150, 3, none⟩ = some (.int .i64 ((rd_T30 l0 x11_1).f3)) ∧ w'.cell? ⟨gb150, 4, none⟩ = some (.int .i64 ((rd_T30 l0 x11_1).f4)) ∧ w'.cell? ⟨gb150, 5, none⟩ = some (.int .i64 ((rd_T30 l0 x11_1).f5)) ∧ w'.cell? (ad151.add (x11_1).toNat) = some (.bool false) ∧ w'.cell? (ad149.add ((a1).toNat * 6)) = some (.int .i64 ((rd_T30 l0 a1).f0)) ∧ w'.cell? ⟨(ad149.add ((a1).toNat * 6)).block, (ad149.add ((a1).toNat * 6)).off + 1, none⟩ = some (.bool ((rd_T30 l0 a1).f1)) ∧ w'.cell? ⟨(ad149.add ((a1).toNat * 6)).block, (ad149.add ((a1).toNat * 6)).off + 2, none⟩ = some (.int .u64 ((rd_T30 l0 a1).f2)) ∧ w'.cell? ⟨(ad149.add ((a1).toNat * 6)).block, (ad149.add ((a1).toNat * 6)).off + 3, none⟩ = some (.int .i64 ((rd_T30 l0 a1).f3)) ∧ w'.cell? ⟨(ad149.add ((a1).toNat * 6)).block, (ad149.add ((a1).toNat * 6)).off + 4, none⟩ = some (.int .i64 ((rd_T30 l0 a1).f4)) ∧ w'.cell? ⟨(ad149.add ((a1).toNat * 6)).block, (ad149.add ((a1).toNat * 6)).off + 5, none⟩ = some (.int .i64 ((rd_T30 l0 a1).f5))) (ds := []) #[false, false, false, false, false, false, false, false, false, false, false, false, false, false, false, false, false, false] (by kernel_rfl) rfl rfl ⟨(blk_cell BK150.out 0).trans rfl, (blk_cell BK150.out 1).trans rfl, (blk_cell BK150.out 2).trans rfl, (blk_cell BK150.out 3).trans rfl, (blk_cell BK150.out 4).trans rfl, (blk_cell BK150.out 5).trans rfl, ((HB.out.cell (World.block_lt_of_cell? w _ hw151_0)).trans hw151_0), ((HB.out.cell (World.block_lt_of_cell? w _ hw152_0)).trans hw152_0), ((HB.out.cell (World.block_lt_of_cell? w _ hw152_1)).trans hw152_1), ((HB.out.cell (World.block_lt_of_cell? w _ hw152_2)).trans hw152_2), ((HB.out.cell (World.block_lt_of_cell? w _ hw152_3)).trans hw152_3), ((HB.out.cell (World.block_lt_of_cell? w _ hw152_4)).trans hw152_4), ((HB.out.cell (World.block_lt_of_cell? w _ hw152_5)).trans hw152_5)⟩ (fun hHeld => ?_); refine with_tabW linear_may.tab4 linear_may.bits4 (fun HT_ HW_ => ?_)
                        generalize w21.drew = w22 at BK150 HB hx151_0 hx152_0 hx152_1 hx152_2 hx152_3 hx152_4 hx152_5 hHeld ⊢
                        refine pure_ (i := 0) (N := some 16) (v := ?_) (a' := ?_) #[true, false, false, false, false, false, false, false, false, false, false, false, false, false, false, false, false, false] rfl rfl (any_of HT_.out (by kernel_rfl)) (fun _ _ _ h => h) (Or.inl ⟨by rfl, ?_⟩) ?_ ?_
                        rotate_left
                        · intro w'
                          go_simp
                          with_reducible rfl
                        rotate_left
                        · simp only [Act.put, List.setIfInBounds_toArray, List.set_cons_zero, List.set_cons_succ, i64_w, i32_w, Go.IntKind.wrap_u32]
                          rfl
                        refine pure_ (i := 1) (N := some 17) (v := ?_) (a' := ?_) #[true, true, false, false, false, false, false, false, false, false, false, false, false, false, false, false, false, false] rfl rfl (any_of HT_.out (by kernel_rfl)) (fun _ _ _ h => h) (Or.inl ⟨by rfl, ?_⟩) ?_ ?_
                        rotate_left
                        · intro w'
                          go_simp
                          with_reducible rfl
                        rotate_left
                        · simp only [Act.put, List.setIfInBounds_toArray, List.set_cons_zero, List.set_cons_succ, i64_w, i32_w, Go.IntKind.wrap_u32]
                          rfl
                        refine pure_ (i := 2) (N := some 18) (v := ?_) (a' := ?_) #[true, true, true, false, false, false, false, false, false, false, false, false, false, false, false, false, false, false] rfl rfl (any_of HT_.out (by kernel_rfl)) (fun _ _ _ h => h) (Or.inl ⟨by rfl, ?_⟩) ?_ ?_
                        rotate_left
                        · intro w'
                          go_simp
                          with_reducible rfl
                        rotate_left
                        · simp only [Act.put, List.setIfInBounds_toArray, List.set_cons_zero, List.set_cons_succ, i64_w, i32_w, Go.IntKind.wrap_u32]
                          rfl
                        refine pure_ (i := 3) (N := some 19) (v := ?_) (a' := ?_) #[true, true, true, true, false, false, false, false, false, false, false, false, false, false, false, false, false, false] rfl rfl (any_of HT_.out (by kernel_rfl)) (fun _ _ _ h => h) (Or.inl ⟨by rfl, ?_⟩) ?_ ?_
                        rotate_left
                        · intro w'
                          go_simp
                          with_reducible rfl
                        rotate_left
                        · simp only [Act.put, List.setIfInBounds_toArray, List.set_cons_zero, List.set_cons_succ, i64_w, i32_w, Go.IntKind.wrap_u32]
                          rfl
                        refine pure_ (i := 4) (N := some 20) (v := ?_) (a' := ?_) #[true, true, true, true, true, false, false, false, false, false, false, false, false, false, false, false, false, false] rfl rfl (any_of HT_.out (by kernel_rfl)) (fun _ _ _ h => h) (Or.inl ⟨by rfl, ?_⟩) ?_ ?_
                        rotate_left
                        · intro w'
                          go_simp
                          with_reducible rfl
                        rotate_left
                        · simp only [Act.put, List.setIfInBounds_toArray, List.set_cons_zero, List.set_cons_succ, i64_w, i32_w, Go.IntKind.wrap_u32]
                          rfl
                        refine pure_ (i := 5) (N := some 21) (v := ?_) (a' := ?_) #[true, true, true, true, true, true, false, false, false, false, false, false, false, false, false, false, false, false] rfl rfl (any_of HT_.out (by kernel_rfl)) (fun _ _ _ h => h) (Or.inl ⟨by rfl, ?_⟩) ?_ ?_
                        rotate_left
                        · intro w'
                          go_simp
                          with_reducible rfl
                        rotate_left
                        · simp only [Act.put, List.setIfInBounds_toArray, List.set_cons_zero, List.set_cons_succ, i64_w, i32_w, Go.IntKind.wrap_u32]
                          rfl
                        refine pure_ (i := 6) (N := some 22) (v := ?_) (a' := ?_) #[true, true, true, true, true, true, true, false, false, false, false, false, false, false, false, false, false, false] rfl rfl (any_of HT_.out (by kernel_rfl)) (fun _ _ _ h => h) (Or.inl ⟨by rfl, ?_⟩) ?_ ?_
                        rotate_left
                        · intro w'
                          go_simp
                          with_reducible rfl
                        rotate_left
                        · simp only [Act.put, List.setIfInBounds_toArray, List.set_cons_zero, List.set_cons_succ, i64_w, i32_w, Go.IntKind.wrap_u32]
                          rfl
                        refine take_ (i := 7) (N := some 23) (v := ?_) (a' := ?_) #[true, true, true, true, true, true, true, true, false, false, false, false, false, false, false, false, false, false] rfl rfl (take_ofW HT_.out HW_.out (by kernel_rfl)) (fun _ _ _ h => h) (Or.inl ⟨by rfl, ?_⟩) hHeld ?_ ?_
                        rotate_left
                        · rintro w' ⟨s0, s1, s2, s3, s4, s5, s6, s7, s8, s9, s10, s11, s12⟩
                          go_simp
                          with_reducible rfl
                        rotate_left
                        · simp only [Act.put, List.setIfInBounds_toArray, List.set_cons_zero, List.set_cons_succ, i64_w, i32_w, Go.IntKind.wrap_u32]
                          rfl
                        refine pure_ (i := 8) (N := some 24) (v := ?_) (a' := ?_) #[true, true, true, true, true, true, true, true, true, false, false, false, false, false, false, false, false, false] rfl rfl (any_of HT_.out (by kernel_rfl)) (fun _ _ _ h => h) (Or.inl ⟨by rfl, ?_⟩) ?_ ?_
                        rotate_left
                        · intro w'
                          go_simp
                          with_reducible rfl
                        rotate_left
                        · simp only [Act.put, List.setIfInBounds_toArray, List.set_cons_zero, List.set_cons_succ, i64_w, i32_w, Go.IntKind.wrap_u32]
                          rfl
                        refine pure_ (i := 9) (N := some 25) (v := ?_) (a' := ?_) #[true, true, true, true, true, true, true, true, true, true, false, false, false, false, false, false, false, false] rfl rfl (any_of HT_.out (by kernel_rfl)) (fun _ _ _ h => h) (Or.inl ⟨by rfl, ?_⟩) ?_ ?_
                        rotate_left
                        · intro w'
                          go_simp
                          with_reducible rfl
                        rotate_left
                        · simp only [Act.put, List.setIfInBounds_toArray, List.set_cons_zero, List.set_cons_succ, i64_w, i32_w, Go.IntKind.wrap_u32]
                          rfl
                        refine pure_ (i := 10) (N := some 26) (v := ?_) (a' := ?_) #[true, true, true, true, true, true, true, true, true, true, true, false, false, false, false, false, false, false] rfl rfl (any_of HT_.out (by kernel_rfl)) (fun _ _ _ h => h) (Or.inl ⟨by rfl, ?_⟩) ?_ ?_
                        rotate_left
                        · intro w'
                          go_simp
                          with_reducible rfl
                        rotate_left
                        · simp only [Act.put, List.setIfInBounds_toArray, List.set_cons_zero, List.set_cons_succ, i64_w, i32_w, Go.IntKind.wrap_u32]
                          rfl
                        refine pure_ (i := 12) (N := some 28) (v := ?_) (a' := ?_) #[true, true, true, true, true, true, true, true, true, true, true, false, true, false, false, false, false, false] rfl rfl (any_of HT_.out (by kernel_rfl)) (fun _ _ _ h => h) (Or.inl ⟨by rfl, ?_⟩) ?_ ?_
                        rotate_left
                        · intro w'
                          go_simp
                          with_reducible rfl
                        rotate_left
                        · simp only [Act.put, List.setIfInBounds_toArray, List.set_cons_zero, List.set_cons_succ, i64_w, i32_w, Go.IntKind.wrap_u32]
                          rfl
                        refine pure_ (i := 13) (N := some 29) (v := ?_) (a' := ?_) #[true, true, true, true, true, true, true, true, true, true, true, false, true, true, false, false, false, false] rfl rfl (any_of HT_.out (by kernel_rfl)) (fun _ _ _ h => h) (Or.inl ⟨by rfl, ?_⟩) ?_ ?_
                        rotate_left
                        · intro w'
                          go_simp
                          with_reducible rfl
                        rotate_left
                        · simp only [Act.put, List.setIfInBounds_toArray, List.set_cons_zero, List.set_cons_succ, i64_w, i32_w, Go.IntKind.wrap_u32]
                          rfl
                        refine pure_ (i := 14) (N := some 30) (v := ?_) (a' := ?_) #[true, true, true, true, true, true, true, true, true, true, true, false, true, true, true, false, false, false] rfl rfl (any_of HT_.out (by kernel_rfl)) (fun _ _ _ h => h) (Or.inl ⟨by rfl, ?_⟩) ?_ ?_
                        rotate_left
                        · intro w'
                          go_simp
                          with_reducible rfl
                        rotate_left
                        · simp only [Act.put, List.setIfInBounds_toArray, List.set_cons_zero, List.set_cons_succ, i64_w, i32_w, Go.IntKind.wrap_u32]
                          rfl
                        refine take_ (i := 11) (N := some 27) (v := ?_) (a' := ?_) #[true, true, true, true, true, true, true, true, true, true, true, true, true, true, true, false, false, false] rfl rfl (take_ofW HT_.out HW_.out (by kernel_rfl)) (fun _ _ _ h => h) (Or.inl ⟨by rfl, ?_⟩) hHeld ?_ ?_
                        rotate_left
                        · rintro w' ⟨s0, s1, s2, s3, s4, s5, s6, s7, s8, s9, s10, s11, s12⟩
                          go_simp
                          with_reducible rfl
                        rotate_left
                        · simp only [Act.put, List.setIfInBounds_toArray, List.set_cons_zero, List.set_cons_succ, i64_w, i32_w, Go.IntKind.wrap_u32]
                          rfl
                        refine take_ (i := 15) (N := some 31) (v := ?_) (a' := ?_) #[true, true, true, true, true, true, true, true, true, true, true, true, true, true, true, true, false, false] rfl rfl (take_ofW HT_.out HW_.out (by kernel_rfl)) (fun _ _ _ h => h) (Or.inl ⟨by rfl, ?_⟩) hHeld ?_ ?_
                        rotate_left
                        · rintro w' ⟨s0, s1, s2, s3, s4, s5, s6, s7, s8, s9, s10, s11, s12⟩
                          go_simp
                          with_reducible rfl
                        rotate_left
                        · simp only [Act.put, List.setIfInBounds_toArray, List.set_cons_zero, List.set_cons_succ, i64_w, i32_w, Go.IntKind.wrap_u32]
                          rfl
                        refine one_ (i := 16) (N := some 32) #[true, true, true, true, true, true, true, true, true, true, true, true, true, true, true, true, true, false] rfl rfl (one_of HT_.out (by kernel_rfl)) (by decide) (fun K hK => ?_)
                        refine goes_ Try.func28 (by kernel_rfl) rfl #[.agg #[.int .i64 ((rd_T30 l0 x11_1).f0), .bool ((rd_T30 l0 x11_1).f1), .int .u64 ((rd_T30 l0 x11_1).f2), .int .i64 ((rd_T30 l0 x11_1).f3), .int .i64 ((rd_T30 l0 x11_1).f4), .int .i64 ((rd_T30 l0 x11_1).f5)], .agg #[.int .i64 ((rd_T30 l0 a1).f0), .bool ((rd_T30 l0 a1).f1), .int .u64 ((rd_T30 l0 a1).f2), .int .i64 ((rd_T30 l0 a1).f3), .int .i64 ((rd_T30 l0 a1).f4), .int .i64 ((rd_T30 l0 a1).f5)]] (by rfl) rfl rfl (by (try simp only [List.map_toArray, List.map_cons, List.map_nil]); first | done | rfl | (simp only [List.length_drop, List.length_take]; rfl)) ?_
                        with_reducible refine (history_Ahead.calls ((rd_T30 l0 x11_1).f0) ((rd_T30 l0 x11_1).f1) ((rd_T30 l0 x11_1).f2) ((rd_T30 l0 x11_1).f3) ((rd_T30 l0 x11_1).f4) ((rd_T30 l0 x11_1).f5) ((rd_T30 l0 a1).f0) ((rd_T30 l0 a1).f1) ((rd_T30 l0 a1).f2) ((rd_T30 l0 a1).f3) ((rd_T30 l0 a1).f4) ((rd_T30 l0 a1).f5) t153 _ A20.out).mono ?_
                        rintro e w23 ⟨rfl, hb⟩
                        refine ⟨_, rfl, ?_⟩
                        have n0_ := Aside0.mk (blk_below (g := gb150) (o := .cells #[.int .i64 ((rd_T30 l0 x11_1).f0), .bool ((rd_T30 l0 x11_1).f1), .int .u64 ((rd_T30 l0 x11_1).f2), .int .i64 ((rd_T30 l0 x11_1).f3), .int .i64 ((rd_T30 l0 x11_1).f4), .int .i64 ((rd_T30 l0 x11_1).f5)] 30 (0, 0)) (by (with_reducible repeat (first | refine blk_drewN ?_ _ | refine blk_drew ?_ | refine blk_alloc ?_ _)); exact BK150.out) hb)
                        have n1_ := Aside0.mk (below_step (by repeat (first | (with_reducible first | exact HB.out | apply below_alloc | apply pw_below_drewN | apply below_drew1 | refine below_set ?_ GE150.out) | exact HB.out)) hb)
                        clear BK150
                        clear HB
                        have BK150 := n0_
                        have HB := n1_
                        clear n0_ n1_
                        (try clear hb)
                        (try clear hb2)
                        (try clear hk)
                        (try clear hi)
                        refine hK.out _ _ ⟨(blk_cell BK150.out 0).trans rfl, (blk_cell BK150.out 1).trans rfl, (blk_cell BK150.out 2).trans rfl, (blk_cell BK150.out 3).trans rfl, (blk_cell BK150.out 4).trans rfl, (blk_cell BK150.out 5).trans rfl, ((HB.out.cell (World.block_lt_of_cell? w _ hw151_0)).trans hw151_0), ((HB.out.cell (World.block_lt_of_cell? w _ hw152_0)).trans hw152_0), ((HB.out.cell (World.block_lt_of_cell? w _ hw152_1)).trans hw152_1), ((HB.out.cell (World.block_lt_of_cell? w _ hw152_2)).trans hw152_2), ((HB.out.cell (World.block_lt_of_cell? w _ hw152_3)).trans hw152_3), ((HB.out.cell (World.block_lt_of_cell? w _ hw152_4)).trans hw152_4), ((HB.out.cell (World.block_lt_of_cell? w _ hw152_5)).trans hw152_5)⟩ (fun hHeld => ?_)
                        clear hK K
                        refine norm_ (a' := ?_) ?_ ?_
                        rotate_left
                        · show Act.put _ (some 32) _ = _
                          simp only [Act.put, List.setIfInBounds_toArray, List.set_cons_zero, List.set_cons_succ, i64_w, i32_w, Go.IntKind.wrap_u32]
                          rfl
                        refine pure_ (i := 17) (N := some 33) (v := ?_) (a' := ?_) #[true, true, true, true, true, true, true, true, true, true, true, true, true, true, true, true, true, true] rfl rfl (any_of HT_.out (by kernel_rfl)) (fun _ _ _ h => h) (Or.inl ⟨by rfl, ?_⟩) ?_ ?_
                        rotate_left
                        · intro w'
                          go_simp
                          with_reducible rfl
                        rotate_left
                        · simp only [Act.put, List.setIfInBounds_toArray, List.set_cons_zero, List.set_cons_succ, i64_w, i32_w, Go.IntKind.wrap_u32]
                          rfl
                        refine done_ (done_of HT_.out (by kernel_rfl)) ?_
                        try go_wp2
                        go_meet
                        case rel => exact ⟨_, (t153), (by first | rfl | (simp; done) | (simp [*]; done)), H', ⟨by have := HK1.out; first | omega | exact Nat.le_refl _⟩, ⟨by (with_reducible repeat (first | refine blk_drewN ?_ _ | refine blk_drew ?_ | refine blk_alloc ?_ _)); exact BK150.out⟩, ⟨by repeat (first | (with_reducible first | exact HB.out | apply below_alloc | apply pw_below_drewN | apply below_drew1 | refine below_set ?_ GE150.out) | exact HB.out)⟩⟩
                      · rw [if_neg c19] at H
                        exact absurd H (by simp)
                    · rw [if_neg c18] at H
                      exact absurd H (by simp)
                · rw [if_neg c13] at H
                  exact absurd H (by simp)
            case rest =>
              clear HC7
              try clear c1
              try clear p1
              try clear q1
              try clear hx1
              try clear c2
              try clear p2
              try clear c4
              try clear c4b0
              try clear c5
              try clear c5b0
              try clear c6
              try clear c6b0
              try clear c10
              try clear c10b0
              try clear c10b1
              try clear c13
              try clear c13b0
              try clear p14
              try clear q14
              try clear hx14
              try clear c15
              try clear p15
              try clear q15
              try clear hx15
              try clear c18
              try clear c18b0
              try clear c19
              try clear c19b0
              try clear hcz9_0
              try clear hcz9_1
              try clear hcz9_2
              try clear hcz9_3
              try clear hcz9_4
              try clear hcz9_5
              try clear hfz9_0
              try clear hfz9_1
              try clear hfz9_2
              try clear hfz9_3
              try clear hfz9_4
              try clear hfz9_5
              try clear hx149_0
              try clear hx149_1
              try clear hx149_2
              try clear hx149_3
              try clear hx149_4
              try clear hx149_5
              try clear hx151_0
              try clear hx152_0
              try clear hx152_1
              try clear hx152_2
              try clear hx152_3
              try clear hx152_4
              try clear hx152_5
              try clear p149
              try clear p151
              try clear p152
              try clear p2
              try clear q149
              try clear q151
              try clear q152
              obtain ⟨kq, x33_6, rfl, HA, HJ6, BK150, HB⟩ := hcut
              cases kq with
              | zero => exact absurd HA.out (by simp [linear_may.j1])
              | succ kj6 =>
                have H := HA.out
                clear HA
                simp only [linear_may.j1] at H
                by_cases c24 : x33_6 = true
                · subst c24
                  have H1 : (some false) = some r := by rw [if_pos rfl] at H; exact H
                  clear H
                  have H := H1
                  clear H1
                  obtain rfl := Option.some.inj H
                  go_wp2
                  go_ret
                  exact ⟨by first | rfl | (simp [errW_none, errW_some] <;> rfl) | (simp [*, errW_none, errW_some] <;> rfl), by repeat (first | (with_reducible first | exact HB.out | apply below_alloc | apply pw_below_drewN | apply below_drew1 | refine below_set ?_ GE150.out) | exact HB.out)⟩
                · replace c24 := Bool.eq_false_iff.mpr c24
                  subst c24
                  have H1 : (linear_may.l0 kj6 l0 a1 l2 l0 (l0.length : Int) (wrap64 (x11_1 + 1))) = some r := by rw [if_neg (show ¬ (false = true) by decide)] at H; exact H
                  clear H
                  have H := H1
                  clear H1
                  have H' := Aside0.mk H
                  clear H
                  go_wp2
                  go_roundg kj6
                  case measure => have := HK1.out; have := HJ6.out; omega
                  case rel => exact ⟨(wrap64 (x11_1 + 1)), (by first | rfl | (simp; done) | (simp [*]; done)), H', ⟨by have := HK1.out; have := HJ6.out; omega⟩, ⟨by repeat (first | (with_reducible first | exact HB.out | apply below_alloc | apply pw_below_drewN | apply below_drew1 | refine below_set ?_ GE150.out) | exact HB.out)⟩⟩
          · rw [if_neg c6] at H
            exact absurd H (by simp)
        · rw [if_neg c5] at H
          exact absurd H (by simp)
      · rw [if_neg c4] at H
        have c4b0 : decide (x11_1 < (l0.length : Int)) = false := decide_eq_false c4
        clear c4
        by_cases c25 : 0 ≤ a1
        · rw [if_pos c25] at H
          have c25b0 : decide (0 ≤ a1) = true := decide_eq_true c25
          clear c25
          by_cases c26 : a1 < (l2.length : Int)
          · rw [if_pos c26] at H
            have c26b0 : decide (a1 < (l2.length : Int)) = true := decide_eq_true c26
            clear c26
            obtain rfl := Option.some.inj H
            have p148 : 0 ≤ (a1 : Int) := of_decide_eq_true (by first | (with_reducible assumption) | assumption)
            have q148 : a1 < (l2.length : Int) := of_decide_eq_true (by first | (with_reducible assumption) | assumption)
            obtain ⟨ad148, e148, hx148_0⟩ := Kd.at_bool HR2.out a1 p148 q148
            cases e148
            replace hx148_0 := (HB.out.cell (World.block_lt_of_cell? w _ hx148_0)).trans hx148_0
            replace p148 := eq_true p148
            replace q148 := eq_true q148
            go_wp2
            go_ret
            exact ⟨by first | rfl | (simp [errW_none, errW_some] <;> rfl) | (simp [*, errW_none, errW_some] <;> rfl), by repeat (first | (with_reducible first | exact HB.out | apply below_alloc | apply pw_below_drewN | apply below_drew1) | exact HB.out)⟩
          · rw [if_neg c26] at H
            exact absurd H (by simp)
        · rw [if_neg c25] at H
          exact absurd H (by simp)

end Go.Proofs.Ytdcnnphgcapiaaa.P
