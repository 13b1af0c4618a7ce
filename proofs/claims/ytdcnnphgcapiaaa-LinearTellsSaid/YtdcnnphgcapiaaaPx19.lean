/- Walks, written by a program for this claim: each Go function that the laws reach comes to what its Lean function says. -/
import Derived.Test.YtdcnnphgcapiaaaPx0
import Derived.Test.YtdcnnphgcapiaaaPx8
import Derived.Test.YtdcnnphgcapiaaaPx14
import Derived.Test.YtdcnnphgcapiaaaPx18
namespace Go.Proofs.Ytdcnnphgcapiaaa.P
open Go.RowKit Go.Proofs.YtdcnnphgcapiaaaW.PrintWords Go.Proofs.YtdcnnphgcapiaaaW.PrintLast Go.Proofs.YtdcnnphgcapiaaaW.PrintMore
attribute [local go_sem] max2_int min2_int max_two min_two max_three min_three max_four min_four   -- for this text's walks alone
set_option linter.unusedVariables false
set_option linter.unusedSimpArgs false

/-! ### hatstandref15_Fits: function 19 -/
mutual
def hatstandref15_Fits.l0 : Nat → List (S65) → Int → List Int → List Int → Int → Option (Bool)
  | 0, _, _, _, _, _ => none
  | k + 1, x0, x1, x2, x8, x9 => if x9 < (x2.length : Int) then (if 0 ≤ x9 then (if 0 ≤ (rd x2 x9) then (if (rd x2 x9) < (x0.length : Int) then (if ((rd_T65 x0 (rd x2 x9)).f5) < 0 then (hatstandref15_Fits.j1 k x0 x1 x2 x8 x9 ((rd_T65 x0 (rd x2 x9)).f1) ((rd_T65 x0 (rd x2 x9)).f0) ((rd_T65 x0 (rd x2 x9)).f1) ((rd_T65 x0 (rd x2 x9)).f2) ((rd_T65 x0 (rd x2 x9)).f3) ((rd_T65 x0 (rd x2 x9)).f4) ((rd_T65 x0 (rd x2 x9)).f5)) else (hatstandref15_Fits.j1 k x0 x1 x2 x8 x9 false ((rd_T65 x0 (rd x2 x9)).f0) ((rd_T65 x0 (rd x2 x9)).f1) ((rd_T65 x0 (rd x2 x9)).f2) ((rd_T65 x0 (rd x2 x9)).f3) ((rd_T65 x0 (rd x2 x9)).f4) ((rd_T65 x0 (rd x2 x9)).f5))) else (none)) else (none)) else (none)) else (some true)
def hatstandref15_Fits.j1 : Nat → List (S65) → Int → List Int → List Int → Int → Bool → Int → Bool → Int → Int → Int → Int → Option (Bool)
  | 0, _, _, _, _, _, _, _, _, _, _, _, _ => none
  | k + 1, x0, x1, x2, x8, x9, x42, x401000, x401001, x401002, x401003, x401004, x401005 => if x42 = true then ((hatstandref5_Push.f x8 x1 x401002).bind fun bt401 => (hatstandref15_Fits.l0 k x0 x1 x2 bt401.1 (wrap64 (x9 + 1)))) else (if x401005 < 0 then ((hatstandref5_Pop.f x8).bind fun bt405 => (hatstandref15_Fits.l0 k x0 x1 x2 bt405.1 (wrap64 (x9 + 1)))) else ((hatstandref5_Do.f k x8 x1 x401001 x401002 x401003).bind fun bt410 => (if bt410.2 = true then (hatstandref15_Fits.l0 k x0 x1 x2 bt410.1 (wrap64 (x9 + 1))) else (some false))))
end
def hatstandref15_Fits.f (k : Nat) (l0 : List (S65)) (a1 : Int) (l2 : List Int) : Option (Bool) := (hatstandref15_stands.f k l0 l2).bind fun t397 => (if t397 = true then (hatstandref15_Fits.l0 k l0 a1 l2 ([] : List Int) 0) else (some false))
theorem hatstandref15_Fits.mono_l : ∀ k, (∀ y0 y1 y2 y3 y4, LeO (hatstandref15_Fits.l0 k y0 y1 y2 y3 y4) (hatstandref15_Fits.l0 (k + 1) y0 y1 y2 y3 y4)) ∧ (∀ y0 y1 y2 y3 y4 y5 y6 y7 y8 y9 y10 y11, LeO (hatstandref15_Fits.j1 k y0 y1 y2 y3 y4 y5 y6 y7 y8 y9 y10 y11) (hatstandref15_Fits.j1 (k + 1) y0 y1 y2 y3 y4 y5 y6 y7 y8 y9 y10 y11))
  | 0 => ⟨fun _ _ _ _ _ r h => by simp [hatstandref15_Fits.l0] at h, fun _ _ _ _ _ _ _ _ _ _ _ _ r h => by simp [hatstandref15_Fits.j1] at h⟩
  | k + 1 => by
    obtain ⟨ih0, ih1⟩ := hatstandref15_Fits.mono_l k
    refine ⟨?_, ?_⟩
    · intro y0 y1 y2 y3 y4
      unfold hatstandref15_Fits.l0
      repeat' first
      | (with_reducible exact ih0 _ _ _ _ _)
      | (with_reducible exact ih1 _ _ _ _ _ _ _ _ _ _ _ _)
      | (with_reducible exact hatstandref15_stands.mono _ _ _)
      | (with_reducible exact hatstandref5_Do.mono _ _ _ _ _ _)
      | (with_reducible exact LeO.refl _)
      | (with_reducible exact LeO.none _)
      | (with_reducible refine LeO.ite ?_ ?_)
      | (with_reducible refine LeO.bind ?_ (fun _ => ?_))
      | exact ih0 _ _ _ _ _
      | exact ih1 _ _ _ _ _ _ _ _ _ _ _ _
      | exact hatstandref15_stands.mono _ _ _
      | exact hatstandref5_Do.mono _ _ _ _ _ _
      | exact LeO.none _
      | refine LeO.ite ?_ ?_
      | refine LeO.bind ?_ (fun _ => ?_)
    · intro y0 y1 y2 y3 y4 y5 y6 y7 y8 y9 y10 y11
      unfold hatstandref15_Fits.j1
      repeat' first
      | (with_reducible exact ih0 _ _ _ _ _)
      | (with_reducible exact ih1 _ _ _ _ _ _ _ _ _ _ _ _)
      | (with_reducible exact hatstandref15_stands.mono _ _ _)
      | (with_reducible exact hatstandref5_Do.mono _ _ _ _ _ _)
      | (with_reducible exact LeO.refl _)
      | (with_reducible exact LeO.none _)
      | (with_reducible refine LeO.ite ?_ ?_)
      | (with_reducible refine LeO.bind ?_ (fun _ => ?_))
      | exact ih0 _ _ _ _ _
      | exact ih1 _ _ _ _ _ _ _ _ _ _ _ _
      | exact hatstandref15_stands.mono _ _ _
      | exact hatstandref5_Do.mono _ _ _ _ _ _
      | exact LeO.none _
      | refine LeO.ite ?_ ?_
      | refine LeO.bind ?_ (fun _ => ?_)
theorem hatstandref15_Fits.mono : ∀ a0 a1 a2 k, LeO (hatstandref15_Fits.f k a0 a1 a2) (hatstandref15_Fits.f (k + 1) a0 a1 a2) := by
  intro a0 a1 a2 k
  obtain ⟨ih0, ih1⟩ := hatstandref15_Fits.mono_l k
  unfold hatstandref15_Fits.f
  repeat' first
      | (with_reducible exact ih0 _ _ _ _ _)
      | (with_reducible exact ih1 _ _ _ _ _ _ _ _ _ _ _ _)
      | (with_reducible exact hatstandref15_stands.mono _ _ _)
      | (with_reducible exact hatstandref5_Do.mono _ _ _ _ _ _)
      | (with_reducible exact LeO.refl _)
      | (with_reducible exact LeO.none _)
      | (with_reducible refine LeO.ite ?_ ?_)
      | (with_reducible refine LeO.bind ?_ (fun _ => ?_))
      | exact ih0 _ _ _ _ _
      | exact ih1 _ _ _ _ _ _ _ _ _ _ _ _
      | exact hatstandref15_stands.mono _ _ _
      | exact hatstandref5_Do.mono _ _ _ _ _ _
      | exact LeO.none _
      | refine LeO.ite ?_ ?_
      | refine LeO.bind ?_ (fun _ => ?_)
set_option maxHeartbeats 8000000 in
set_option maxRecDepth 100000 in
theorem hatstandref15_Fits.calls (k : Nat) (A0 : Option Addr) (c0 : Nat) (l0 : List (S65)) (a1 : Int) (A2 : Option Addr) (c2 : Nat) (l2 : List Int) (r : Bool) (w : World) (hr0 : Kd.C k65 w A0 l0.length l0) (hc0 : l0.length ≤ c0) (hr2 : Kd.C (Kd.int .i64) w A2 l2.length l2) (hc2 : l2.length ≤ c2) (h : hatstandref15_Fits.f k l0 a1 l2 = some r) :
    Calls Try.prog 19 #[.slice A0 l0.length c0, .int .i64 a1, .slice A2 l2.length c2] w fun e w' => e = .returned (.bool r) ∧ Below w.heap.size w w' := by
  have hu65 := Try.underlying65
  have hu40 := Try.underlying40
  have HR0 := Aside0.mk hr0
  have HC0 := Aside0.mk hc0
  clear hr0 hc0
  have HR2 := Aside0.mk hr2
  have HC2 := Aside0.mk hc2
  clear hr2 hc2
  have HB := Aside0.mk (Below.refl w.heap.size w)
  have H : ((hatstandref15_stands.f k l0 l2).bind fun t397 => (if t397 = true then (hatstandref15_Fits.l0 k l0 a1 l2 ([] : List Int) 0) else (some false))) = some r := h
  clear h
  replace H := Option.bind_eq_some_iff.mp H
  obtain ⟨t397, A40, H⟩ := H
  replace H : (if t397 = true then (hatstandref15_Fits.l0 k l0 a1 l2 ([] : List Int) 0) else (some false)) = some r := H
  have A4 := Aside0.mk A40
  clear A40
  by_cases c5 : t397 = true
  · subst c5
    have H1 : (hatstandref15_Fits.l0 k l0 a1 l2 ([] : List Int) 0) = some r := by rw [if_pos rfl] at H; exact H
    clear H
    have H := H1
    clear H1
    have H' := Aside0.mk H
    clear H
    go_enter Try.func19, Try.ntmps19
    go_wp2_with (first | ((with_reducible refine gate_callee (f := 30) rfl ?_); refine goesL_ (some 20) rfl rfl Try.func30 (by kernel_rfl) rfl #[.slice A0 l0.length c0, .slice A2 l2.length c2] rfl (by (try simp only [List.map_toArray, List.map_cons, List.map_nil]); first | done | rfl | (simp only [List.length_drop, List.length_take]; rfl)) ?_; (with_reducible refine (hatstandref15_stands.calls k _ _ l0 _ _ l2 true _ ?side1 ?side2 ?side3 ?side4 A4.out).mono ?_); (case side1 => repeat (first | exact HR0.out | (with_reducible refine Kd.C_alloc ?_ _) | (with_reducible refine Kd.C_drewN ?_ _) | (with_reducible refine Kd.C_drew ?_))); (case side2 => exact HC0.out); (case side3 => repeat (first | exact HR2.out | (with_reducible refine Kd.C_alloc ?_ _) | (with_reducible refine Kd.C_drewN ?_ _) | (with_reducible refine Kd.C_drew ?_))); (case side4 => exact HC2.out); rintro e w6 ⟨rfl, hb⟩; refine ⟨_, rfl, ?_⟩; have n0_ := Aside0.mk (below_step (by repeat (first | (with_reducible first | exact HB.out | apply below_alloc | apply pw_below_drewN | apply below_drew1) | exact HB.out)) hb); clear HB; have HB := n0_; clear n0_; (try clear hb); (try clear hb2); (try clear hk); (try clear hi)))
    go_loopg [8, 9] k (fun kq v8 v9 w' => ∃ (x8_1 : List Int) (x9_1 : Int), v9 = .int .i64 x9_1 ∧ Aside0 (hatstandref15_Fits.l0 kq l0 a1 l2 x8_1 x9_1 = some r) ∧ Aside0 (kq ≤ k) ∧ Aside0 (Kd.R (Kd.int .u64) 27 w' w.heap.size (fun _ => True) v8 x8_1) ∧ Aside0 (Below w.heap.size w w'))
    case atStart => exact ⟨(([] : List Int)), (0), (by first | rfl | (simp; done) | (simp [*]; done)), H', ⟨Nat.le_refl _⟩, ⟨by first | exact Kd.R_nil _ _ _ _ _ | exact Kd.N_nil _ _ _ _ _ | exact Kd.V_nil _ _ _ _ _ | exact Kd.Q_nil _ _ _ _ _ | exact Kd.S_nil _ _ _ _ _⟩, ⟨by repeat (first | (with_reducible first | exact HB.out | apply below_alloc | apply pw_below_drewN | apply below_drew1) | exact HB.out)⟩⟩
    case round =>
      clear H'
      try clear c1
      try clear c2
      try clear p2
      try clear c3
      try clear c5
      obtain ⟨x8_1, x9_1, rfl, HA, HK1, HO_8, HB⟩ := hrel
      cases gk with
      | zero => exact absurd HA.out (by simp [hatstandref15_Fits.l0])
      | succ k1 =>
        have H := HA.out
        clear HA
        simp only [hatstandref15_Fits.l0] at H
        by_cases c7 : x9_1 < (l2.length : Int)
        · rw [if_pos c7] at H
          have c7b0 : decide (x9_1 < (l2.length : Int)) = true := decide_eq_true c7
          clear c7
          by_cases c8 : 0 ≤ x9_1
          · rw [if_pos c8] at H
            have c8b0 : decide (0 ≤ x9_1) = true := decide_eq_true c8
            clear c8
            by_cases c9 : 0 ≤ (rd l2 x9_1)
            · rw [if_pos c9] at H
              have c9b0 : decide (0 ≤ (rd l2 x9_1)) = true := decide_eq_true c9
              clear c9
              by_cases c10 : (rd l2 x9_1) < (l0.length : Int)
              · rw [if_pos c10] at H
                have c10b0 : decide ((rd l2 x9_1) < (l0.length : Int)) = true := decide_eq_true c10
                clear c10
                have HC11 := Aside0.mk H
                clear H
                have p398 : 0 ≤ (x9_1 : Int) := of_decide_eq_true (by first | (with_reducible assumption) | assumption)
                have q398 : x9_1 < (l2.length : Int) := of_decide_eq_true (by first | (with_reducible assumption) | assumption)
                obtain ⟨ad398, e398, hx398_0⟩ := Kd.at_int HR2.out x9_1 p398 q398
                cases e398
                replace hx398_0 := (HB.out.cell (World.block_lt_of_cell? w _ hx398_0)).trans hx398_0
                replace p398 := eq_true p398
                replace q398 := eq_true q398
                have p399 : 0 ≤ ((rd l2 x9_1) : Int) := of_decide_eq_true (by first | (with_reducible assumption) | assumption)
                have q399 : (rd l2 x9_1) < (l0.length : Int) := of_decide_eq_true (by first | (with_reducible assumption) | assumption)
                obtain ⟨ad399, e399, hx399_0, hx399_1, hx399_2, hx399_3, hx399_4, hx399_5⟩ := at_T65 HR0.out (rd l2 x9_1) p399 q399
                cases e399
                replace hx399_0 := (HB.out.cell (World.block_lt_of_cell? w _ hx399_0)).trans hx399_0
                replace hx399_1 := (HB.out.cell (World.block_lt_of_cell? w _ hx399_1)).trans hx399_1
                replace hx399_2 := (HB.out.cell (World.block_lt_of_cell? w _ hx399_2)).trans hx399_2
                replace hx399_3 := (HB.out.cell (World.block_lt_of_cell? w _ hx399_3)).trans hx399_3
                replace hx399_4 := (HB.out.cell (World.block_lt_of_cell? w _ hx399_4)).trans hx399_4
                replace hx399_5 := (HB.out.cell (World.block_lt_of_cell? w _ hx399_5)).trans hx399_5
                replace p399 := eq_true p399
                replace q399 := eq_true q399
                go_upto_region 9 with (first | ((with_reducible refine gate_dst (N := 10) rfl ?_); refine box_event ?hg (N := 10) ?hd (cs := #[.int .i64 0, .bool false, .int .u64 0, .int .i64 0, .int .i64 0, .int .i64 0]) (t := 65) ?hr ?_; (case hd => rfl); (case hg => rfl); (case hr => first | (go_simp; done) | (go_simp; rfl)); intro gb400 hg w12 hbox hb; have n0_ := Aside0.mk (Kd.R_below (by (with_reducible repeat (first | apply Kd.R_alloc | apply Kd.R_drewN | apply Kd.R_drew)); exact HO_8.out) hb); have n1_ := Aside0.mk (below_step (by repeat (first | (with_reducible first | exact HB.out | apply below_alloc | apply pw_below_drewN | apply below_drew1) | exact HB.out)) hb); have n2_ := Aside0.mk (hbox); have n3_ := Aside0.mk ((by rw [hg]; exact (below_size (by repeat (first | (with_reducible first | exact HB.out | apply below_alloc | apply pw_below_drewN | apply below_drew1) | exact HB.out))) : w.heap.size ≤ gb400)); have n4_ := Aside0.mk ((by rw [hg]; exact (below_size (by repeat (first | (with_reducible first | exact HB.out | apply below_alloc | apply pw_below_drewN | apply below_drew1) | exact HB.out))) : w.heap.size ≤ gb400)); clear HO_8; clear HB; have HO_8 := n0_; have HB := n1_; have BK400 := n2_; have GW400 := n3_; have GE400 := n4_; clear n0_ n1_ n2_ n3_ n4_; clear hb hbox hg; have hcz13_0 : w12.cell? ⟨gb400, 0, none⟩ = some (.int .i64 0) := (blk_cell BK400.out 0).trans rfl; have hcz13_1 : w12.cell? ⟨gb400, 1, none⟩ = some (.bool false) := (blk_cell BK400.out 1).trans rfl; have hcz13_2 : w12.cell? ⟨gb400, 2, none⟩ = some (.int .u64 0) := (blk_cell BK400.out 2).trans rfl; have hcz13_3 : w12.cell? ⟨gb400, 3, none⟩ = some (.int .i64 0) := (blk_cell BK400.out 3).trans rfl; have hcz13_4 : w12.cell? ⟨gb400, 4, none⟩ = some (.int .i64 0) := (blk_cell BK400.out 4).trans rfl; have hcz13_5 : w12.cell? ⟨gb400, 5, none⟩ = some (.int .i64 0) := (blk_cell BK400.out 5).trans rfl; have hfz13_0 := blk_frozen BK400.out 0; have hfz13_1 := blk_frozen BK400.out 1; have hfz13_2 := blk_frozen BK400.out 2; have hfz13_3 := blk_frozen BK400.out 3; have hfz13_4 := blk_frozen BK400.out 4; have hfz13_5 := blk_frozen BK400.out 5))
                (try simp only [Act.put, List.setIfInBounds_toArray, List.set_cons_zero, List.set_cons_succ])
                go_cut [42] (fun v42 wc => ∃ (kq : Nat) (x42_10 : Bool), v42 = .bool x42_10 ∧ Aside0 (hatstandref15_Fits.j1 kq l0 a1 l2 x8_1 x9_1 x42_10 ((rd_T65 l0 (rd l2 x9_1)).f0) ((rd_T65 l0 (rd l2 x9_1)).f1) ((rd_T65 l0 (rd l2 x9_1)).f2) ((rd_T65 l0 (rd l2 x9_1)).f3) ((rd_T65 l0 (rd l2 x9_1)).f4) ((rd_T65 l0 (rd l2 x9_1)).f5) = some r) ∧ Aside0 (kq ≤ k1) ∧ Aside0 (Kd.R (Kd.int .u64) 27 wc w.heap.size (fun _ => True) u8 x8_1) ∧ Aside0 (wc.heap[gb400]? = some (.cells #[.int .i64 ((rd_T65 l0 (rd l2 x9_1)).f0), .bool ((rd_T65 l0 (rd l2 x9_1)).f1), .int .u64 ((rd_T65 l0 (rd l2 x9_1)).f2), .int .i64 ((rd_T65 l0 (rd l2 x9_1)).f3), .int .i64 ((rd_T65 l0 (rd l2 x9_1)).f4), .int .i64 ((rd_T65 l0 (rd l2 x9_1)).f5)] 65 (0, 0))) ∧ Aside0 (Below w.heap.size w wc))
                case first =>
                  have H := HC11.out
                  clear HC11
                  by_cases c14 : ((rd_T65 l0 (rd l2 x9_1)).f5) < 0
                  · rw [if_pos c14] at H
                    have c14b0 : decide (((rd_T65 l0 (rd l2 x9_1)).f5) < 0) = true := decide_eq_true c14
                    clear c14
                    (first | rw [c14b0] | (simp only [i64_w, i32_w, Go.IntKind.wrap_u32]; rw [c14b0]) | skip)
                    have H' := Aside0.mk H
                    clear H
                    have hcz15_0 : w12.cell? ⟨gb400, 0, none⟩ = some (.int .i64 0) := (blk_cell BK400.out 0).trans rfl
                    have hcz15_1 : w12.cell? ⟨gb400, 1, none⟩ = some (.bool false) := (blk_cell BK400.out 1).trans rfl
                    have hcz15_2 : w12.cell? ⟨gb400, 2, none⟩ = some (.int .u64 0) := (blk_cell BK400.out 2).trans rfl
                    have hcz15_3 : w12.cell? ⟨gb400, 3, none⟩ = some (.int .i64 0) := (blk_cell BK400.out 3).trans rfl
                    have hcz15_4 : w12.cell? ⟨gb400, 4, none⟩ = some (.int .i64 0) := (blk_cell BK400.out 4).trans rfl
                    have hcz15_5 : w12.cell? ⟨gb400, 5, none⟩ = some (.int .i64 0) := (blk_cell BK400.out 5).trans rfl
                    have hfz15_0 := blk_frozen BK400.out 0
                    have hfz15_1 := blk_frozen BK400.out 1
                    have hfz15_2 := blk_frozen BK400.out 2
                    have hfz15_3 := blk_frozen BK400.out 3
                    have hfz15_4 := blk_frozen BK400.out 4
                    have hfz15_5 := blk_frozen BK400.out 5
                    go_wp2
                    go_meet
                    case rel => exact ⟨_, ((rd_T65 l0 (rd l2 x9_1)).f1), (by first | rfl | (simp; done) | (simp [*]; done)), H', ⟨by have := HK1.out; first | omega | exact Nat.le_refl _⟩, ⟨by (with_reducible repeat (first | apply Kd.R_alloc | apply Kd.R_drewN | apply Kd.R_drew)); exact Kd.R_mono (Kd.R_far (p := ⟨gb400, 5, none⟩) (Kd.R_far (p := ⟨gb400, 4, none⟩) (Kd.R_far (p := ⟨gb400, 3, none⟩) (Kd.R_far (p := ⟨gb400, 2, none⟩) (Kd.R_far (p := ⟨gb400, 1, none⟩) (Kd.R_far (p := ⟨gb400, 0, none⟩) (Kd.R_types HO_8.out BK400.out (by decide)) (fun _ hk => hk.2) (.int .i64 ((rd_T65 l0 (rd l2 x9_1)).f0))) (fun _ hk => hk.2) (.bool ((rd_T65 l0 (rd l2 x9_1)).f1))) (fun _ hk => hk.2) (.int .u64 ((rd_T65 l0 (rd l2 x9_1)).f2))) (fun _ hk => hk.2) (.int .i64 ((rd_T65 l0 (rd l2 x9_1)).f3))) (fun _ hk => hk.2) (.int .i64 ((rd_T65 l0 (rd l2 x9_1)).f4))) (fun _ hk => hk.2) (.int .i64 ((rd_T65 l0 (rd l2 x9_1)).f5))) (fun _ hk => trivial)⟩, ⟨by (with_reducible repeat (first | refine blk_drewN ?_ _ | refine blk_drew ?_ | refine blk_alloc ?_ _)); refine blk_put (cs := #[.int .i64 ((rd_T65 l0 (rd l2 x9_1)).f0), .bool ((rd_T65 l0 (rd l2 x9_1)).f1), .int .u64 ((rd_T65 l0 (rd l2 x9_1)).f2), .int .i64 ((rd_T65 l0 (rd l2 x9_1)).f3), .int .i64 ((rd_T65 l0 (rd l2 x9_1)).f4), .int .i64 0]) ?_ 5 _ rfl; (with_reducible repeat (first | refine blk_drewN ?_ _ | refine blk_drew ?_ | refine blk_alloc ?_ _)); refine blk_put (cs := #[.int .i64 ((rd_T65 l0 (rd l2 x9_1)).f0), .bool ((rd_T65 l0 (rd l2 x9_1)).f1), .int .u64 ((rd_T65 l0 (rd l2 x9_1)).f2), .int .i64 ((rd_T65 l0 (rd l2 x9_1)).f3), .int .i64 0, .int .i64 0]) ?_ 4 _ rfl; (with_reducible repeat (first | refine blk_drewN ?_ _ | refine blk_drew ?_ | refine blk_alloc ?_ _)); refine blk_put (cs := #[.int .i64 ((rd_T65 l0 (rd l2 x9_1)).f0), .bool ((rd_T65 l0 (rd l2 x9_1)).f1), .int .u64 ((rd_T65 l0 (rd l2 x9_1)).f2), .int .i64 0, .int .i64 0, .int .i64 0]) ?_ 3 _ rfl; (with_reducible repeat (first | refine blk_drewN ?_ _ | refine blk_drew ?_ | refine blk_alloc ?_ _)); refine blk_put (cs := #[.int .i64 ((rd_T65 l0 (rd l2 x9_1)).f0), .bool ((rd_T65 l0 (rd l2 x9_1)).f1), .int .u64 0, .int .i64 0, .int .i64 0, .int .i64 0]) ?_ 2 _ rfl; (with_reducible repeat (first | refine blk_drewN ?_ _ | refine blk_drew ?_ | refine blk_alloc ?_ _)); refine blk_put (cs := #[.int .i64 ((rd_T65 l0 (rd l2 x9_1)).f0), .bool false, .int .u64 0, .int .i64 0, .int .i64 0, .int .i64 0]) ?_ 1 _ rfl; (with_reducible repeat (first | refine blk_drewN ?_ _ | refine blk_drew ?_ | refine blk_alloc ?_ _)); refine blk_put (cs := #[.int .i64 0, .bool false, .int .u64 0, .int .i64 0, .int .i64 0, .int .i64 0]) ?_ 0 _ rfl; (with_reducible repeat (first | refine blk_drewN ?_ _ | refine blk_drew ?_ | refine blk_alloc ?_ _)); exact BK400.out⟩, ⟨by repeat (first | (with_reducible first | exact HB.out | apply below_alloc | apply pw_below_drewN | apply below_drew1 | refine below_set ?_ GE400.out) | exact HB.out)⟩⟩
                  · rw [if_neg c14] at H
                    have c14b0 : decide (((rd_T65 l0 (rd l2 x9_1)).f5) < 0) = false := decide_eq_false c14
                    clear c14
                    (first | rw [c14b0] | (simp only [i64_w, i32_w, Go.IntKind.wrap_u32]; rw [c14b0]) | skip)
                    have H' := Aside0.mk H
                    clear H
                    have hcz16_0 : w12.cell? ⟨gb400, 0, none⟩ = some (.int .i64 0) := (blk_cell BK400.out 0).trans rfl
                    have hcz16_1 : w12.cell? ⟨gb400, 1, none⟩ = some (.bool false) := (blk_cell BK400.out 1).trans rfl
                    have hcz16_2 : w12.cell? ⟨gb400, 2, none⟩ = some (.int .u64 0) := (blk_cell BK400.out 2).trans rfl
                    have hcz16_3 : w12.cell? ⟨gb400, 3, none⟩ = some (.int .i64 0) := (blk_cell BK400.out 3).trans rfl
                    have hcz16_4 : w12.cell? ⟨gb400, 4, none⟩ = some (.int .i64 0) := (blk_cell BK400.out 4).trans rfl
                    have hcz16_5 : w12.cell? ⟨gb400, 5, none⟩ = some (.int .i64 0) := (blk_cell BK400.out 5).trans rfl
                    have hfz16_0 := blk_frozen BK400.out 0
                    have hfz16_1 := blk_frozen BK400.out 1
                    have hfz16_2 := blk_frozen BK400.out 2
                    have hfz16_3 := blk_frozen BK400.out 3
                    have hfz16_4 := blk_frozen BK400.out 4
                    have hfz16_5 := blk_frozen BK400.out 5
                    go_wp2
                    go_meet
                    case rel => exact ⟨_, (false), (by first | rfl | (simp; done) | (simp [*]; done)), H', ⟨by have := HK1.out; first | omega | exact Nat.le_refl _⟩, ⟨by (with_reducible repeat (first | apply Kd.R_alloc | apply Kd.R_drewN | apply Kd.R_drew)); exact Kd.R_mono (Kd.R_far (p := ⟨gb400, 5, none⟩) (Kd.R_far (p := ⟨gb400, 4, none⟩) (Kd.R_far (p := ⟨gb400, 3, none⟩) (Kd.R_far (p := ⟨gb400, 2, none⟩) (Kd.R_far (p := ⟨gb400, 1, none⟩) (Kd.R_far (p := ⟨gb400, 0, none⟩) (Kd.R_types HO_8.out BK400.out (by decide)) (fun _ hk => hk.2) (.int .i64 ((rd_T65 l0 (rd l2 x9_1)).f0))) (fun _ hk => hk.2) (.bool ((rd_T65 l0 (rd l2 x9_1)).f1))) (fun _ hk => hk.2) (.int .u64 ((rd_T65 l0 (rd l2 x9_1)).f2))) (fun _ hk => hk.2) (.int .i64 ((rd_T65 l0 (rd l2 x9_1)).f3))) (fun _ hk => hk.2) (.int .i64 ((rd_T65 l0 (rd l2 x9_1)).f4))) (fun _ hk => hk.2) (.int .i64 ((rd_T65 l0 (rd l2 x9_1)).f5))) (fun _ hk => trivial)⟩, ⟨by (with_reducible repeat (first | refine blk_drewN ?_ _ | refine blk_drew ?_ | refine blk_alloc ?_ _)); refine blk_put (cs := #[.int .i64 ((rd_T65 l0 (rd l2 x9_1)).f0), .bool ((rd_T65 l0 (rd l2 x9_1)).f1), .int .u64 ((rd_T65 l0 (rd l2 x9_1)).f2), .int .i64 ((rd_T65 l0 (rd l2 x9_1)).f3), .int .i64 ((rd_T65 l0 (rd l2 x9_1)).f4), .int .i64 0]) ?_ 5 _ rfl; (with_reducible repeat (first | refine blk_drewN ?_ _ | refine blk_drew ?_ | refine blk_alloc ?_ _)); refine blk_put (cs := #[.int .i64 ((rd_T65 l0 (rd l2 x9_1)).f0), .bool ((rd_T65 l0 (rd l2 x9_1)).f1), .int .u64 ((rd_T65 l0 (rd l2 x9_1)).f2), .int .i64 ((rd_T65 l0 (rd l2 x9_1)).f3), .int .i64 0, .int .i64 0]) ?_ 4 _ rfl; (with_reducible repeat (first | refine blk_drewN ?_ _ | refine blk_drew ?_ | refine blk_alloc ?_ _)); refine blk_put (cs := #[.int .i64 ((rd_T65 l0 (rd l2 x9_1)).f0), .bool ((rd_T65 l0 (rd l2 x9_1)).f1), .int .u64 ((rd_T65 l0 (rd l2 x9_1)).f2), .int .i64 0, .int .i64 0, .int .i64 0]) ?_ 3 _ rfl; (with_reducible repeat (first | refine blk_drewN ?_ _ | refine blk_drew ?_ | refine blk_alloc ?_ _)); refine blk_put (cs := #[.int .i64 ((rd_T65 l0 (rd l2 x9_1)).f0), .bool ((rd_T65 l0 (rd l2 x9_1)).f1), .int .u64 0, .int .i64 0, .int .i64 0, .int .i64 0]) ?_ 2 _ rfl; (with_reducible repeat (first | refine blk_drewN ?_ _ | refine blk_drew ?_ | refine blk_alloc ?_ _)); refine blk_put (cs := #[.int .i64 ((rd_T65 l0 (rd l2 x9_1)).f0), .bool false, .int .u64 0, .int .i64 0, .int .i64 0, .int .i64 0]) ?_ 1 _ rfl; (with_reducible repeat (first | refine blk_drewN ?_ _ | refine blk_drew ?_ | refine blk_alloc ?_ _)); refine blk_put (cs := #[.int .i64 0, .bool false, .int .u64 0, .int .i64 0, .int .i64 0, .int .i64 0]) ?_ 0 _ rfl; (with_reducible repeat (first | refine blk_drewN ?_ _ | refine blk_drew ?_ | refine blk_alloc ?_ _)); exact BK400.out⟩, ⟨by repeat (first | (with_reducible first | exact HB.out | apply below_alloc | apply pw_below_drewN | apply below_drew1 | refine below_set ?_ GE400.out) | exact HB.out)⟩⟩
                case rest =>
                  clear HC11
                  try clear c1
                  try clear c2
                  try clear p2
                  try clear c3
                  try clear p3
                  try clear q3
                  try clear hx3
                  try clear c5
                  try clear c7
                  try clear c7b0
                  try clear c8
                  try clear c8b0
                  try clear c9
                  try clear c9b0
                  try clear c10
                  try clear c10b0
                  try clear c14
                  try clear c14b0
                  try clear hcz13_0
                  try clear hcz13_1
                  try clear hcz13_2
                  try clear hcz13_3
                  try clear hcz13_4
                  try clear hcz13_5
                  try clear hcz15_0
                  try clear hcz15_1
                  try clear hcz15_2
                  try clear hcz15_3
                  try clear hcz15_4
                  try clear hcz15_5
                  try clear hcz16_0
                  try clear hcz16_1
                  try clear hcz16_2
                  try clear hcz16_3
                  try clear hcz16_4
                  try clear hcz16_5
                  try clear hfz13_0
                  try clear hfz13_1
                  try clear hfz13_2
                  try clear hfz13_3
                  try clear hfz13_4
                  try clear hfz13_5
                  try clear hfz15_0
                  try clear hfz15_1
                  try clear hfz15_2
                  try clear hfz15_3
                  try clear hfz15_4
                  try clear hfz15_5
                  try clear hfz16_0
                  try clear hfz16_1
                  try clear hfz16_2
                  try clear hfz16_3
                  try clear hfz16_4
                  try clear hfz16_5
                  try clear hx398_0
                  try clear hx399_0
                  try clear hx399_1
                  try clear hx399_2
                  try clear hx399_3
                  try clear hx399_4
                  try clear hx399_5
                  try clear p2
                  try clear p398
                  try clear p399
                  try clear q398
                  try clear q399
                  obtain ⟨kq, x42_10, rfl, HA, HJ10, HO_8, BK400, HB⟩ := hcut
                  cases kq with
                  | zero => exact absurd HA.out (by simp [hatstandref15_Fits.j1])
                  | succ kj10 =>
                    have H := HA.out
                    clear HA
                    simp only [hatstandref15_Fits.j1] at H
                    by_cases c17 : x42_10 = true
                    · subst c17
                      have H1 : ((hatstandref5_Push.f x8_1 a1 ((rd_T65 l0 (rd l2 x9_1)).f2)).bind fun bt401 => (hatstandref15_Fits.l0 kj10 l0 a1 l2 bt401.1 (wrap64 (x9_1 + 1)))) = some r := by rw [if_pos rfl] at H; exact H
                      clear H
                      have H := H1
                      clear H1
                      replace H := Option.bind_eq_some_iff.mp H
                      obtain ⟨⟨t401, t402⟩, A180, H⟩ := H
                      replace H : (hatstandref15_Fits.l0 kj10 l0 a1 l2 t401 (wrap64 (x9_1 + 1))) = some r := H
                      have A18 := Aside0.mk A180
                      clear A180
                      have H' := Aside0.mk H
                      clear H
                      have hcz19_0 : wc.cell? ⟨gb400, 0, none⟩ = some (.int .i64 ((rd_T65 l0 (rd l2 x9_1)).f0)) := (blk_cell BK400.out 0).trans rfl
                      have hcz19_1 : wc.cell? ⟨gb400, 1, none⟩ = some (.bool ((rd_T65 l0 (rd l2 x9_1)).f1)) := (blk_cell BK400.out 1).trans rfl
                      have hcz19_2 : wc.cell? ⟨gb400, 2, none⟩ = some (.int .u64 ((rd_T65 l0 (rd l2 x9_1)).f2)) := (blk_cell BK400.out 2).trans rfl
                      have hcz19_3 : wc.cell? ⟨gb400, 3, none⟩ = some (.int .i64 ((rd_T65 l0 (rd l2 x9_1)).f3)) := (blk_cell BK400.out 3).trans rfl
                      have hcz19_4 : wc.cell? ⟨gb400, 4, none⟩ = some (.int .i64 ((rd_T65 l0 (rd l2 x9_1)).f4)) := (blk_cell BK400.out 4).trans rfl
                      have hcz19_5 : wc.cell? ⟨gb400, 5, none⟩ = some (.int .i64 ((rd_T65 l0 (rd l2 x9_1)).f5)) := (blk_cell BK400.out 5).trans rfl
                      have hfz19_0 := blk_frozen BK400.out 0
                      have hfz19_1 := blk_frozen BK400.out 1
                      have hfz19_2 := blk_frozen BK400.out 2
                      have hfz19_3 := blk_frozen BK400.out 3
                      have hfz19_4 := blk_frozen BK400.out 4
                      have hfz19_5 := blk_frozen BK400.out 5
                      obtain ⟨Ao20, co20, eo20⟩ := Kd.R_slice HO_8.out
                      subst eo20
                      go_wp2_with (first | ((with_reducible refine gate_callee (f := 26) rfl ?_); refine goesL_ (some 48) rfl rfl Try.func26 (by kernel_rfl) rfl #[.slice Ao20 x8_1.length co20, .int .i64 a1, .int .u64 ((rd_T65 l0 (rd l2 x9_1)).f2)] rfl (by (try simp only [List.map_toArray, List.map_cons, List.map_nil]); first | done | rfl | (simp only [List.length_drop, List.length_take]; rfl)) ?_; (with_reducible refine (hatstandref5_Push.calls _ _ x8_1 a1 ((rd_T65 l0 (rd l2 x9_1)).f2) t401 t402 _ ?side1 ?side2 A18.out).mono ?_); (case side1 => repeat (first | exact (Kd.R_reads' HO_8.out).2.2 | (with_reducible refine Kd.C_alloc ?_ _) | (with_reducible refine Kd.C_drewN ?_ _) | (with_reducible refine Kd.C_drew ?_))); (case side2 => exact (Kd.R_reads' HO_8.out).2.1); rintro e w21 ⟨v403, rfl, ho0, hb⟩; refine ⟨_, rfl, ?_⟩; have n0_ := Aside0.mk (Kd.R_elder' (by (with_reducible repeat (first | apply Kd.R_alloc | apply Kd.R_drewN | apply Kd.R_drew)); exact HO_8.out) (Kd.R_base ho0) hb); have n1_ := Aside0.mk (Kd.R_lower (Kd.R_new' ho0 (Kd.R_lt (by (with_reducible repeat (first | apply Kd.R_alloc | apply Kd.R_drewN | apply Kd.R_drew)); exact HO_8.out))) (below_size (by repeat (first | (with_reducible first | exact HB.out | apply below_alloc | apply pw_below_drewN | apply below_drew1 | refine below_set ?_ GE400.out) | exact HB.out)))); have n2_ := Aside0.mk (blk_below (g := gb400) (o := .cells #[.int .i64 ((rd_T65 l0 (rd l2 x9_1)).f0), .bool ((rd_T65 l0 (rd l2 x9_1)).f1), .int .u64 ((rd_T65 l0 (rd l2 x9_1)).f2), .int .i64 ((rd_T65 l0 (rd l2 x9_1)).f3), .int .i64 ((rd_T65 l0 (rd l2 x9_1)).f4), .int .i64 ((rd_T65 l0 (rd l2 x9_1)).f5)] 65 (0, 0)) (by (with_reducible repeat (first | refine blk_drewN ?_ _ | refine blk_drew ?_ | refine blk_alloc ?_ _)); exact BK400.out) hb); have n3_ := Aside0.mk (below_step (by repeat (first | (with_reducible first | exact HB.out | apply below_alloc | apply pw_below_drewN | apply below_drew1 | refine below_set ?_ GE400.out) | exact HB.out)) hb); clear HO_8; clear BK400; clear HB; have HO_8 := n0_; have HO404 := n1_; have BK400 := n2_; have HB := n3_; clear n0_ n1_ n2_ n3_; (try clear hb); (try clear hb2); (try clear hk); (try clear hi); (try clear ho0)))
                      go_roundg kj10
                      case measure => have := HK1.out; have := HJ10.out; omega
                      case rel => exact ⟨(t401), (wrap64 (x9_1 + 1)), (by first | rfl | (simp; done) | (simp [*]; done)), H', ⟨by have := HK1.out; have := HJ10.out; omega⟩, ⟨by (with_reducible repeat (first | apply Kd.R_alloc | apply Kd.R_drewN | apply Kd.R_drew)); exact Kd.R_mono HO404.out (fun _ hk => trivial)⟩, ⟨by repeat (first | (with_reducible first | exact HB.out | apply below_alloc | apply pw_below_drewN | apply below_drew1 | refine below_set ?_ GE400.out) | exact HB.out)⟩⟩
                    · replace c17 := Bool.eq_false_iff.mpr c17
                      subst c17
                      have H1 : (if ((rd_T65 l0 (rd l2 x9_1)).f5) < 0 then ((hatstandref5_Pop.f x8_1).bind fun bt405 => (hatstandref15_Fits.l0 kj10 l0 a1 l2 bt405.1 (wrap64 (x9_1 + 1)))) else ((hatstandref5_Do.f kj10 x8_1 a1 ((rd_T65 l0 (rd l2 x9_1)).f1) ((rd_T65 l0 (rd l2 x9_1)).f2) ((rd_T65 l0 (rd l2 x9_1)).f3)).bind fun bt410 => (if bt410.2 = true then (hatstandref15_Fits.l0 kj10 l0 a1 l2 bt410.1 (wrap64 (x9_1 + 1))) else (some false)))) = some r := by rw [if_neg (show ¬ (false = true) by decide)] at H; exact H
                      clear H
                      have H := H1
                      clear H1
                      by_cases c22 : ((rd_T65 l0 (rd l2 x9_1)).f5) < 0
                      · rw [if_pos c22] at H
                        have c22b0 : decide (((rd_T65 l0 (rd l2 x9_1)).f5) < 0) = true := decide_eq_true c22
                        clear c22
                        replace H := Option.bind_eq_some_iff.mp H
                        obtain ⟨⟨t405, t406, t407⟩, A230, H⟩ := H
                        replace H : (hatstandref15_Fits.l0 kj10 l0 a1 l2 t405 (wrap64 (x9_1 + 1))) = some r := H
                        have A23 := Aside0.mk A230
                        clear A230
                        have H' := Aside0.mk H
                        clear H
                        have hcz24_0 : wc.cell? ⟨gb400, 0, none⟩ = some (.int .i64 ((rd_T65 l0 (rd l2 x9_1)).f0)) := (blk_cell BK400.out 0).trans rfl
                        have hcz24_1 : wc.cell? ⟨gb400, 1, none⟩ = some (.bool ((rd_T65 l0 (rd l2 x9_1)).f1)) := (blk_cell BK400.out 1).trans rfl
                        have hcz24_2 : wc.cell? ⟨gb400, 2, none⟩ = some (.int .u64 ((rd_T65 l0 (rd l2 x9_1)).f2)) := (blk_cell BK400.out 2).trans rfl
                        have hcz24_3 : wc.cell? ⟨gb400, 3, none⟩ = some (.int .i64 ((rd_T65 l0 (rd l2 x9_1)).f3)) := (blk_cell BK400.out 3).trans rfl
                        have hcz24_4 : wc.cell? ⟨gb400, 4, none⟩ = some (.int .i64 ((rd_T65 l0 (rd l2 x9_1)).f4)) := (blk_cell BK400.out 4).trans rfl
                        have hcz24_5 : wc.cell? ⟨gb400, 5, none⟩ = some (.int .i64 ((rd_T65 l0 (rd l2 x9_1)).f5)) := (blk_cell BK400.out 5).trans rfl
                        have hfz24_0 := blk_frozen BK400.out 0
                        have hfz24_1 := blk_frozen BK400.out 1
                        have hfz24_2 := blk_frozen BK400.out 2
                        have hfz24_3 := blk_frozen BK400.out 3
                        have hfz24_4 := blk_frozen BK400.out 4
                        have hfz24_5 := blk_frozen BK400.out 5
                        obtain ⟨Ao25, co25, eo25⟩ := Kd.R_slice HO_8.out
                        subst eo25
                        go_wp2_with (first | ((with_reducible refine gate_callee (f := 27) rfl ?_); refine goesL_ (some 57) rfl rfl Try.func27 (by kernel_rfl) rfl #[.slice Ao25 x8_1.length co25] rfl (by (try simp only [List.map_toArray, List.map_cons, List.map_nil]); first | done | rfl | (simp only [List.length_drop, List.length_take]; rfl)) ?_; (with_reducible refine (hatstandref5_Pop.calls _ _ x8_1 t405 t406 t407 _ ?side1 ?side2 A23.out).mono ?_); (case side1 => repeat (first | exact (Kd.R_reads' HO_8.out).2.2 | (with_reducible refine Kd.C_alloc ?_ _) | (with_reducible refine Kd.C_drewN ?_ _) | (with_reducible refine Kd.C_drew ?_))); (case side2 => exact (Kd.R_reads' HO_8.out).2.1); rintro e w26 ⟨v408, rfl, ho0, hb⟩; refine ⟨_, rfl, ?_⟩; have n0_ := Aside0.mk (Kd.R_elder' (by (with_reducible repeat (first | apply Kd.R_alloc | apply Kd.R_drewN | apply Kd.R_drew)); exact HO_8.out) (Kd.R_base ho0) hb); have n1_ := Aside0.mk (Kd.R_lower (Kd.R_new' ho0 (Kd.R_lt (by (with_reducible repeat (first | apply Kd.R_alloc | apply Kd.R_drewN | apply Kd.R_drew)); exact HO_8.out))) (below_size (by repeat (first | (with_reducible first | exact HB.out | apply below_alloc | apply pw_below_drewN | apply below_drew1 | refine below_set ?_ GE400.out) | exact HB.out)))); have n2_ := Aside0.mk (blk_below (g := gb400) (o := .cells #[.int .i64 ((rd_T65 l0 (rd l2 x9_1)).f0), .bool ((rd_T65 l0 (rd l2 x9_1)).f1), .int .u64 ((rd_T65 l0 (rd l2 x9_1)).f2), .int .i64 ((rd_T65 l0 (rd l2 x9_1)).f3), .int .i64 ((rd_T65 l0 (rd l2 x9_1)).f4), .int .i64 ((rd_T65 l0 (rd l2 x9_1)).f5)] 65 (0, 0)) (by (with_reducible repeat (first | refine blk_drewN ?_ _ | refine blk_drew ?_ | refine blk_alloc ?_ _)); exact BK400.out) hb); have n3_ := Aside0.mk (below_step (by repeat (first | (with_reducible first | exact HB.out | apply below_alloc | apply pw_below_drewN | apply below_drew1 | refine below_set ?_ GE400.out) | exact HB.out)) hb); clear HO_8; clear BK400; clear HB; have HO_8 := n0_; have HO409 := n1_; have BK400 := n2_; have HB := n3_; clear n0_ n1_ n2_ n3_; (try clear hb); (try clear hb2); (try clear hk); (try clear hi); (try clear ho0)))
                        go_roundg kj10
                        case measure => have := HK1.out; have := HJ10.out; omega
                        case rel => exact ⟨(t405), (wrap64 (x9_1 + 1)), (by first | rfl | (simp; done) | (simp [*]; done)), H', ⟨by have := HK1.out; have := HJ10.out; omega⟩, ⟨by (with_reducible repeat (first | apply Kd.R_alloc | apply Kd.R_drewN | apply Kd.R_drew)); exact Kd.R_mono HO409.out (fun _ hk => trivial)⟩, ⟨by repeat (first | (with_reducible first | exact HB.out | apply below_alloc | apply pw_below_drewN | apply below_drew1 | refine below_set ?_ GE400.out) | exact HB.out)⟩⟩
                      · rw [if_neg c22] at H
                        have c22b0 : decide (((rd_T65 l0 (rd l2 x9_1)).f5) < 0) = false := decide_eq_false c22
                        clear c22
                        replace H := Option.bind_eq_some_iff.mp H
                        obtain ⟨⟨t410, t413⟩, A270, H⟩ := H
                        replace H : (if t413 = true then (hatstandref15_Fits.l0 kj10 l0 a1 l2 t410 (wrap64 (x9_1 + 1))) else (some false)) = some r := H
                        have A27 := Aside0.mk A270
                        clear A270
                        by_cases c28 : t413 = true
                        · subst c28
                          have H1 : (hatstandref15_Fits.l0 kj10 l0 a1 l2 t410 (wrap64 (x9_1 + 1))) = some r := by rw [if_pos rfl] at H; exact H
                          clear H
                          have H := H1
                          clear H1
                          have H' := Aside0.mk H
                          clear H
                          have hcz29_0 : wc.cell? ⟨gb400, 0, none⟩ = some (.int .i64 ((rd_T65 l0 (rd l2 x9_1)).f0)) := (blk_cell BK400.out 0).trans rfl
                          have hcz29_1 : wc.cell? ⟨gb400, 1, none⟩ = some (.bool ((rd_T65 l0 (rd l2 x9_1)).f1)) := (blk_cell BK400.out 1).trans rfl
                          have hcz29_2 : wc.cell? ⟨gb400, 2, none⟩ = some (.int .u64 ((rd_T65 l0 (rd l2 x9_1)).f2)) := (blk_cell BK400.out 2).trans rfl
                          have hcz29_3 : wc.cell? ⟨gb400, 3, none⟩ = some (.int .i64 ((rd_T65 l0 (rd l2 x9_1)).f3)) := (blk_cell BK400.out 3).trans rfl
                          have hcz29_4 : wc.cell? ⟨gb400, 4, none⟩ = some (.int .i64 ((rd_T65 l0 (rd l2 x9_1)).f4)) := (blk_cell BK400.out 4).trans rfl
                          have hcz29_5 : wc.cell? ⟨gb400, 5, none⟩ = some (.int .i64 ((rd_T65 l0 (rd l2 x9_1)).f5)) := (blk_cell BK400.out 5).trans rfl
                          have hfz29_0 := blk_frozen BK400.out 0
                          have hfz29_1 := blk_frozen BK400.out 1
                          have hfz29_2 := blk_frozen BK400.out 2
                          have hfz29_3 := blk_frozen BK400.out 3
                          have hfz29_4 := blk_frozen BK400.out 4
                          have hfz29_5 := blk_frozen BK400.out 5
                          obtain ⟨Ao30, co30, eo30⟩ := Kd.R_slice HO_8.out
                          subst eo30
                          go_wp2_with (first | ((with_reducible refine gate_callee (f := 14) rfl ?_); refine goesL_ (some 72) rfl rfl Try.func14 (by kernel_rfl) rfl #[.slice Ao30 x8_1.length co30, .int .i64 a1, .agg #[.bool ((rd_T65 l0 (rd l2 x9_1)).f1), .int .u64 ((rd_T65 l0 (rd l2 x9_1)).f2), .int .i64 ((rd_T65 l0 (rd l2 x9_1)).f3)]] rfl (by (try simp only [List.map_toArray, List.map_cons, List.map_nil]); first | done | rfl | (simp only [List.length_drop, List.length_take]; rfl)) ?_; (with_reducible refine (hatstandref5_Do.calls kj10 _ _ x8_1 a1 ((rd_T65 l0 (rd l2 x9_1)).f1) ((rd_T65 l0 (rd l2 x9_1)).f2) ((rd_T65 l0 (rd l2 x9_1)).f3) t410 true _ ?side1 ?side2 A27.out).mono ?_); (case side1 => repeat (first | exact (Kd.R_reads' HO_8.out).2.2 | (with_reducible refine Kd.C_alloc ?_ _) | (with_reducible refine Kd.C_drewN ?_ _) | (with_reducible refine Kd.C_drew ?_))); (case side2 => exact (Kd.R_reads' HO_8.out).2.1); rintro e w31 ⟨v411, rfl, ho0, hb⟩; refine ⟨_, rfl, ?_⟩; have n0_ := Aside0.mk (Kd.R_elder' (by (with_reducible repeat (first | apply Kd.R_alloc | apply Kd.R_drewN | apply Kd.R_drew)); exact HO_8.out) (Kd.R_base ho0) hb); have n1_ := Aside0.mk (Kd.R_lower (Kd.R_new' ho0 (Kd.R_lt (by (with_reducible repeat (first | apply Kd.R_alloc | apply Kd.R_drewN | apply Kd.R_drew)); exact HO_8.out))) (below_size (by repeat (first | (with_reducible first | exact HB.out | apply below_alloc | apply pw_below_drewN | apply below_drew1 | refine below_set ?_ GE400.out) | exact HB.out)))); have n2_ := Aside0.mk (blk_below (g := gb400) (o := .cells #[.int .i64 ((rd_T65 l0 (rd l2 x9_1)).f0), .bool ((rd_T65 l0 (rd l2 x9_1)).f1), .int .u64 ((rd_T65 l0 (rd l2 x9_1)).f2), .int .i64 ((rd_T65 l0 (rd l2 x9_1)).f3), .int .i64 ((rd_T65 l0 (rd l2 x9_1)).f4), .int .i64 ((rd_T65 l0 (rd l2 x9_1)).f5)] 65 (0, 0)) (by (with_reducible repeat (first | refine blk_drewN ?_ _ | refine blk_drew ?_ | refine blk_alloc ?_ _)); exact BK400.out) hb); have n3_ := Aside0.mk (below_step (by repeat (first | (with_reducible first | exact HB.out | apply below_alloc | apply pw_below_drewN | apply below_drew1 | refine below_set ?_ GE400.out) | exact HB.out)) hb); clear HO_8; clear BK400; clear HB; have HO_8 := n0_; have HO412 := n1_; have BK400 := n2_; have HB := n3_; clear n0_ n1_ n2_ n3_; (try clear hb); (try clear hb2); (try clear hk); (try clear hi); (try clear ho0)))
                          go_roundg kj10
                          case measure => have := HK1.out; have := HJ10.out; omega
                          case rel => exact ⟨(t410), (wrap64 (x9_1 + 1)), (by first | rfl | (simp; done) | (simp [*]; done)), H', ⟨by have := HK1.out; have := HJ10.out; omega⟩, ⟨by (with_reducible repeat (first | apply Kd.R_alloc | apply Kd.R_drewN | apply Kd.R_drew)); exact Kd.R_mono HO412.out (fun _ hk => trivial)⟩, ⟨by repeat (first | (with_reducible first | exact HB.out | apply below_alloc | apply pw_below_drewN | apply below_drew1 | refine below_set ?_ GE400.out) | exact HB.out)⟩⟩
                        · replace c28 := Bool.eq_false_iff.mpr c28
                          subst c28
                          have H1 : (some false) = some r := by rw [if_neg (show ¬ (false = true) by decide)] at H; exact H
                          clear H
                          have H := H1
                          clear H1
                          obtain rfl := Option.some.inj H
                          have hcz32_0 : wc.cell? ⟨gb400, 0, none⟩ = some (.int .i64 ((rd_T65 l0 (rd l2 x9_1)).f0)) := (blk_cell BK400.out 0).trans rfl
                          have hcz32_1 : wc.cell? ⟨gb400, 1, none⟩ = some (.bool ((rd_T65 l0 (rd l2 x9_1)).f1)) := (blk_cell BK400.out 1).trans rfl
                          have hcz32_2 : wc.cell? ⟨gb400, 2, none⟩ = some (.int .u64 ((rd_T65 l0 (rd l2 x9_1)).f2)) := (blk_cell BK400.out 2).trans rfl
                          have hcz32_3 : wc.cell? ⟨gb400, 3, none⟩ = some (.int .i64 ((rd_T65 l0 (rd l2 x9_1)).f3)) := (blk_cell BK400.out 3).trans rfl
                          have hcz32_4 : wc.cell? ⟨gb400, 4, none⟩ = some (.int .i64 ((rd_T65 l0 (rd l2 x9_1)).f4)) := (blk_cell BK400.out 4).trans rfl
                          have hcz32_5 : wc.cell? ⟨gb400, 5, none⟩ = some (.int .i64 ((rd_T65 l0 (rd l2 x9_1)).f5)) := (blk_cell BK400.out 5).trans rfl
                          have hfz32_0 := blk_frozen BK400.out 0
                          have hfz32_1 := blk_frozen BK400.out 1
                          have hfz32_2 := blk_frozen BK400.out 2
                          have hfz32_3 := blk_frozen BK400.out 3
                          have hfz32_4 := blk_frozen BK400.out 4
                          have hfz32_5 := blk_frozen BK400.out 5
                          obtain ⟨Ao33, co33, eo33⟩ := Kd.R_slice HO_8.out
                          subst eo33
                          go_wp2_with (first | ((with_reducible refine gate_callee (f := 14) rfl ?_); refine goesL_ (some 72) rfl rfl Try.func14 (by kernel_rfl) rfl #[.slice Ao33 x8_1.length co33, .int .i64 a1, .agg #[.bool ((rd_T65 l0 (rd l2 x9_1)).f1), .int .u64 ((rd_T65 l0 (rd l2 x9_1)).f2), .int .i64 ((rd_T65 l0 (rd l2 x9_1)).f3)]] rfl (by (try simp only [List.map_toArray, List.map_cons, List.map_nil]); first | done | rfl | (simp only [List.length_drop, List.length_take]; rfl)) ?_; (with_reducible refine (hatstandref5_Do.calls kj10 _ _ x8_1 a1 ((rd_T65 l0 (rd l2 x9_1)).f1) ((rd_T65 l0 (rd l2 x9_1)).f2) ((rd_T65 l0 (rd l2 x9_1)).f3) t410 false _ ?side1 ?side2 A27.out).mono ?_); (case side1 => repeat (first | exact (Kd.R_reads' HO_8.out).2.2 | (with_reducible refine Kd.C_alloc ?_ _) | (with_reducible refine Kd.C_drewN ?_ _) | (with_reducible refine Kd.C_drew ?_))); (case side2 => exact (Kd.R_reads' HO_8.out).2.1); rintro e w34 ⟨v411, rfl, ho0, hb⟩; refine ⟨_, rfl, ?_⟩; have n0_ := Aside0.mk (Kd.R_elder' (by (with_reducible repeat (first | apply Kd.R_alloc | apply Kd.R_drewN | apply Kd.R_drew)); exact HO_8.out) (Kd.R_base ho0) hb); have n1_ := Aside0.mk (Kd.R_lower (Kd.R_new' ho0 (Kd.R_lt (by (with_reducible repeat (first | apply Kd.R_alloc | apply Kd.R_drewN | apply Kd.R_drew)); exact HO_8.out))) (below_size (by repeat (first | (with_reducible first | exact HB.out | apply below_alloc | apply pw_below_drewN | apply below_drew1 | refine below_set ?_ GE400.out) | exact HB.out)))); have n2_ := Aside0.mk (blk_below (g := gb400) (o := .cells #[.int .i64 ((rd_T65 l0 (rd l2 x9_1)).f0), .bool ((rd_T65 l0 (rd l2 x9_1)).f1), .int .u64 ((rd_T65 l0 (rd l2 x9_1)).f2), .int .i64 ((rd_T65 l0 (rd l2 x9_1)).f3), .int .i64 ((rd_T65 l0 (rd l2 x9_1)).f4), .int .i64 ((rd_T65 l0 (rd l2 x9_1)).f5)] 65 (0, 0)) (by (with_reducible repeat (first | refine blk_drewN ?_ _ | refine blk_drew ?_ | refine blk_alloc ?_ _)); exact BK400.out) hb); have n3_ := Aside0.mk (below_step (by repeat (first | (with_reducible first | exact HB.out | apply below_alloc | apply pw_below_drewN | apply below_drew1 | refine below_set ?_ GE400.out) | exact HB.out)) hb); clear HO_8; clear BK400; clear HB; have HO_8 := n0_; have HO412 := n1_; have BK400 := n2_; have HB := n3_; clear n0_ n1_ n2_ n3_; (try clear hb); (try clear hb2); (try clear hk); (try clear hi); (try clear ho0)))
                          go_ret
                          exact ⟨by first | rfl | (simp [errW_none, errW_some] <;> rfl) | (simp [*, errW_none, errW_some] <;> rfl), by repeat (first | (with_reducible first | exact HB.out | apply below_alloc | apply pw_below_drewN | apply below_drew1 | refine below_set ?_ GE400.out) | exact HB.out)⟩
              · rw [if_neg c10] at H
                exact absurd H (by simp)
            · rw [if_neg c9] at H
              exact absurd H (by simp)
          · rw [if_neg c8] at H
            exact absurd H (by simp)
        · rw [if_neg c7] at H
          have c7b0 : decide (x9_1 < (l2.length : Int)) = false := decide_eq_false c7
          clear c7
          obtain rfl := Option.some.inj H
          go_wp2
          go_ret
          exact ⟨by first | rfl | (simp [errW_none, errW_some] <;> rfl) | (simp [*, errW_none, errW_some] <;> rfl), by repeat (first | (with_reducible first | exact HB.out | apply below_alloc | apply pw_below_drewN | apply below_drew1) | exact HB.out)⟩
  · replace c5 := Bool.eq_false_iff.mpr c5
    subst c5
    have H1 : (some false) = some r := by rw [if_neg (show ¬ (false = true) by decide)] at H; exact H
    clear H
    have H := H1
    clear H1
    obtain rfl := Option.some.inj H
    go_enter Try.func19, Try.ntmps19
    go_wp2_with (first | ((with_reducible refine gate_callee (f := 30) rfl ?_); refine goesL_ (some 20) rfl rfl Try.func30 (by kernel_rfl) rfl #[.slice A0 l0.length c0, .slice A2 l2.length c2] rfl (by (try simp only [List.map_toArray, List.map_cons, List.map_nil]); first | done | rfl | (simp only [List.length_drop, List.length_take]; rfl)) ?_; (with_reducible refine (hatstandref15_stands.calls k _ _ l0 _ _ l2 false _ ?side1 ?side2 ?side3 ?side4 A4.out).mono ?_); (case side1 => repeat (first | exact HR0.out | (with_reducible refine Kd.C_alloc ?_ _) | (with_reducible refine Kd.C_drewN ?_ _) | (with_reducible refine Kd.C_drew ?_))); (case side2 => exact HC0.out); (case side3 => repeat (first | exact HR2.out | (with_reducible refine Kd.C_alloc ?_ _) | (with_reducible refine Kd.C_drewN ?_ _) | (with_reducible refine Kd.C_drew ?_))); (case side4 => exact HC2.out); rintro e w35 ⟨rfl, hb⟩; refine ⟨_, rfl, ?_⟩; have n0_ := Aside0.mk (below_step (by repeat (first | (with_reducible first | exact HB.out | apply below_alloc | apply pw_below_drewN | apply below_drew1) | exact HB.out)) hb); clear HB; have HB := n0_; clear n0_; (try clear hb); (try clear hb2); (try clear hk); (try clear hi)))
    go_ret
    exact ⟨by first | rfl | (simp [errW_none, errW_some] <;> rfl) | (simp [*, errW_none, errW_some] <;> rfl), by repeat (first | (with_reducible first | exact HB.out | apply below_alloc | apply pw_below_drewN | apply below_drew1) | exact HB.out)⟩

end Go.Proofs.Ytdcnnphgcapiaaa.P
