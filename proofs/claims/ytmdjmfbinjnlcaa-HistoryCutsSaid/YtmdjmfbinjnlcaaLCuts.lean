/- HistoryCuts: the calls of the beginning of events are the first ones of all their calls, but that those which are answered behind it are not yet: the walk, for every input. -/
import Derived.Test.YtmdjmfbinjnlcaaPureHistoryCuts
namespace Go.Proofs.Ytmdjmfbinjnlcaa.P
open Go.RowKit Go.Proofs.Ytmdjmfbinjnlcaa.Pure Go.Proofs.YtmdjmfbinjnlcaaW.PrintWords Go.Proofs.YtmdjmfbinjnlcaaW.PrintLast Go.Proofs.YtmdjmfbinjnlcaaW.PrintMore
attribute [local go_sem] max2_int min2_int max_two min_two max_three min_three max_four min_four   -- for this text's walks alone
set_option linter.unusedVariables false
set_option linter.unusedSimpArgs false
set_option maxRecDepth 100000
theorem eqA45 (d : Nat) (w : World) (x0 y0 : Int) (x1 y1 : Bool) (x2 y2 : Int) (x3 y3 : Int) (x4 y4 : Int) (x5 y5 : Int) :
    (Op.equalIn (d + 2) 45 (.agg #[.int .i64 x0, .bool x1, .int .u64 x2, .int .i64 x3, .int .i64 x4, .int .i64 x5]) (.agg #[.int .i64 y0, .bool y1, .int .u64 y2, .int .i64 y3, .int .i64 y4, .int .i64 y5])).run Try.prog w = .ok (x0 == y0 && (x1 == y1 && (x2 == y2 && (x3 == y3 && (x4 == y4 && (x5 == y5)))))) w := by
  refine eqA_of Try.underlying45 (by kernel_rfl) ?_
  refine eqf_cons (by rfl) (by go_simp; rfl) (by go_simp; rfl) (by go_simp) ?_
  refine eqf_cons (by rfl) (by go_simp; rfl) (by go_simp; rfl) (by go_simp) ?_
  refine eqf_cons (by rfl) (by go_simp; rfl) (by go_simp; rfl) (by go_simp) ?_
  refine eqf_cons (by rfl) (by go_simp; rfl) (by go_simp; rfl) (by go_simp) ?_
  refine eqf_cons (by rfl) (by go_simp; rfl) (by go_simp; rfl) (by go_simp) ?_
  exact eqf_last (by rfl) (by go_simp; rfl) (by go_simp; rfl) (by go_simp)
theorem neq45 (w : World) (x0 : Int) (x1 : Bool) (x2 x3 x4 x5 : Int) : (binOp .neq 45 (.agg #[.int .i64 x0, .bool x1, .int .u64 x2, .int .i64 x3, .int .i64 x4, .int .i64 x5]) (.agg #[.int .i64 x0, .bool x1, .int .u64 x2, .int .i64 x3, .int .i64 x4, .int .i64 x5])).run Try.prog w = .ok (.bool false) w := by
  rw [run_neq_struct, eqA45 9998]
  simp
set_option maxHeartbeats 8000000 in
set_option maxRecDepth 100000 in
theorem cuts_walk (A0 : Option Addr) (c0 : Nat) (l0 : List S61) (a1 : Int) (w : World) (hr0 : Kd.C k61 w A0 l0.length l0) (hc0_ : l0.length ≤ c0) (hm : l0.length ≤ maxLen) (hy : l0.length * 32 ≤ 140737488351232)
    (hw : ∀ x ∈ l0, (Lit.int .i64 x.f0).wf = true ∧ (Lit.int .i64 x.f1).wf = true ∧ (Lit.int .u64 x.f3).wf = true) (ha1 : (Lit.int .i64 a1).wf = true) :
    Calls Try.prog 6 #[.slice A0 l0.length c0, .int .i64 a1] w fun e w' => e = .returned (.bool true) ∧ Below w.heap.size w w' := by
  have HB := Aside0.mk (Below.refl w.heap.size w)
  have HR0 := Aside0.mk hr0
  have HC0 := Aside0.mk hc0_
  have hu45 := Try.underlying45
  have hneq := neq45
  by_cases hbig : 100 < l0.length
  · have b0 : decide ((100 : Int) < (l0.length : Int)) = true := decide_eq_true (by omega)
    clear hr0 hc0_ hm hy hw ha1
    go_enter Try.func6, Try.ntmps6
    go_wp2_with (first | (go_at_call 9; (with_reducible refine (hatstandlaw14_shown.calls _ true _ (hist_shown 0)).mono ?_); rintro e w1 ⟨rfl, hb_⟩; have n_HB := Aside0.mk (below_step HB.out hb_); clear hb_ HB; have HB := n_HB; clear n_HB))
    go_ret
    exact ⟨rfl, HB.out⟩
  obtain ⟨K, E, p, C, D, hsh, hev, hE, hpk, hpE, hC, hD, hDC, hC100, hlaw⟩ := cuts_pure l0 a1 (by omega) hw ha1
  have b0 : decide ((100 : Int) < (l0.length : Int)) = false := decide_eq_false (by omega)
  have HSH := Aside0.mk hsh
  have HEV := Aside0.mk hev
  have HPK := Aside0.mk hpk
  have HCC := Aside0.mk hC
  have HLAW := Aside0.mk hlaw
  have HPE := Aside0.mk hpE
  have HE := Aside0.mk hE
  have HDC := Aside0.mk hDC
  have HC100 := Aside0.mk hC100
  obtain ⟨T, hT⟩ : ∃ T, E.take p = T := ⟨_, rfl⟩
  rw [hT] at hD
  have HT := Aside0.mk hT
  have HDD := Aside0.mk hD
  have hlt : T.length = p := by rw [← hT]; simp; omega
  have HLT := Aside0.mk hlt
  have e1 : (E.length : Int) < 1000 := by omega
  have e2 : (0 : Int) ≤ (E.length : Int) := by omega
  have d1 : decide (C.length < D.length) = false := decide_eq_false (by omega)
  obtain ⟨i0, hi0, _, _, _⟩ := info_parts info47
  clear hr0 hc0_ hm hy hw ha1 hsh hev hpk hC hD hT hlaw hbig hpE hE hDC hC100 hlt
  go_enter Try.func6, Try.ntmps6
  go_upto_region 6 with (first
    | (go_at_call 9; (with_reducible refine (hatstandlaw14_shown.calls _ true _ HSH.out).mono ?_); rintro e w1 ⟨rfl, hb_⟩; have n_HB := Aside0.mk (below_step HB.out hb_); clear hb_ HB; have HB := n_HB; clear n_HB)
    | (go_at_call 17; (with_reducible refine (hatstandlaw14_events.calls _ _ _ l0 E _ ?s1 ?s2 HEV.out).mono ?_); (case s1 => exact Kd.C_below HR0.out HB.out); (case s2 => exact HC0.out); rintro e w2 ⟨v6, rfl, hr_, hb_⟩; obtain ⟨A6, c6, e6_⟩ := Kd.R_slice hr_; subst e6_; have HRE := Aside0.mk (Kd.R_lower hr_ (below_size HB.out)); have n_HB := Aside0.mk (below_step HB.out hb_); clear hb_ HB hr_; have HB := n_HB; clear n_HB)
    | (go_at_call 18; (with_reducible refine (hatstandlaw14_pick.calls _ _ (p : Int) _ HPK.out).mono ?_); rintro e w' ⟨rfl, ⟨nd, rfl⟩⟩))
  have n_E := Aside0.mk (Kd.R_drewN HRE.out nd)
  have n_HB := Aside0.mk (pw_below_drewN HB.out nd)
  clear HRE HB
  have HRE := n_E
  have HB := n_HB
  clear n_E n_HB
  generalize w2.drewN nd = w3 at HRE HB ⊢
  have hcut := cut_to (P := Try.prog) 22 47 .i64 Try.underlying22 hi0 A6 E.length c6 (p : Int) (by omega) (by have := HPE.out; omega) (Kd.R_reads' HRE.out).2.1
  rw [Int.toNat_natCast] at hcut
  have hcut2 := fun W => (hcut W).trans (show Result.ok (Value.slice A6 p c6) W = Result.ok (Value.slice A6 T.length c6) W by rw [HLT.out])
  have hp1 : ((0 : Int) ≤ (p : Int)) = True := eq_true (by omega)
  have hp2 : ((p : Int) ≤ (E.length : Int)) = True := eq_true (by have := HPE.out; omega)
  clear hcut hi0
  go_upto_region 10 with (first
    | (go_at_call 13; (with_reducible refine (history_Calls.calls _ _ E C 0 _ ?s1 ?s2 HCC.out).mono ?_); (case s1 => exact (Kd.R_reads' HRE.out).2.2); (case s2 => exact (Kd.R_reads' HRE.out).2.1); rintro e w4 ⟨v8, rfl, hr_, hb_⟩; obtain ⟨A8, c8, e8_⟩ := Kd.R_slice hr_; subst e8_; have HRC := Aside0.mk (Kd.R_lower hr_ (below_size HB.out)); have n_E := Aside0.mk (Kd.R_below HRE.out hb_); have n_HB := Aside0.mk (below_step HB.out hb_); clear hb_ HB hr_ HRE; have HB := n_HB; have HRE := n_E; clear n_HB n_E)
    | (go_at_call 13; (with_reducible refine (history_Calls.calls _ _ T D 0 _ ?s1 ?s2 HDD.out).mono ?_); (case s1 => have h1 := Kd.R_take (m := p) HRE.out HPE.out; rw [HT.out] at h1; exact (Kd.R_reads' h1).2.2); (case s2 => have h1 := (Kd.R_reads' HRE.out).2.1; have h2 := HPE.out; rw [HLT.out]; omega); rintro e w5 ⟨v10, rfl, hr_, hb_⟩; obtain ⟨A10, c10, e10_⟩ := Kd.R_slice hr_; subst e10_; have HRD := Aside0.mk (Kd.R_lower hr_ (below_size HB.out)); have n_C := Aside0.mk (Kd.R_below HRC.out hb_); have n_HB := Aside0.mk (below_step HB.out hb_); clear hb_ HB hr_ HRC; have HB := n_HB; have HRC := n_C; clear n_HB n_C))
  go_wp2
  clear HRE hcut2 HT HDD HLT HCC HPK HEV HSH HR0 HC0 d1 e1 e2 HE HPE
  go_loopg [12] (C.length + 1) (fun kq v12 w' => ∃ (i : Nat) (x : Int), v12 = .int .i64 x ∧ Aside0 (x = (i : Int)) ∧ Aside0 (kq + i = C.length + 1 ∧ i ≤ C.length) ∧ Aside0 (Kd.R k45 45 w' w.heap.size (fun _ => True) (.slice A8 C.length c8) C) ∧ Aside0 (Kd.R k45 45 w' w.heap.size (fun _ => True) (.slice A10 D.length c10) D) ∧ Aside0 (Below w.heap.size w w'))
  case atStart => exact ⟨0, 0, by rfl, ⟨rfl⟩, ⟨by omega, by omega⟩, HRC, HRD, HB⟩
  case round =>
    clear HRC HRD HB
    obtain ⟨i, x, rfl, HX, HK, HRC, HRD, HB⟩ := hrel
    cases gk with
    | zero => exact absurd HK.out (by omega)
    | succ k1 =>
      by_cases hlt : i < C.length
      · have HLT := Aside0.mk hlt
        have d0 : decide (x < (C.length : Int)) = true := decide_eq_true (by have := HX.out; omega)
        have p1 : ((0 : Int) ≤ x) = True := eq_true (by have := HX.out; omega)
        have q1 : (x < (C.length : Int)) = True := eq_true (by have := HX.out; omega)
        obtain ⟨ad8, e8, hx0, hx1, hx2, hx3, hx4, hx5⟩ := at_T45 (Kd.R_reads' HRC.out).2.2 x (by have := HX.out; omega) (by have := HX.out; omega)
        cases e8
        have hl := HLAW.out i hlt
        rw [← HX.out] at hl
        by_cases hiD : i < D.length
        · have xD : decide (x < (D.length : Int)) = true := decide_eq_true (by have := HX.out; omega)
          have xD2 : decide ((D.length : Int) ≤ x) = false := decide_eq_false (by have := HX.out; omega)
          have q2 : (x < (D.length : Int)) = True := eq_true (by have := HX.out; omega)
          obtain ⟨ad10, e10, hy0, hy1, hy2, hy3, hy4, hy5⟩ := at_T45 (Kd.R_reads' HRD.out).2.2 x (by have := HX.out; omega) (by have := HX.out; omega)
          cases e10
          have hok := hl.2 hiD
          have h4 : decide ((rd_T45 C x).f4 < (p : Int)) = true := by rw [hl.1]; exact decide_eq_true hiD
          clear hl hlt hiD
          generalize rd_T45 C x = c at hx0 hx1 hx2 hx3 hx4 hx5 hok h4
          generalize rd_T45 D x = d at hy0 hy1 hy2 hy3 hy4 hy5 hok
          obtain ⟨T, push, V, st, F, To⟩ := c
          simp only at hx0 hx1 hx2 hx3 hx4 hx5 h4
          obtain ⟨hok1, hok2⟩ := hok
          by_cases hcut : (p : Int) ≤ To ∨ To < 0
          · obtain ⟨ho1, ho2, ho3⟩ := hok1 hcut
            clear hok1 hok2
            simp only at ho1 ho2 ho3
            obtain ⟨dT, dp, dV, dst, dF, dTo⟩ := d
            simp only at hy0 hy1 hy2 hy3 hy4 hy5 ho1 ho2
            simp only [S45.mk.injEq] at ho3
            obtain ⟨rfl, rfl, _, rfl, rfl, rfl⟩ := ho3
            cases dp
            · obtain rfl := ho2 rfl
              clear ho1 ho2
              by_cases hp : (p : Int) ≤ To
              · have g1 : decide ((p : Int) ≤ To) = true := decide_eq_true hp
                clear hp hcut
                have hya := fun o => pw_cell_below ((Below.refl wr.heap.size wr).alloc (Nat.le_refl _) o) hy2
                go_upto_region 21 with (fail)
                clear hya
                have hb1 : Below wr.heap.size wr (wr.alloc (.cells #[.int .i64 dT, .bool false, .int .u64 0, .int .i64 0, .int .i64 dF, .int .i64 (-1)] 45)) := below_alloc (Below.refl _ _) _
                replace hy0 := (hb1.cell (World.block_lt_of_cell? wr _ hy0)).trans hy0
                replace hy1 := (hb1.cell (World.block_lt_of_cell? wr _ hy1)).trans hy1
                replace hy2 := (hb1.cell (World.block_lt_of_cell? wr _ hy2)).trans hy2
                replace hy3 := (hb1.cell (World.block_lt_of_cell? wr _ hy3)).trans hy3
                replace hy4 := (hb1.cell (World.block_lt_of_cell? wr _ hy4)).trans hy4
                replace hy5 := (hb1.cell (World.block_lt_of_cell? wr _ hy5)).trans hy5
                replace hx0 := (hb1.cell (World.block_lt_of_cell? wr _ hx0)).trans hx0
                replace hx1 := (hb1.cell (World.block_lt_of_cell? wr _ hx1)).trans hx1
                replace hx2 := (hb1.cell (World.block_lt_of_cell? wr _ hx2)).trans hx2
                replace hx3 := (hb1.cell (World.block_lt_of_cell? wr _ hx3)).trans hx3
                replace hx4 := (hb1.cell (World.block_lt_of_cell? wr _ hx4)).trans hx4
                replace hx5 := (hb1.cell (World.block_lt_of_cell? wr _ hx5)).trans hx5
                have he0 : (wr.alloc (.cells #[.int .i64 dT, .bool false, .int .u64 0, .int .i64 0, .int .i64 dF, .int .i64 (-1)] 45)).cell? ⟨wr.heap.size, 0, none⟩ = some (.int .i64 dT) := (blk_cell (blk_new _ _) 0).trans rfl
                have he1 : (wr.alloc (.cells #[.int .i64 dT, .bool false, .int .u64 0, .int .i64 0, .int .i64 dF, .int .i64 (-1)] 45)).cell? ⟨wr.heap.size, 1, none⟩ = some (.bool false) := (blk_cell (blk_new _ _) 1).trans rfl
                have he2 : (wr.alloc (.cells #[.int .i64 dT, .bool false, .int .u64 0, .int .i64 0, .int .i64 dF, .int .i64 (-1)] 45)).cell? ⟨wr.heap.size, 2, none⟩ = some (.int .u64 0) := (blk_cell (blk_new _ _) 2).trans rfl
                have he3 : (wr.alloc (.cells #[.int .i64 dT, .bool false, .int .u64 0, .int .i64 0, .int .i64 dF, .int .i64 (-1)] 45)).cell? ⟨wr.heap.size, 3, none⟩ = some (.int .i64 0) := (blk_cell (blk_new _ _) 3).trans rfl
                have he4 : (wr.alloc (.cells #[.int .i64 dT, .bool false, .int .u64 0, .int .i64 0, .int .i64 dF, .int .i64 (-1)] 45)).cell? ⟨wr.heap.size, 4, none⟩ = some (.int .i64 dF) := (blk_cell (blk_new _ _) 4).trans rfl
                have he5 : (wr.alloc (.cells #[.int .i64 dT, .bool false, .int .u64 0, .int .i64 0, .int .i64 dF, .int .i64 (-1)] 45)).cell? ⟨wr.heap.size, 5, none⟩ = some (.int .i64 (-1)) := (blk_cell (blk_new _ _) 5).trans rfl
                have n_C := Aside0.mk (Kd.R_below HRC.out hb1)
                have n_D := Aside0.mk (Kd.R_below HRD.out hb1)
                have n_B := Aside0.mk (below_step HB.out hb1)
                clear hb1 HRC HRD HB
                have HRC := n_C
                have HRD := n_D
                have HB := n_B
                clear n_C n_D n_B
                generalize wr.alloc (.cells #[.int .i64 dT, .bool false, .int .u64 0, .int .i64 0, .int .i64 dF, .int .i64 (-1)] 45) = wn at hx0 hx1 hx2 hx3 hx4 hx5 hy0 hy1 hy2 hy3 hy4 hy5 he0 he1 he2 he3 he4 he5 HRC HRD HB ⊢
                generalize wr.heap.size = ge at he0 he1 he2 he3 he4 he5 ⊢
                go_quiet (fail)
                go_upto_region 23 with (fail)
                go_quiet (fail)
                go_wp2
                go_roundg k1
                case measure => have := HK.out; omega
                case rel => exact ⟨i + 1, wrap64 (x + 1), by first | rfl | (simp; done) | (simp [*]; done), ⟨by have := HX.out; have := HC100.out; have := HLT.out; unfold wrap64; omega⟩, ⟨by have := HK.out; have := HLT.out; omega⟩, ⟨Kd.R_drewN HRC.out _⟩, ⟨Kd.R_drewN HRD.out _⟩, ⟨pw_below_drewN HB.out _⟩⟩
              · have g1 : decide ((p : Int) ≤ To) = false := decide_eq_false hp
                have g2 : decide (To < 0) = true := decide_eq_true (by omega)
                clear hp hcut
                have hya := fun o => pw_cell_below ((Below.refl wr.heap.size wr).alloc (Nat.le_refl _) o) hy2
                go_upto_region 21 with (fail)
                clear hya
                have hb1 : Below wr.heap.size wr (wr.alloc (.cells #[.int .i64 dT, .bool false, .int .u64 0, .int .i64 0, .int .i64 dF, .int .i64 (-1)] 45)) := below_alloc (Below.refl _ _) _
                replace hy0 := (hb1.cell (World.block_lt_of_cell? wr _ hy0)).trans hy0
                replace hy1 := (hb1.cell (World.block_lt_of_cell? wr _ hy1)).trans hy1
                replace hy2 := (hb1.cell (World.block_lt_of_cell? wr _ hy2)).trans hy2
                replace hy3 := (hb1.cell (World.block_lt_of_cell? wr _ hy3)).trans hy3
                replace hy4 := (hb1.cell (World.block_lt_of_cell? wr _ hy4)).trans hy4
                replace hy5 := (hb1.cell (World.block_lt_of_cell? wr _ hy5)).trans hy5
                replace hx0 := (hb1.cell (World.block_lt_of_cell? wr _ hx0)).trans hx0
                replace hx1 := (hb1.cell (World.block_lt_of_cell? wr _ hx1)).trans hx1
                replace hx2 := (hb1.cell (World.block_lt_of_cell? wr _ hx2)).trans hx2
                replace hx3 := (hb1.cell (World.block_lt_of_cell? wr _ hx3)).trans hx3
                replace hx4 := (hb1.cell (World.block_lt_of_cell? wr _ hx4)).trans hx4
                replace hx5 := (hb1.cell (World.block_lt_of_cell? wr _ hx5)).trans hx5
                have he0 : (wr.alloc (.cells #[.int .i64 dT, .bool false, .int .u64 0, .int .i64 0, .int .i64 dF, .int .i64 (-1)] 45)).cell? ⟨wr.heap.size, 0, none⟩ = some (.int .i64 dT) := (blk_cell (blk_new _ _) 0).trans rfl
                have he1 : (wr.alloc (.cells #[.int .i64 dT, .bool false, .int .u64 0, .int .i64 0, .int .i64 dF, .int .i64 (-1)] 45)).cell? ⟨wr.heap.size, 1, none⟩ = some (.bool false) := (blk_cell (blk_new _ _) 1).trans rfl
                have he2 : (wr.alloc (.cells #[.int .i64 dT, .bool false, .int .u64 0, .int .i64 0, .int .i64 dF, .int .i64 (-1)] 45)).cell? ⟨wr.heap.size, 2, none⟩ = some (.int .u64 0) := (blk_cell (blk_new _ _) 2).trans rfl
                have he3 : (wr.alloc (.cells #[.int .i64 dT, .bool false, .int .u64 0, .int .i64 0, .int .i64 dF, .int .i64 (-1)] 45)).cell? ⟨wr.heap.size, 3, none⟩ = some (.int .i64 0) := (blk_cell (blk_new _ _) 3).trans rfl
                have he4 : (wr.alloc (.cells #[.int .i64 dT, .bool false, .int .u64 0, .int .i64 0, .int .i64 dF, .int .i64 (-1)] 45)).cell? ⟨wr.heap.size, 4, none⟩ = some (.int .i64 dF) := (blk_cell (blk_new _ _) 4).trans rfl
                have he5 : (wr.alloc (.cells #[.int .i64 dT, .bool false, .int .u64 0, .int .i64 0, .int .i64 dF, .int .i64 (-1)] 45)).cell? ⟨wr.heap.size, 5, none⟩ = some (.int .i64 (-1)) := (blk_cell (blk_new _ _) 5).trans rfl
                have n_C := Aside0.mk (Kd.R_below HRC.out hb1)
                have n_D := Aside0.mk (Kd.R_below HRD.out hb1)
                have n_B := Aside0.mk (below_step HB.out hb1)
                clear hb1 HRC HRD HB
                have HRC := n_C
                have HRD := n_D
                have HB := n_B
                clear n_C n_D n_B
                generalize wr.alloc (.cells #[.int .i64 dT, .bool false, .int .u64 0, .int .i64 0, .int .i64 dF, .int .i64 (-1)] 45) = wn at hx0 hx1 hx2 hx3 hx4 hx5 hy0 hy1 hy2 hy3 hy4 hy5 he0 he1 he2 he3 he4 he5 HRC HRD HB ⊢
                generalize wr.heap.size = ge at he0 he1 he2 he3 he4 he5 ⊢
                go_quiet (fail)
                go_upto_region 23 with (fail)
                go_quiet (fail)
                go_wp2
                go_roundg k1
                case measure => have := HK.out; omega
                case rel => exact ⟨i + 1, wrap64 (x + 1), by first | rfl | (simp; done) | (simp [*]; done), ⟨by have := HX.out; have := HC100.out; have := HLT.out; unfold wrap64; omega⟩, ⟨by have := HK.out; have := HLT.out; omega⟩, ⟨Kd.R_drewN HRC.out _⟩, ⟨Kd.R_drewN HRD.out _⟩, ⟨pw_below_drewN HB.out _⟩⟩
            · obtain rfl := ho1 rfl
              clear ho1 ho2
              by_cases hp : (p : Int) ≤ To
              · have g1 : decide ((p : Int) ≤ To) = true := decide_eq_true hp
                clear hp hcut
                have hya := fun o => pw_cell_below ((Below.refl wr.heap.size wr).alloc (Nat.le_refl _) o) hy2
                go_upto_region 21 with (fail)
                clear hya
                have hb1 : Below wr.heap.size wr (wr.alloc (.cells #[.int .i64 dT, .bool true, .int .u64 dV, .int .i64 0, .int .i64 dF, .int .i64 (-1)] 45)) := below_alloc (Below.refl _ _) _
                replace hy0 := (hb1.cell (World.block_lt_of_cell? wr _ hy0)).trans hy0
                replace hy1 := (hb1.cell (World.block_lt_of_cell? wr _ hy1)).trans hy1
                replace hy2 := (hb1.cell (World.block_lt_of_cell? wr _ hy2)).trans hy2
                replace hy3 := (hb1.cell (World.block_lt_of_cell? wr _ hy3)).trans hy3
                replace hy4 := (hb1.cell (World.block_lt_of_cell? wr _ hy4)).trans hy4
                replace hy5 := (hb1.cell (World.block_lt_of_cell? wr _ hy5)).trans hy5
                replace hx0 := (hb1.cell (World.block_lt_of_cell? wr _ hx0)).trans hx0
                replace hx1 := (hb1.cell (World.block_lt_of_cell? wr _ hx1)).trans hx1
                replace hx2 := (hb1.cell (World.block_lt_of_cell? wr _ hx2)).trans hx2
                replace hx3 := (hb1.cell (World.block_lt_of_cell? wr _ hx3)).trans hx3
                replace hx4 := (hb1.cell (World.block_lt_of_cell? wr _ hx4)).trans hx4
                replace hx5 := (hb1.cell (World.block_lt_of_cell? wr _ hx5)).trans hx5
                have he0 : (wr.alloc (.cells #[.int .i64 dT, .bool true, .int .u64 dV, .int .i64 0, .int .i64 dF, .int .i64 (-1)] 45)).cell? ⟨wr.heap.size, 0, none⟩ = some (.int .i64 dT) := (blk_cell (blk_new _ _) 0).trans rfl
                have he1 : (wr.alloc (.cells #[.int .i64 dT, .bool true, .int .u64 dV, .int .i64 0, .int .i64 dF, .int .i64 (-1)] 45)).cell? ⟨wr.heap.size, 1, none⟩ = some (.bool true) := (blk_cell (blk_new _ _) 1).trans rfl
                have he2 : (wr.alloc (.cells #[.int .i64 dT, .bool true, .int .u64 dV, .int .i64 0, .int .i64 dF, .int .i64 (-1)] 45)).cell? ⟨wr.heap.size, 2, none⟩ = some (.int .u64 dV) := (blk_cell (blk_new _ _) 2).trans rfl
                have he3 : (wr.alloc (.cells #[.int .i64 dT, .bool true, .int .u64 dV, .int .i64 0, .int .i64 dF, .int .i64 (-1)] 45)).cell? ⟨wr.heap.size, 3, none⟩ = some (.int .i64 0) := (blk_cell (blk_new _ _) 3).trans rfl
                have he4 : (wr.alloc (.cells #[.int .i64 dT, .bool true, .int .u64 dV, .int .i64 0, .int .i64 dF, .int .i64 (-1)] 45)).cell? ⟨wr.heap.size, 4, none⟩ = some (.int .i64 dF) := (blk_cell (blk_new _ _) 4).trans rfl
                have he5 : (wr.alloc (.cells #[.int .i64 dT, .bool true, .int .u64 dV, .int .i64 0, .int .i64 dF, .int .i64 (-1)] 45)).cell? ⟨wr.heap.size, 5, none⟩ = some (.int .i64 (-1)) := (blk_cell (blk_new _ _) 5).trans rfl
                have n_C := Aside0.mk (Kd.R_below HRC.out hb1)
                have n_D := Aside0.mk (Kd.R_below HRD.out hb1)
                have n_B := Aside0.mk (below_step HB.out hb1)
                clear hb1 HRC HRD HB
                have HRC := n_C
                have HRD := n_D
                have HB := n_B
                clear n_C n_D n_B
                generalize wr.alloc (.cells #[.int .i64 dT, .bool true, .int .u64 dV, .int .i64 0, .int .i64 dF, .int .i64 (-1)] 45) = wn at hx0 hx1 hx2 hx3 hx4 hx5 hy0 hy1 hy2 hy3 hy4 hy5 he0 he1 he2 he3 he4 he5 HRC HRD HB ⊢
                generalize wr.heap.size = ge at he0 he1 he2 he3 he4 he5 ⊢
                go_quiet (fail)
                go_upto_region 23 with (fail)
                go_quiet (fail)
                go_wp2
                go_roundg k1
                case measure => have := HK.out; omega
                case rel => exact ⟨i + 1, wrap64 (x + 1), by first | rfl | (simp; done) | (simp [*]; done), ⟨by have := HX.out; have := HC100.out; have := HLT.out; unfold wrap64; omega⟩, ⟨by have := HK.out; have := HLT.out; omega⟩, ⟨Kd.R_drewN HRC.out _⟩, ⟨Kd.R_drewN HRD.out _⟩, ⟨pw_below_drewN HB.out _⟩⟩
              · have g1 : decide ((p : Int) ≤ To) = false := decide_eq_false hp
                have g2 : decide (To < 0) = true := decide_eq_true (by omega)
                clear hp hcut
                have hya := fun o => pw_cell_below ((Below.refl wr.heap.size wr).alloc (Nat.le_refl _) o) hy2
                go_upto_region 21 with (fail)
                clear hya
                have hb1 : Below wr.heap.size wr (wr.alloc (.cells #[.int .i64 dT, .bool true, .int .u64 dV, .int .i64 0, .int .i64 dF, .int .i64 (-1)] 45)) := below_alloc (Below.refl _ _) _
                replace hy0 := (hb1.cell (World.block_lt_of_cell? wr _ hy0)).trans hy0
                replace hy1 := (hb1.cell (World.block_lt_of_cell? wr _ hy1)).trans hy1
                replace hy2 := (hb1.cell (World.block_lt_of_cell? wr _ hy2)).trans hy2
                replace hy3 := (hb1.cell (World.block_lt_of_cell? wr _ hy3)).trans hy3
                replace hy4 := (hb1.cell (World.block_lt_of_cell? wr _ hy4)).trans hy4
                replace hy5 := (hb1.cell (World.block_lt_of_cell? wr _ hy5)).trans hy5
                replace hx0 := (hb1.cell (World.block_lt_of_cell? wr _ hx0)).trans hx0
                replace hx1 := (hb1.cell (World.block_lt_of_cell? wr _ hx1)).trans hx1
                replace hx2 := (hb1.cell (World.block_lt_of_cell? wr _ hx2)).trans hx2
                replace hx3 := (hb1.cell (World.block_lt_of_cell? wr _ hx3)).trans hx3
                replace hx4 := (hb1.cell (World.block_lt_of_cell? wr _ hx4)).trans hx4
                replace hx5 := (hb1.cell (World.block_lt_of_cell? wr _ hx5)).trans hx5
                have he0 : (wr.alloc (.cells #[.int .i64 dT, .bool true, .int .u64 dV, .int .i64 0, .int .i64 dF, .int .i64 (-1)] 45)).cell? ⟨wr.heap.size, 0, none⟩ = some (.int .i64 dT) := (blk_cell (blk_new _ _) 0).trans rfl
                have he1 : (wr.alloc (.cells #[.int .i64 dT, .bool true, .int .u64 dV, .int .i64 0, .int .i64 dF, .int .i64 (-1)] 45)).cell? ⟨wr.heap.size, 1, none⟩ = some (.bool true) := (blk_cell (blk_new _ _) 1).trans rfl
                have he2 : (wr.alloc (.cells #[.int .i64 dT, .bool true, .int .u64 dV, .int .i64 0, .int .i64 dF, .int .i64 (-1)] 45)).cell? ⟨wr.heap.size, 2, none⟩ = some (.int .u64 dV) := (blk_cell (blk_new _ _) 2).trans rfl
                have he3 : (wr.alloc (.cells #[.int .i64 dT, .bool true, .int .u64 dV, .int .i64 0, .int .i64 dF, .int .i64 (-1)] 45)).cell? ⟨wr.heap.size, 3, none⟩ = some (.int .i64 0) := (blk_cell (blk_new _ _) 3).trans rfl
                have he4 : (wr.alloc (.cells #[.int .i64 dT, .bool true, .int .u64 dV, .int .i64 0, .int .i64 dF, .int .i64 (-1)] 45)).cell? ⟨wr.heap.size, 4, none⟩ = some (.int .i64 dF) := (blk_cell (blk_new _ _) 4).trans rfl
                have he5 : (wr.alloc (.cells #[.int .i64 dT, .bool true, .int .u64 dV, .int .i64 0, .int .i64 dF, .int .i64 (-1)] 45)).cell? ⟨wr.heap.size, 5, none⟩ = some (.int .i64 (-1)) := (blk_cell (blk_new _ _) 5).trans rfl
                have n_C := Aside0.mk (Kd.R_below HRC.out hb1)
                have n_D := Aside0.mk (Kd.R_below HRD.out hb1)
                have n_B := Aside0.mk (below_step HB.out hb1)
                clear hb1 HRC HRD HB
                have HRC := n_C
                have HRD := n_D
                have HB := n_B
                clear n_C n_D n_B
                generalize wr.alloc (.cells #[.int .i64 dT, .bool true, .int .u64 dV, .int .i64 0, .int .i64 dF, .int .i64 (-1)] 45) = wn at hx0 hx1 hx2 hx3 hx4 hx5 hy0 hy1 hy2 hy3 hy4 hy5 he0 he1 he2 he3 he4 he5 HRC HRD HB ⊢
                generalize wr.heap.size = ge at he0 he1 he2 he3 he4 he5 ⊢
                go_quiet (fail)
                go_upto_region 23 with (fail)
                go_quiet (fail)
                go_wp2
                go_roundg k1
                case measure => have := HK.out; omega
                case rel => exact ⟨i + 1, wrap64 (x + 1), by first | rfl | (simp; done) | (simp [*]; done), ⟨by have := HX.out; have := HC100.out; have := HLT.out; unfold wrap64; omega⟩, ⟨by have := HK.out; have := HLT.out; omega⟩, ⟨Kd.R_drewN HRC.out _⟩, ⟨Kd.R_drewN HRD.out _⟩, ⟨pw_below_drewN HB.out _⟩⟩
          · have hd := hok2 hcut
            clear hok1 hok2
            subst hd
            simp only at hy0 hy1 hy2 hy3 hy4 hy5
            have g1 : decide ((p : Int) ≤ To) = false := decide_eq_false (fun h => hcut (.inl h))
            have g2 : decide (To < 0) = false := decide_eq_false (fun h => hcut (.inr h))
            clear hcut
            go_upto_region 23 with (fail)
            have hb1 : Below wr.heap.size wr (wr.alloc (.cells #[.int .i64 T, .bool push, .int .u64 V, .int .i64 st, .int .i64 F, .int .i64 To] 45)) := below_alloc (Below.refl _ _) _
            replace hy0 := (hb1.cell (World.block_lt_of_cell? wr _ hy0)).trans hy0
            replace hy1 := (hb1.cell (World.block_lt_of_cell? wr _ hy1)).trans hy1
            replace hy2 := (hb1.cell (World.block_lt_of_cell? wr _ hy2)).trans hy2
            replace hy3 := (hb1.cell (World.block_lt_of_cell? wr _ hy3)).trans hy3
            replace hy4 := (hb1.cell (World.block_lt_of_cell? wr _ hy4)).trans hy4
            replace hy5 := (hb1.cell (World.block_lt_of_cell? wr _ hy5)).trans hy5
            replace hx0 := (hb1.cell (World.block_lt_of_cell? wr _ hx0)).trans hx0
            replace hx1 := (hb1.cell (World.block_lt_of_cell? wr _ hx1)).trans hx1
            replace hx2 := (hb1.cell (World.block_lt_of_cell? wr _ hx2)).trans hx2
            replace hx3 := (hb1.cell (World.block_lt_of_cell? wr _ hx3)).trans hx3
            replace hx4 := (hb1.cell (World.block_lt_of_cell? wr _ hx4)).trans hx4
            replace hx5 := (hb1.cell (World.block_lt_of_cell? wr _ hx5)).trans hx5
            have he0 : (wr.alloc (.cells #[.int .i64 T, .bool push, .int .u64 V, .int .i64 st, .int .i64 F, .int .i64 To] 45)).cell? ⟨wr.heap.size, 0, none⟩ = some (.int .i64 T) := (blk_cell (blk_new _ _) 0).trans rfl
            have he1 : (wr.alloc (.cells #[.int .i64 T, .bool push, .int .u64 V, .int .i64 st, .int .i64 F, .int .i64 To] 45)).cell? ⟨wr.heap.size, 1, none⟩ = some (.bool push) := (blk_cell (blk_new _ _) 1).trans rfl
            have he2 : (wr.alloc (.cells #[.int .i64 T, .bool push, .int .u64 V, .int .i64 st, .int .i64 F, .int .i64 To] 45)).cell? ⟨wr.heap.size, 2, none⟩ = some (.int .u64 V) := (blk_cell (blk_new _ _) 2).trans rfl
            have he3 : (wr.alloc (.cells #[.int .i64 T, .bool push, .int .u64 V, .int .i64 st, .int .i64 F, .int .i64 To] 45)).cell? ⟨wr.heap.size, 3, none⟩ = some (.int .i64 st) := (blk_cell (blk_new _ _) 3).trans rfl
            have he4 : (wr.alloc (.cells #[.int .i64 T, .bool push, .int .u64 V, .int .i64 st, .int .i64 F, .int .i64 To] 45)).cell? ⟨wr.heap.size, 4, none⟩ = some (.int .i64 F) := (blk_cell (blk_new _ _) 4).trans rfl
            have he5 : (wr.alloc (.cells #[.int .i64 T, .bool push, .int .u64 V, .int .i64 st, .int .i64 F, .int .i64 To] 45)).cell? ⟨wr.heap.size, 5, none⟩ = some (.int .i64 To) := (blk_cell (blk_new _ _) 5).trans rfl
            have n_C := Aside0.mk (Kd.R_below HRC.out hb1)
            have n_D := Aside0.mk (Kd.R_below HRD.out hb1)
            have n_B := Aside0.mk (below_step HB.out hb1)
            clear hb1 HRC HRD HB
            have HRC := n_C
            have HRD := n_D
            have HB := n_B
            clear n_C n_D n_B
            generalize wr.alloc (.cells #[.int .i64 T, .bool push, .int .u64 V, .int .i64 st, .int .i64 F, .int .i64 To] 45) = wn at hx0 hx1 hx2 hx3 hx4 hx5 hy0 hy1 hy2 hy3 hy4 hy5 he0 he1 he2 he3 he4 he5 HRC HRD HB ⊢
            generalize wr.heap.size = ge at he0 he1 he2 he3 he4 he5 ⊢
            go_quiet (fail)
            go_wp2
            go_roundg k1
            case measure => have := HK.out; omega
            case rel => exact ⟨i + 1, wrap64 (x + 1), by first | rfl | (simp; done) | (simp [*]; done), ⟨by have := HX.out; have := HC100.out; have := HLT.out; unfold wrap64; omega⟩, ⟨by have := HK.out; have := HLT.out; omega⟩, ⟨Kd.R_drewN HRC.out _⟩, ⟨Kd.R_drewN HRD.out _⟩, ⟨pw_below_drewN HB.out _⟩⟩
        · have xD : decide (x < (D.length : Int)) = false := decide_eq_false (by have := HX.out; omega)
          have xD2 : decide ((D.length : Int) ≤ x) = true := decide_eq_true (by have := HX.out; omega)
          have h4 : decide ((rd_T45 C x).f4 < (p : Int)) = false := by rw [hl.1]; exact decide_eq_false hiD
          clear hl hlt hiD
          go_wp2
          go_roundg k1
          case measure => have := HK.out; omega
          case rel => exact ⟨i + 1, wrap64 (x + 1), by first | rfl | (simp; done) | (simp [*]; done), ⟨by have := HX.out; have := HC100.out; have := HLT.out; unfold wrap64; omega⟩, ⟨by have := HK.out; have := HLT.out; omega⟩, HRC, HRD, HB⟩
      · have d0 : decide (x < (C.length : Int)) = false := decide_eq_false (by have := HX.out; have := HK.out; omega)
        go_wp2
        go_ret
        exact ⟨rfl, HB.out⟩
end Go.Proofs.Ytmdjmfbinjnlcaa.P
