/- SourcePlays: what each act tells, and the time, and how many draws there are, is as the reference says: for every input. -/
import Derived.Test.YtaohgjglfpnlkaaSrc
import Derived.Test.YtaohgjglfpnlkaaLRef
namespace Go.Proofs.Ytaohgjglfpnlkaa.P
open Go.RowKit Go.Proofs.YtaohgjglfpnlkaaW.PrintWords Go.Proofs.YtaohgjglfpnlkaaW.PrintLast Go.Proofs.YtaohgjglfpnlkaaW.PrintMore
attribute [local go_sem] max2_int min2_int max_two min_two max_three min_three max_four min_four
set_option linter.unusedVariables false
set_option linter.unusedSimpArgs false
set_option maxHeartbeats 1000000
set_option maxRecDepth 100000

theorem Src.box {W W' : World} {base g a q : Nat} {v v' : Value} {now : Int} {dr : List Int} {cs : Array Value} (h : Src .i64 49 3 W base g v now dr) (hm : Moves W W' base g v v') (hb : W.heap[a]? = some (.cells cs q (0, 0))) (h1 : q ≠ 49) (h2 : q ≠ 3) : W'.heap[a]? = some (.cells cs q (0, 0)) := by
  refine blk_kept hb hm.kept ?_
  rintro (rfl | hk)
  · exact h.ne3 hb (Ne.symm h1) rfl
  · exact h.ne2 hb (Ne.symm h2) hk
theorem SrcQ.box {W W' : World} {base g a q : Nat} {v : Value} {now : Int} {dr : List Int} {cs : Array Value} (h : SrcQ W base g v now dr) (hm : MovesQ W W' base g) (hb : W.heap[a]? = some (.cells cs q (0, 0))) (h1 : q ≠ 43) : W'.heap[a]? = some (.cells cs q (0, 0)) := by
  refine blk_kept hb hm.kept ?_
  rintro rfl
  have hx := h.blk
  rw [hb] at hx
  injection hx with hx
  injection hx with _ hx
  exact h1 hx
theorem addL_in {dr : List Int} {d : Int} (h0 : 0 ≤ d) (h : ∀ y ∈ dr, 0 ≤ y ∧ y < 64) : ∀ y ∈ addL dr d, 0 ≤ y ∧ y < 64 := by
  unfold addL
  split
  · exact h
  · intro y hy
    rcases List.mem_append.1 hy with hy | hy
    · exact h y hy
    · simp at hy; subst hy; exact ⟨h0, by omega⟩
theorem drawL_in {dr : List Int} {n : Int} (h : ∀ y ∈ dr, 0 ≤ y ∧ y < 64) : ∀ y ∈ drawL n dr, 0 ≤ y ∧ y < 64 := by
  unfold drawL
  split
  · exact h
  · exact fun y hy => h y (List.mem_of_mem_drop hy)
set_option maxHeartbeats 8000000 in
theorem plays_walk (A0 : Option Addr) (c0 : Nat) (l0 : List S45) (n0 w0 : Int) (w : World) (hr0 : Kd.C k45 w A0 l0.length l0) (hc0_ : l0.length ≤ c0) (hm : l0.length ≤ maxLen) (hy : l0.length * 24 ≤ 140737488351232) (hw : ∀ x ∈ l0, (Lit.int .i64 x.f0).wf = true ∧ (Lit.int .i64 x.f1).wf = true ∧ (Lit.int .u64 x.f2).wf = true) (hn0 : (Lit.int .u64 n0).wf = true) (hw0 : (Lit.int .u64 w0).wf = true) :
    Calls Try.prog 8 #[.slice A0 l0.length c0, .int .u64 n0, .int .u64 w0] w fun e w' => e = .returned (.bool true) ∧ Below w.heap.size w w' := by
  have HB := Aside0.mk (Below.refl w.heap.size w)
  have HR0 := Aside0.mk hr0
  have HL := Aside0.mk hy
  have HW := Aside0.mk hw
  have he : (dl n0 w0 == rdl n0 w0) = true := by rw [beq_iff_eq, dl_tk _ _ (wf_u64 hn0).1 (wf_u64 hn0).2 (wf_u64 hw0).1 (wf_u64 hw0).2, rdl_tk _ _ (wf_u64 hn0).1 (wf_u64 hn0).2 (wf_u64 hw0).1 (wf_u64 hw0).2]
  clear hr0 hy hw hm hn0 hw0
  by_cases hbig : 200 < l0.length
  · have b0 : decide ((200 : Int) < (l0.length : Int)) = true := decide_eq_true (by omega)
    go_enter Try.func8, Try.ntmps8
    go_wp2_with (first | (go_at_call 10; (refine (shown_calls _).mono ?_); rintro e w1 ⟨rfl, hb_⟩; have n_HB := Aside0.mk (below_step (by repeat (first | exact HB.out | apply below_alloc | apply pw_below_drewN | apply below_drew1)) hb_); clear hb_ HB; have HB := n_HB; clear n_HB) | (go_at_call 11; (refine (new_calls _).mono ?_); rintro e w2 ⟨ga, rfl, hs_, hb_⟩; have HS_a := Aside0.mk (hs_.lower (Below.size (by repeat (first | exact HB.out | apply below_alloc | apply pw_below_drewN | apply below_drew1)))); have n_HB := Aside0.mk (below_step (by repeat (first | exact HB.out | apply below_alloc | apply pw_below_drewN | apply below_drew1)) hb_); clear hs_ hb_; clear HB; have HB := n_HB; clear n_HB) | ((with_reducible refine gate_dst (N := 16) rfl ?_); refine box_event ?hg (N := 16) ?hd (cs := #[.int .u64 0, .slice none 0 0]) (t := 43) ?hr ?_; (case hd => rfl); (case hg => rfl); (case hr => first | (go_simp; done) | (go_simp; rfl)); intro gr hg w9 hbox hb; have HR : Aside0 (SrcQ w9 w.heap.size gr (.slice none 0 0) 0 []) := ⟨⟨hbox, by rw [hg]; exact Below.size HB.out, Kd.Q_nil _ _ _ _ _⟩⟩; have n_a := Aside0.mk (HS_a.out.below hb); have n_HB := Aside0.mk (below_step HB.out hb); clear HB HS_a hb hbox hg; have HB := n_HB; have HS_a := n_a; clear n_HB n_a))
    go_ret
    exact ⟨rfl, HB.out⟩
  have b0 : decide ((200 : Int) < (l0.length : Int)) = false := decide_eq_false (by omega)
  have HL0 : Aside0 (l0.length ≤ 200) := ⟨by omega⟩
  clear hbig
  go_enter Try.func8, Try.ntmps8
  go_wp2_with (first | (go_at_call 10; (refine (shown_calls _).mono ?_); rintro e w1 ⟨rfl, hb_⟩; have n_HB := Aside0.mk (below_step (by repeat (first | exact HB.out | apply below_alloc | apply pw_below_drewN | apply below_drew1)) hb_); clear hb_ HB; have HB := n_HB; clear n_HB) | (go_at_call 11; (refine (new_calls _).mono ?_); rintro e w2 ⟨ga, rfl, hs_, hb_⟩; have HS_a := Aside0.mk (hs_.lower (Below.size (by repeat (first | exact HB.out | apply below_alloc | apply pw_below_drewN | apply below_drew1)))); have n_HB := Aside0.mk (below_step (by repeat (first | exact HB.out | apply below_alloc | apply pw_below_drewN | apply below_drew1)) hb_); clear hs_ hb_; clear HB; have HB := n_HB; clear n_HB) | ((with_reducible refine gate_dst (N := 16) rfl ?_); refine box_event ?hg (N := 16) ?hd (cs := #[.int .u64 0, .slice none 0 0]) (t := 43) ?hr ?_; (case hd => rfl); (case hg => rfl); (case hr => first | (go_simp; done) | (go_simp; rfl)); intro gr hg w9 hbox hb; have HR : Aside0 (SrcQ w9 w.heap.size gr (.slice none 0 0) 0 []) := ⟨⟨hbox, by rw [hg]; exact Below.size HB.out, Kd.Q_nil _ _ _ _ _⟩⟩; have n_a := Aside0.mk (HS_a.out.below hb); have n_HB := Aside0.mk (below_step HB.out hb); clear HB HS_a hb hbox hg; have HB := n_HB; have HS_a := n_a; clear n_HB n_a))
  go_loopg [10] (l0.length + 1) (fun kq v10 w' => ∃ (i : Nat) (x now : Int) (L : List Int) (va vr : Value), v10 = .int .i64 x ∧ Aside0 (x = (i : Int)) ∧ Aside0 (kq + i = l0.length + 1 ∧ i ≤ l0.length) ∧ Aside0 (0 ≤ now ∧ now ≤ 18446744073709551615) ∧ Aside0 (L.length ≤ i) ∧ Aside0 (∀ y ∈ L, 0 ≤ y ∧ y < 64) ∧ Aside0 (Src .i64 49 3 w' w.heap.size ga va now L) ∧ Aside0 (SrcQ w' w.heap.size gr vr now L) ∧ Aside0 (Below w.heap.size w w'))
  case atStart => exact ⟨0, 0, 0, [], _, _, by rfl, ⟨rfl⟩, ⟨by omega, by omega⟩, ⟨by decide, by decide⟩, ⟨by simp⟩, ⟨by simp⟩, HS_a, HR, HB⟩
  case round =>
    clear HS_a HB HR
    obtain ⟨i, x, now, L, va, vr, rfl, HX, HK, HI, HLi, HE, HS_a, HR, HB⟩ := hrel
    have HLEN : Aside0 (L.length < 1000000) := ⟨by have := HLi.out; have := HK.out; have := HL0.out; omega⟩
    cases gk with
    | zero => exact absurd HK.out (by omega)
    | succ k1 =>
      by_cases hlt : i < l0.length
      · have d0 : decide (x < (l0.length : Int)) = true := decide_eq_true (by have := HX.out; omega)
        have p1 : ((0 : Int) ≤ x) = True := eq_true (by have := HX.out; omega)
        have q1 : (x < (l0.length : Int)) = True := eq_true (by have := HX.out; omega)
        obtain ⟨ad, e0, hx0, hx1, hx2⟩ := at_T45 HR0.out x (by have := HX.out; omega) (by have := HX.out; omega)
        cases e0
        have hz := HW.out (rd_T45 l0 x) (by have h1 : x.toNat < l0.length := (by have := HX.out; omega); unfold rd_T45; rw [List.getD_eq_getElem?_getD, List.getElem?_eq_getElem h1]; exact List.getElem_mem h1)
        generalize rd_T45 l0 x = z at hx0 hx1 hx2 hz
        obtain ⟨aO, aN, aW⟩ := z
        simp only at hx0 hx1 hx2 hz
        obtain ⟨hO, hN, hW_⟩ := hz
        have HN := Aside0.mk hN
        have HWr := Aside0.mk (wf_u64 hW_)
        have HW0 := Aside0.mk (wf_u64 hW_).1
        replace hx0 := (HB.out.cell (World.block_lt_of_cell? w _ hx0)).trans hx0
        replace hx1 := (HB.out.cell (World.block_lt_of_cell? w _ hx1)).trans hx1
        replace hx2 := (HB.out.cell (World.block_lt_of_cell? w _ hx2)).trans hx2
        clear hN hW_
        go_upto_region 10 with (fail)
        have K0 : (wr.alloc (.cells #[.int .i64 aO, .int .i64 aN, .int .u64 aW] 45)).heap[wr.heap.size]? = some (.cells #[.int .i64 aO, .int .i64 aN, .int .u64 aW] 45 (0, 0)) := blk_new _ _
        have Hs0 := HS_a.out.below (below_alloc (Below.refl _ _) (.cells #[.int .i64 aO, .int .i64 aN, .int .u64 aW] 45))
        have Hr0 := HR.out.below (below_alloc (Below.refl _ _) (.cells #[.int .i64 aO, .int .i64 aN, .int .u64 aW] 45))
        have HB0 : Below w.heap.size w (wr.alloc (.cells #[.int .i64 aO, .int .i64 aN, .int .u64 aW] 45)) := by apply below_alloc; exact HB.out
        clear hx0 hx1 hx2 HS_a HR HB
        generalize wr.alloc (.cells #[.int .i64 aO, .int .i64 aN, .int .u64 aW] 45) = W1 at K0 Hs0 Hr0 HB0 ⊢
        generalize wr.heap.size = gA at K0 ⊢
        have HK_A := Aside0.mk K0
        have HS_a := Aside0.mk Hs0
        have HR := Aside0.mk Hr0
        have HB := Aside0.mk HB0
        clear K0 Hs0 Hr0 HB0
        have hA0 : W1.cell? ⟨gA, 0, none⟩ = some (.int .i64 aO) := (blk_cell HK_A.out 0).trans rfl
        have hA1 : W1.cell? ⟨gA, 1, none⟩ = some (.int .i64 aN) := (blk_cell HK_A.out 1).trans rfl
        have hA2 : W1.cell? ⟨gA, 2, none⟩ = some (.int .u64 aW) := (blk_cell HK_A.out 2).trans rfl
        obtain ⟨p, hp⟩ : ∃ p, pk aO 6 = p := ⟨_, rfl⟩
        by_cases h2 : p < 2
        · have g2 : decide (p < 2) = true := decide_eq_true h2
          clear h2
          obtain ⟨now', hd⟩ : ∃ t, dl now aW = t := ⟨_, rfl⟩
          have hk : now' = tk now aW := by rw [← hd]; exact dl_tk _ _ HI.out.1 HI.out.2 HWr.out.1 HWr.out.2
          have hr : rdl now aW = now' := by rw [hk]; exact rdl_tk _ _ HI.out.1 HI.out.2 HWr.out.1 HWr.out.2
          have HI' : Aside0 (0 ≤ now' ∧ now' ≤ 18446744073709551615) := ⟨by rw [hk]; have := HI.out; have := HWr.out; unfold tk; split <;> omega⟩
          have HLi' : Aside0 (L.length ≤ i + 1) := ⟨by have := HLi.out; omega⟩
          clear hk
          go_upto_region 19 with (first | (go_at_call 13; (with_reducible refine (pick_calls aO 6 _ hO (by decide)).mono ?_); rintro e wt ⟨rfl, hb_⟩; rw [hp]; have n_HB := Aside0.mk (below_step HB.out hb_); have n_a := Aside0.mk (HS_a.out.below hb_); have n_R := Aside0.mk (HR.out.below hb_); have n_K := Aside0.mk (blk_below HK_A.out hb_); clear hb_ HB HS_a HR HK_A hA0 hA1 hA2; have HB := n_HB; have HS_a := n_a; have HR := n_R; have HK_A := n_K; clear n_HB n_a n_R n_K; have hA1 : wt.cell? ⟨gA, 1, none⟩ = some (.int .i64 aN) := (blk_cell HK_A.out 1).trans rfl; have hA2 : wt.cell? ⟨gA, 2, none⟩ = some (.int .u64 aW) := (blk_cell HK_A.out 2).trans rfl) | (go_at_call 17; (with_reducible refine (tick_calls HS_a.out (Below.size HB.out) _).mono ?_); rintro e wt ⟨rfl, hs_, hm_⟩; rw [hd] at hs_; have n_HB := Aside0.mk (Below.trans HB.out hm_.below); have n_R := Aside0.mk (HR.out.other HS_a.out hm_); have n_K := Aside0.mk (HS_a.out.box hm_ HK_A.out (by decide) (by decide)); have n_a := Aside0.mk hs_; clear hs_ hm_ HB HS_a HR HK_A hA1 hA2; have HB := n_HB; have HS_a := n_a; have HR := n_R; have HK_A := n_K; clear n_HB n_a n_R n_K; have hA1 : wt.cell? ⟨gA, 1, none⟩ = some (.int .i64 aN) := (blk_cell HK_A.out 1).trans rfl; have hA2 : wt.cell? ⟨gA, 2, none⟩ = some (.int .u64 aW) := (blk_cell HK_A.out 2).trans rfl) | (go_at_call 19; (with_reducible refine (rtick_calls HR.out (Below.size HB.out) _).mono ?_); rintro e wt ⟨rfl, hs_, hm_⟩; rw [hr] at hs_; have n_HB := Aside0.mk (Below.trans HB.out hm_.below); have n_a := Aside0.mk (HS_a.out.otherQ HR.out hm_); have n_K := Aside0.mk (HR.out.box hm_ HK_A.out (by decide)); have n_R := Aside0.mk hs_; clear hs_ hm_ HB HS_a HR HK_A hA1 hA2; have HB := n_HB; have HS_a := n_a; have HR := n_R; have HK_A := n_K; clear n_HB n_a n_R n_K; have hA1 : wt.cell? ⟨gA, 1, none⟩ = some (.int .i64 aN) := (blk_cell HK_A.out 1).trans rfl; have hA2 : wt.cell? ⟨gA, 2, none⟩ = some (.int .u64 aW) := (blk_cell HK_A.out 2).trans rfl))
          obtain ⟨As, cs, hvs⟩ := HS_a.out.slice
          subst hvs
          obtain ⟨Ar, cr, hvr, hcr⟩ := Kd.Q_slice HR.out.row
          subst hvr
          have t0 := HS_a.out.cell0
          have t1 := HS_a.out.cell1
          have t2 := HR.out.cell0
          have t3 := HR.out.cell1
          go_wp2
          go_quiet (first | ((go_at_call 16); refine Calls.mono (now_same (now := now') (by exact t0)) ?_; rintro e w' ⟨rfl, hw_⟩; exact ⟨rfl, _, hw_⟩) | ((go_at_call 14); refine Calls.mono (left_same (n := (L).length) (by exact t1)) ?_; rintro e w' ⟨rfl, hw_⟩; exact ⟨rfl, _, hw_⟩))
          go_wp2
          go_roundg k1
          case measure => have := HK.out; omega
          case rel => exact ⟨i + 1, wrap64 (x + 1), now', L, _, _, by first | rfl | (simp; done) | (simp [*]; done), ⟨by have := HX.out; have := HL.out; unfold wrap64; omega⟩, ⟨by have := HK.out; omega⟩, HI', HLi', HE, ⟨by first | exact HS_a.out | exact HS_a.out.below (by repeat (first | exact Below.refl _ _ | apply below_alloc | apply pw_below_drewN | apply below_drew1))⟩, ⟨by first | exact HR.out | exact HR.out.below (by repeat (first | exact Below.refl _ _ | apply below_alloc | apply pw_below_drewN | apply below_drew1))⟩, ⟨(by repeat (first | exact HB.out | apply below_alloc | apply pw_below_drewN | apply below_drew1))⟩⟩
        · have g2 : decide (p < 2) = false := decide_eq_false h2
          clear h2
          by_cases h4 : p < 4
          · have g4 : decide (p < 4) = true := decide_eq_true h4
            clear h4
            obtain ⟨f1, hf1⟩ : ∃ t, addR aW = t := ⟨_, rfl⟩
            obtain ⟨L2, hL2⟩ : ∃ t, addL L aW = t := ⟨_, rfl⟩
            have HE' : Aside0 (∀ y ∈ L2, 0 ≤ y ∧ y < 64) := ⟨by rw [← hL2]; exact addL_in HW0.out HE.out⟩
            have HLi' : Aside0 (L2.length ≤ i + 1) := ⟨by rw [← hL2]; have := addL_len L aW; have := HLi.out; omega⟩
            go_upto_region 11 with (first | (go_at_call 13; (with_reducible refine (pick_calls aO 6 _ hO (by decide)).mono ?_); rintro e wt ⟨rfl, hb_⟩; rw [hp]; have n_HB := Aside0.mk (below_step HB.out hb_); have n_a := Aside0.mk (HS_a.out.below hb_); have n_R := Aside0.mk (HR.out.below hb_); have n_K := Aside0.mk (blk_below HK_A.out hb_); clear hb_ HB HS_a HR HK_A hA0 hA1 hA2; have HB := n_HB; have HS_a := n_a; have HR := n_R; have HK_A := n_K; clear n_HB n_a n_R n_K; have hA1 : wt.cell? ⟨gA, 1, none⟩ = some (.int .i64 aN) := (blk_cell HK_A.out 1).trans rfl; have hA2 : wt.cell? ⟨gA, 2, none⟩ = some (.int .u64 aW) := (blk_cell HK_A.out 2).trans rfl))
            go_region_held3 (fun w' => w'.cell? ⟨gA, 2, none⟩ = some (.int .u64 aW)) (go_keep) (first | (go_at_call 12; (first | (with_reducible refine (add_calls HS_a.out (Below.size HB.out) HLEN.out _ HW0.out).mono ?_) | (have d1 := Aside0.mk (HS_a.out.below (below_drew (Below.refl _ _))); have d2 := Aside0.mk (HR.out.below (below_drew (Below.refl _ _))); have d3 := Aside0.mk (blk_drew HK_A.out); have d4 := Aside0.mk (below_step HB.out (below_drew (Below.refl _ _))); clear HS_a HR HK_A HB; have HS_a := d1; have HR := d2; have HK_A := d3; have HB := d4; clear d1 d2 d3 d4; (with_reducible refine (add_calls HS_a.out (Below.size HB.out) HLEN.out _ HW0.out).mono ?_))); rintro e wt ⟨rfl, va', hs_, hm_⟩; rw [hf1]; rw [hL2] at hs_; have n_HB := Aside0.mk (Below.trans HB.out hm_.below); have n_R := Aside0.mk (HR.out.other HS_a.out hm_); have n_K := Aside0.mk (HS_a.out.box hm_ HK_A.out (by decide) (by decide)); have n_a := Aside0.mk hs_; clear hs_ hm_ HB HS_a HR HK_A hA1 hA2; have HB := n_HB; have HS_a := n_a; have HR := n_R; have HK_A := n_K; clear n_HB n_a n_R n_K; have hA1 : wt.cell? ⟨gA, 1, none⟩ = some (.int .i64 aN) := (blk_cell HK_A.out 1).trans rfl; have hA2 : wt.cell? ⟨gA, 2, none⟩ = some (.int .u64 aW) := (blk_cell HK_A.out 2).trans rfl) | (go_at_call 20; (first | (with_reducible refine (radd_calls HR.out (Below.size HB.out) HLEN.out _ HW0.out).mono ?_) | (have d1 := Aside0.mk (HS_a.out.below (below_drew (Below.refl _ _))); have d2 := Aside0.mk (HR.out.below (below_drew (Below.refl _ _))); have d3 := Aside0.mk (blk_drew HK_A.out); have d4 := Aside0.mk (below_step HB.out (below_drew (Below.refl _ _))); clear HS_a HR HK_A HB; have HS_a := d1; have HR := d2; have HK_A := d3; have HB := d4; clear d1 d2 d3 d4; (with_reducible refine (radd_calls HR.out (Below.size HB.out) HLEN.out _ HW0.out).mono ?_))); rintro e wt ⟨rfl, vr', hs_, hm_⟩; rw [hf1]; rw [hL2] at hs_; have n_HB := Aside0.mk (Below.trans HB.out hm_.below); have n_a := Aside0.mk (HS_a.out.otherQ HR.out hm_); have n_K := Aside0.mk (HR.out.box hm_ HK_A.out (by decide)); have n_R := Aside0.mk hs_; clear hs_ hm_ HB HS_a HR HK_A hA1 hA2; have HB := n_HB; have HS_a := n_a; have HR := n_R; have HK_A := n_K; clear n_HB n_a n_R n_K; have hA1 : wt.cell? ⟨gA, 1, none⟩ = some (.int .i64 aN) := (blk_cell HK_A.out 1).trans rfl; have hA2 : wt.cell? ⟨gA, 2, none⟩ = some (.int .u64 aW) := (blk_cell HK_A.out 2).trans rfl))
            go_upto_region 19 with (fail)
            obtain ⟨As, cs, hvs⟩ := HS_a.out.slice
            subst hvs
            obtain ⟨Ar, cr, hvr, hcr⟩ := Kd.Q_slice HR.out.row
            subst hvr
            have t0 := HS_a.out.cell0
            have t1 := HS_a.out.cell1
            have t2 := HR.out.cell0
            have t3 := HR.out.cell1
            go_wp2
            go_quiet (first | ((go_at_call 16); refine Calls.mono (now_same (now := now) (by exact t0)) ?_; rintro e w' ⟨rfl, hw_⟩; exact ⟨rfl, _, hw_⟩) | ((go_at_call 14); refine Calls.mono (left_same (n := (L2).length) (by exact t1)) ?_; rintro e w' ⟨rfl, hw_⟩; exact ⟨rfl, _, hw_⟩))
            go_wp2
            go_roundg k1
            case measure => have := HK.out; omega
            case rel => exact ⟨i + 1, wrap64 (x + 1), now, L2, _, _, by first | rfl | (simp; done) | (simp [*]; done), ⟨by have := HX.out; have := HL.out; unfold wrap64; omega⟩, ⟨by have := HK.out; omega⟩, HI, HLi', HE', ⟨by first | exact HS_a.out | exact HS_a.out.below (by repeat (first | exact Below.refl _ _ | apply below_alloc | apply pw_below_drewN | apply below_drew1))⟩, ⟨by first | exact HR.out | exact HR.out.below (by repeat (first | exact Below.refl _ _ | apply below_alloc | apply pw_below_drewN | apply below_drew1))⟩, ⟨(by repeat (first | exact HB.out | apply below_alloc | apply pw_below_drewN | apply below_drew1))⟩⟩
          · have g4 : decide (p < 4) = false := decide_eq_false h4
            clear h4
            obtain ⟨f1, hf1⟩ : ∃ t, drawR aN L = t := ⟨_, rfl⟩
            obtain ⟨L2, hL2⟩ : ∃ t, drawL aN L = t := ⟨_, rfl⟩
            have HE' : Aside0 (∀ y ∈ L2, 0 ≤ y ∧ y < 64) := ⟨by rw [← hL2]; exact drawL_in HE.out⟩
            have HLi' : Aside0 (L2.length ≤ i + 1) := ⟨by rw [← hL2]; have := drawL_len aN L; have := HLi.out; omega⟩
            go_upto_region 17 with (first | (go_at_call 13; (with_reducible refine (pick_calls aO 6 _ hO (by decide)).mono ?_); rintro e wt ⟨rfl, hb_⟩; rw [hp]; have n_HB := Aside0.mk (below_step HB.out hb_); have n_a := Aside0.mk (HS_a.out.below hb_); have n_R := Aside0.mk (HR.out.below hb_); have n_K := Aside0.mk (blk_below HK_A.out hb_); clear hb_ HB HS_a HR HK_A hA0 hA1 hA2; have HB := n_HB; have HS_a := n_a; have HR := n_R; have HK_A := n_K; clear n_HB n_a n_R n_K; have hA1 : wt.cell? ⟨gA, 1, none⟩ = some (.int .i64 aN) := (blk_cell HK_A.out 1).trans rfl; have hA2 : wt.cell? ⟨gA, 2, none⟩ = some (.int .u64 aW) := (blk_cell HK_A.out 2).trans rfl))
            go_region_held3 (fun w' => w'.cell? ⟨gA, 1, none⟩ = some (.int .i64 aN)) (go_keep) (first | (go_at_call 15; (first | (with_reducible refine (draw_calls HS_a.out (Below.size HB.out) HLEN.out _).mono ?_) | (have d1 := Aside0.mk (HS_a.out.below (below_drew (Below.refl _ _))); have d2 := Aside0.mk (HR.out.below (below_drew (Below.refl _ _))); have d3 := Aside0.mk (blk_drew HK_A.out); have d4 := Aside0.mk (below_step HB.out (below_drew (Below.refl _ _))); clear HS_a HR HK_A HB; have HS_a := d1; have HR := d2; have HK_A := d3; have HB := d4; clear d1 d2 d3 d4; (with_reducible refine (draw_calls HS_a.out (Below.size HB.out) HLEN.out _).mono ?_))); rintro e wt ⟨rfl, va', hs_, hm_⟩; rw [hf1]; rw [hL2] at hs_; have n_HB := Aside0.mk (Below.trans HB.out hm_.below); have n_R := Aside0.mk (HR.out.other HS_a.out hm_); have n_K := Aside0.mk (HS_a.out.box hm_ HK_A.out (by decide) (by decide)); have n_a := Aside0.mk hs_; clear hs_ hm_ HB HS_a HR HK_A hA1 hA2; have HB := n_HB; have HS_a := n_a; have HR := n_R; have HK_A := n_K; clear n_HB n_a n_R n_K; have hA1 : wt.cell? ⟨gA, 1, none⟩ = some (.int .i64 aN) := (blk_cell HK_A.out 1).trans rfl; have hA2 : wt.cell? ⟨gA, 2, none⟩ = some (.int .u64 aW) := (blk_cell HK_A.out 2).trans rfl) | (go_at_call 21; (first | (with_reducible refine (rdraw_calls HR.out (Below.size HB.out) HLEN.out HE.out _ HN.out).mono ?_) | (have d1 := Aside0.mk (HS_a.out.below (below_drew (Below.refl _ _))); have d2 := Aside0.mk (HR.out.below (below_drew (Below.refl _ _))); have d3 := Aside0.mk (blk_drew HK_A.out); have d4 := Aside0.mk (below_step HB.out (below_drew (Below.refl _ _))); clear HS_a HR HK_A HB; have HS_a := d1; have HR := d2; have HK_A := d3; have HB := d4; clear d1 d2 d3 d4; (with_reducible refine (rdraw_calls HR.out (Below.size HB.out) HLEN.out HE.out _ HN.out).mono ?_))); rintro e wt ⟨rfl, vr', hs_, hm_⟩; rw [hf1]; rw [hL2] at hs_; have n_HB := Aside0.mk (Below.trans HB.out hm_.below); have n_a := Aside0.mk (HS_a.out.otherQ HR.out hm_); have n_K := Aside0.mk (HR.out.box hm_ HK_A.out (by decide)); have n_R := Aside0.mk hs_; clear hs_ hm_ HB HS_a HR HK_A hA1 hA2; have HB := n_HB; have HS_a := n_a; have HR := n_R; have HK_A := n_K; clear n_HB n_a n_R n_K; have hA1 : wt.cell? ⟨gA, 1, none⟩ = some (.int .i64 aN) := (blk_cell HK_A.out 1).trans rfl; have hA2 : wt.cell? ⟨gA, 2, none⟩ = some (.int .u64 aW) := (blk_cell HK_A.out 2).trans rfl))
            go_upto_region 19 with (fail)
            obtain ⟨As, cs, hvs⟩ := HS_a.out.slice
            subst hvs
            obtain ⟨Ar, cr, hvr, hcr⟩ := Kd.Q_slice HR.out.row
            subst hvr
            have t0 := HS_a.out.cell0
            have t1 := HS_a.out.cell1
            have t2 := HR.out.cell0
            have t3 := HR.out.cell1
            go_wp2
            go_quiet (first | ((go_at_call 16); refine Calls.mono (now_same (now := now) (by exact t0)) ?_; rintro e w' ⟨rfl, hw_⟩; exact ⟨rfl, _, hw_⟩) | ((go_at_call 14); refine Calls.mono (left_same (n := (L2).length) (by exact t1)) ?_; rintro e w' ⟨rfl, hw_⟩; exact ⟨rfl, _, hw_⟩))
            go_wp2
            go_roundg k1
            case measure => have := HK.out; omega
            case rel => exact ⟨i + 1, wrap64 (x + 1), now, L2, _, _, by first | rfl | (simp; done) | (simp [*]; done), ⟨by have := HX.out; have := HL.out; unfold wrap64; omega⟩, ⟨by have := HK.out; omega⟩, HI, HLi', HE', ⟨by first | exact HS_a.out | exact HS_a.out.below (by repeat (first | exact Below.refl _ _ | apply below_alloc | apply pw_below_drewN | apply below_drew1))⟩, ⟨by first | exact HR.out | exact HR.out.below (by repeat (first | exact Below.refl _ _ | apply below_alloc | apply pw_below_drewN | apply below_drew1))⟩, ⟨(by repeat (first | exact HB.out | apply below_alloc | apply pw_below_drewN | apply below_drew1))⟩⟩
      · have d0 : decide (x < (l0.length : Int)) = false := decide_eq_false (by have := HX.out; have := HK.out; omega)
        go_wp2_with (first | (go_at_call 18; (with_reducible refine (dl_same _ _ _).mono ?_); rintro e wt ⟨rfl, hw_⟩; rw [hw_]; clear hw_ wt) | (go_at_call 22; (with_reducible refine (rdl_same _ _ _).mono ?_); rintro e wt ⟨rfl, hw_⟩; rw [hw_]; clear hw_ wt))
        go_ret
        exact ⟨rfl, HB.out⟩
end Go.Proofs.Ytaohgjglfpnlkaa.P
