/- Contracts of the reference's source: what each function tells, what it leaves, and which block it writes. -/
import Derived.Test.YtaohgjglfpnlkaaSrc
namespace Go.Proofs.Ytaohgjglfpnlkaa.P
open Go.RowKit Go.Proofs.YtaohgjglfpnlkaaW.PrintWords Go.Proofs.YtaohgjglfpnlkaaW.PrintLast Go.Proofs.YtaohgjglfpnlkaaW.PrintMore
attribute [local go_sem] max2_int min2_int max_two min_two max_three min_three max_four min_four
set_option linter.unusedVariables false
set_option linter.unusedSimpArgs false
set_option maxHeartbeats 1000000
set_option maxRecDepth 100000
/-! ### the reference's source -/
/-- A source of the reference at block g: its time, and its draws, a row that may begin anywhere in its block. -/
structure SrcQ (W : World) (base g : Nat) (v : Value) (now : Int) (dr : List Int) : Prop where
  blk : W.heap[g]? = some (.cells #[.int .u64 now, v] 43 (0, 0))
  ge : base ≤ g
  row : Kd.Q (Kd.int .u64) 29 W base (fun _ => True) v dr
/-- What a call of the reference's does: its block alone is written. -/
structure MovesQ (w w' : World) (base g : Nat) : Prop where
  below : Below base w w'
  kept : Kept w w' (fun k => k = g)
section
variable {W W' : World} {base g g2 : Nat} {v v' v2 : Value} {now now2 : Int} {dr dr2 : List Int} {S : Nat → Prop} {κ : IntKind} {t e : Nat}
theorem SrcQ.kept (h : SrcQ W base g v now dr) (hk : Kept W W' S) (hg : ¬ S g) (hv : ∀ k, v.ownBlock = some k → ¬ S k) : SrcQ W' base g v now dr :=
  ⟨blk_kept h.blk hk hg, h.ge, Kd.Q_mono (Kd.Q_kept (Kd.Q_tight rfl h.row) hk (fun k hk' => hv k hk'.symm)) (fun _ _ => trivial)⟩
theorem SrcQ.below (h : SrcQ W base g v now dr) (hb : Below W.heap.size W W') : SrcQ W' base g v now dr := h.kept (Kept.of_below hb (fun _ => False)) id (fun _ _ => id)
theorem SrcQ.cell0 (h : SrcQ W base g v now dr) : W.cell? ⟨g, 0, none⟩ = some (.int .u64 now) := (blk_cell h.blk 0).trans rfl
theorem SrcQ.cell1 (h : SrcQ W base g v now dr) : W.cell? ⟨g, 1, none⟩ = some v := (blk_cell h.blk 1).trans rfl
theorem SrcQ.frozen (h : SrcQ W base g v now dr) (i : Nat) : W.frozen? ⟨g, i, none⟩ = false := blk_frozen h.blk i
theorem SrcQ.lt (h : SrcQ W base g v now dr) : g < W.heap.size := blk_lt h.blk
/-- It stays where a source of the program's is called, and the other way round. -/
theorem SrcQ.other (h2 : SrcQ W base g2 v2 now2 dr2) (h : Src .i64 49 3 W base g v now dr) (hm : Moves W W' base g v v') : SrcQ W' base g2 v2 now2 dr2 := by
  refine h2.kept hm.kept ?_ ?_
  · rintro (rfl | hk)
    · exact h.ne3 h2.blk (by decide) rfl
    · obtain ⟨cs, hc⟩ := h.typed g2 hk.symm
      rw [h2.blk] at hc
      injection hc with hc
      injection hc with _ hc
      exact absurd hc (by decide)
  · rintro k hk (rfl | hk2)
    · exact Kd.Q_ne h2.row h.blk (by decide) hk.symm
    · obtain ⟨cs, hc⟩ := h.typed k hk2.symm
      exact Kd.Q_ne h2.row hc (by decide) hk.symm
theorem Src.otherQ (h : Src .i64 49 3 W base g v now dr) (h2 : SrcQ W base g2 v2 now2 dr2) (hm : MovesQ W W' base g2) : Src .i64 49 3 W' base g v now dr := by
  refine h.kept hm.kept ?_ ?_
  · rintro rfl
    exact h.ne3 h2.blk (by decide) rfl
  · rintro k hk rfl
    exact h.ne2 h2.blk (by decide) hk.symm
theorem SrcQ.setNow (h : SrcQ W base g v now dr) (x : Int) : SrcQ (W.setCell ⟨g, 0, none⟩ (.int .u64 x)) base g v x dr :=
  ⟨by simpa using blk_set h.blk 0 (.int .u64 x), h.ge, Kd.Q_mono (Kd.Q_far (Kd.Q_tight rfl h.row) (p := ⟨g, 0, none⟩) (fun k hk he => Kd.Q_ne h.row h.blk (by decide) (by subst he; exact hk)) _) (fun _ _ => trivial)⟩
theorem SrcQ.setRow {u : Value} {dr' : List Int} (hb : W.heap[g]? = some (.cells #[.int .u64 now, v] 43 (0, 0))) (hg : base ≤ g) (hr : Kd.Q (Kd.int .u64) 29 W base (fun _ => True) u dr') : SrcQ (W.setCell ⟨g, 1, none⟩ u) base g u now dr' :=
  ⟨by simpa using blk_set hb 1 u, hg, Kd.Q_mono (Kd.Q_far (Kd.Q_tight rfl hr) (p := ⟨g, 1, none⟩) (fun k hk he => Kd.Q_ne hr hb (by decide) (by subst he; exact hk)) _) (fun _ _ => trivial)⟩
end
def rdl (a0 a1 : Int) : Int := if a1 > IntKind.u64.wrap (18446744073709551615 - a0) then 18446744073709551615 else IntKind.u64.wrap (a0 + a1)
theorem rdl_tk (now n : Int) (h0 : 0 ≤ now) (h1 : now ≤ 18446744073709551615) (h2 : 0 ≤ n) (h3 : n ≤ 18446744073709551615) : rdl now n = tk now n := by
  unfold rdl tk
  rw [u64w (x := 18446744073709551615 - now) (by omega) (by omega)]
  by_cases c : n > 18446744073709551615 - now
  · rw [if_pos c, if_neg (by omega)]
  · rw [if_neg c, if_pos (by omega), u64w (by omega) (by omega)]
set_option maxHeartbeats 8000000 in
theorem rdl_same (a0 a1 : Int) (w : World) : Calls Try.prog 22 #[.int .u64 a0, .int .u64 a1] w fun e w' => e = .returned (.int .u64 (rdl a0 a1)) ∧ w' = w := by
  by_cases c3 : a1 > IntKind.u64.wrap (18446744073709551615 - a0)
  · have c3b0 : decide ((IntKind.u64.wrap (18446744073709551615 - a0)) < a1) = true := decide_eq_true c3
    rw [show rdl a0 a1 = 18446744073709551615 from if_pos c3]
    clear c3
    go_enter Try.func22, Try.ntmps22
    go_wp2
    go_ret
    exact ⟨rfl, rfl⟩
  · have c3b0 : decide ((IntKind.u64.wrap (18446744073709551615 - a0)) < a1) = false := decide_eq_false c3
    rw [show rdl a0 a1 = IntKind.u64.wrap (a0 + a1) from if_neg c3]
    clear c3
    go_enter Try.func22, Try.ntmps22
    go_wp2
    go_ret
    exact ⟨rfl, rfl⟩
section
variable {w : World} {base g : Nat} {v : Value} {now : Int} {dr : List Int}
set_option maxHeartbeats 8000000 in
theorem rtick_calls (h : SrcQ w base g v now dr) (hb : base ≤ w.heap.size) (a1 : Int) : Calls Try.prog 19 #[.pointer (some ⟨g, 0, none⟩), .int .u64 a1] w fun e w' => e = .returned (.tuple #[]) ∧ SrcQ w' base g v (rdl now a1) dr ∧ MovesQ w w' base g := by
  have HS := Aside0.mk h
  have hc0 := h.cell0
  have hf0 := h.frozen 0
  clear h
  go_enter Try.func19, Try.ntmps19
  go_wp2_with (first | (go_at_call 22; (with_reducible refine (rdl_same _ _ _).mono ?_); rintro e w' ⟨rfl, hw_⟩; rw [hw_]; clear hw_ w'))
  first | go_end0 | ((try simp only [Exit.inBlock, Exit.then]); refine bodyPost_ret (results_none rfl _ _ _) rfl ?_)
  exact ⟨rfl, HS.out.setNow _, ⟨(Below.refl base w).setCell HS.out.ge _, (Kept.refl w (fun k => k = g)).setCell (.inl rfl) _⟩⟩
set_option maxHeartbeats 8000000 in
theorem rdraw_calls (h : SrcQ w base g v now dr) (hb : base ≤ w.heap.size) (hl : dr.length < 1000000) (hd : ∀ y ∈ dr, 0 ≤ y ∧ y < 64) (n : Int) (hn : (Lit.int .i64 n).wf = true) :
    Calls Try.prog 21 #[.pointer (some ⟨g, 0, none⟩), .int .i64 n] w fun e w' => e = .returned (.int .i64 (drawR n dr)) ∧ ∃ v', SrcQ w' base g v' now (drawL n dr) ∧ MovesQ w w' base g := by
  have HS := Aside0.mk h
  have HB := Aside0.mk (Below.refl w.heap.size w)
  have hnr := wf_i64 hn
  clear hn
  obtain ⟨A7, c7, hv7, hle7⟩ := Kd.Q_slice h.row
  subst hv7
  by_cases hn1 : n < 1
  · have c0 : decide (n < 1) = true := decide_eq_true hn1
    rw [drawR_lt hn1, show drawL n dr = dr from if_pos hn1]
    clear h
    refine Calls.mono (R := fun e w' => e = .returned (.int .i64 0) ∧ Below w.heap.size w w') ?_ ?_
    · go_enter Try.func21, Try.ntmps21
      go_wp2
      go_ret
      exact ⟨rfl, by repeat (first | exact Below.refl _ _ | apply below_alloc | apply pw_below_drewN | apply below_drew1)⟩
    · rintro e w' ⟨rfl, hbb⟩
      exact ⟨rfl, _, HS.out.below hbb, ⟨hbb.mono hb, Kept.of_below hbb _⟩⟩
  · have c0 : decide (n < 1) = false := decide_eq_false hn1
    rw [show drawL n dr = dr.drop 1 from if_neg hn1]
    cases dr with
    | nil =>
      rw [drawR_nil]
      have hc1 := h.cell1
      clear h
      refine Calls.mono (R := fun e w' => e = .returned (.int .i64 0) ∧ Below w.heap.size w w') ?_ ?_
      · go_enter Try.func21, Try.ntmps21
        go_wp2
        go_ret
        exact ⟨rfl, by repeat (first | exact Below.refl _ _ | apply below_alloc | apply pw_below_drewN | apply below_drew1)⟩
      · rintro e w' ⟨rfl, hbb⟩
        exact ⟨rfl, _, HS.out.below hbb, ⟨hbb.mono hb, Kept.of_below hbb _⟩⟩
    | cons d L =>
      rw [drawR_cons hn1]
      simp only [List.drop_succ_cons, List.drop_zero]
      have hd0 := hd d List.mem_cons_self
      have hle : L.length + 1 ≤ c7 := by simpa using hle7
      obtain ⟨ad, hA7, hc⟩ := Kd.at_int (Kd.Q_reads' h.row).2.2 0 (by omega) (by simp)
      subst hA7
      simp only [Int.toNat_zero] at hc
      have hq0 : ∀ W : World, W.cell? (ad.add 0) = some (.int .u64 (rd (d :: L) 0)) → W.cell? ad = some (.int .u64 d) := fun W h => h
      replace hc := hq0 _ hc
      clear hq0
      have hc1 : w.cell? ⟨g, 1, none⟩ = some (.slice (some ad) (L.length + 1) c7) := h.cell1
      have hf1 := h.frozen 1
      have hlr : L.length < 1000000 := by simp at hl; omega
      have hz : (((L.length : Int) + 1) == 0) = false := beq_eq_false_iff_ne.2 (by omega)
      have b1 : (1 : Int) ≤ (L.length : Int) + 1 := by omega
      have b2 : (L.length : Int) + 1 ≤ (c7 : Int) := by omega
      have b3 : (1 : Int) ≤ (c7 : Int) := by omega
      have b4 : 1 ≤ c7 := by omega
      have e1 : IntKind.u64.wrap n = n := u64w (by omega) (by omega)
      have e5 : (n == 0) = false := beq_eq_false_iff_ne.2 (by omega)
      have e6 : (n != 0) = true := bne_iff_ne.2 (by omega)
      have hn2 : 1 ≤ n := by omega
      obtain ⟨t, ht⟩ : ∃ t, Int.tmod d n = t := ⟨_, rfl⟩
      have htr : 0 ≤ t ∧ t < 64 := by rw [← ht]; exact ⟨Int.tmod_nonneg _ hd0.1, by have h1 := Int.tmod_lt_of_pos d (show 0 < n by omega); by_cases h2 : d < n; rw [Int.tmod_eq_of_lt hd0.1 h2]; exact hd0.2; omega⟩
      have e7 : wrap64 t = t := by unfold wrap64; omega
      have e8 : IntKind.i64.wrap t = t := (i64_w _).trans e7
      have hdr := Aside0.mk (Kd.Q_drop (k := 1) h.row (by simp))
      rw [ht]
      clear h hl hd hd0 htr hle7 hnr
      by_cases hcc : c7 = 1
      · obtain rfl : L = [] := List.length_eq_zero_iff.1 (by omega)
        subst hcc
        have hq := hdr.out
        rw [if_pos rfl] at hq
        have HQ : Aside0 (Kd.Q (Kd.int .u64) 29 w base (fun _ => True) (.slice (some ad) 0 0) []) := ⟨hq⟩
        clear hq hdr
        go_enter Try.func21, Try.ntmps21
        go_wp2
        go_ret
        exact ⟨rfl, ⟨_, SrcQ.setRow HS.out.blk HS.out.ge HQ.out⟩, ⟨(Below.refl base w).setCell HS.out.ge _, (Kept.refl w (fun k => k = g)).setCell (.inl rfl) _⟩⟩
      · have hcb : (c7 == 1) = false := beq_eq_false_iff_ne.2 hcc
        have hq := hdr.out
        rw [if_neg hcc] at hq
        have HQ : Aside0 (Kd.Q (Kd.int .u64) 29 w base (fun _ => True) (.slice (some ⟨ad.block, ad.off + 1, none⟩) L.length (c7 - 1)) L) := ⟨hq⟩
        clear hq hdr
        go_enter Try.func21, Try.ntmps21
        go_wp2
        go_ret
        exact ⟨rfl, ⟨_, SrcQ.setRow HS.out.blk HS.out.ge HQ.out⟩, ⟨(Below.refl base w).setCell HS.out.ge _, (Kept.refl w (fun k => k = g)).setCell (.inl rfl) _⟩⟩
set_option maxHeartbeats 8000000 in
theorem radd_calls (h : SrcQ w base g v now dr) (hb : base ≤ w.heap.size) (hl : dr.length < 1000000) (d : Int) (h0 : 0 ≤ d) :
    Calls Try.prog 20 #[.pointer (some ⟨g, 0, none⟩), .int .u64 d] w fun e w' => e = .returned (.int .i64 (addR d)) ∧ ∃ v', SrcQ w' base g v' now (addL dr d) ∧ MovesQ w w' base g := by
  by_cases hd : 64 ≤ d
  · have e1 : addR d = 1 := if_pos hd
    have e2 : addL dr d = dr := if_pos hd
    have c0 : decide (63 < d) = true := decide_eq_true (by omega)
    rw [e1, e2]
    have HS := Aside0.mk h
    clear h e1 e2
    refine Calls.mono (R := fun e w' => e = .returned (.int .i64 1) ∧ Below w.heap.size w w') ?_ ?_
    · go_enter Try.func20, Try.ntmps20
      go_wp2
      go_ret
      exact ⟨rfl, by repeat (first | exact Below.refl _ _ | apply below_alloc | apply pw_below_drewN | apply below_drew1)⟩
    · rintro e w' ⟨rfl, hbb⟩
      exact ⟨rfl, _, HS.out.below hbb, ⟨hbb.mono hb, Kept.of_below hbb _⟩⟩
  · have e1 : addR d = 0 := if_neg hd
    have e2 : addL dr d = dr ++ [d] := if_neg hd
    have c0 : decide (63 < d) = false := decide_eq_false (by omega)
    rw [e1, e2]
    obtain ⟨A, c, hv, hle⟩ := Kd.Q_slice h.row
    subst hv
    have hc1 := h.cell1
    have hf1 := h.frozen 1
    have HS := Aside0.mk h
    have HB := Aside0.mk (Below.refl base w)
    clear h e1 e2
    go_enter Try.func20, Try.ntmps20
    go_wp2_with (first | ((with_reducible refine gate_dst (N := 8) rfl ?_); refine Kd.R_lit (Kd.int .u64) (w0 := w) base 29 ?hg (N := 8) ?hd (xs := ([] : List Int)) (inner := []) (ok := fun _ => True) (okp := fun _ => True) ?hr ?hp (fun _ hk => hk) trivial (Below.refl _ _) hb (by simp) ?_; (case hd => rfl); (case hg => rfl); (case hr => first | (go_simp; done) | (go_simp; rfl)); (case hp => exact ⟨by simp, fun j p hj => by simp at hj⟩); intro v1 w1 ho hb1 hg hat; have HO1 := Aside0.mk ho; have HB1 := Aside0.mk hb1; have HN1 := Aside0.mk hat; have HK1 := Aside0.mk (Kept.of_grown hg (Kept.refl w (fun _ => False)) (fun k hk => by simp at hk)); have HS1 := Aside0.mk (HS.out.kept HK1.out id (fun _ _ => id)); clear ho hb1 hat hg hc1 hf1; have hc1 := HS1.out.cell1; have hf1 := HS1.out.frozen 1) | ((with_reducible refine gate_builtin (b := .append) (xs := #[.tmp 8, .tmp 12]) rfl ?_); at_builtin; refine Kd.R_append_rows (Kd.int .u64) (w0 := w) base rfl (.tmp 8) (.tmp 12) 22 29 (.int .u64 0) 8 rfl Try.underlying22 sinfo29 rfl (by decide) (by omega) v1 [] dr _ _ _ (fun _ => True) (fun _ => False) rfl rfl ?aO ?aR (fun _ _ h => h) (fun _ h => h.elim) (fun _ _ => trivial) ?aB ?aS ?aL ?_; (case aO => exact HO1.out); (case aR => exact (Kd.Q_reads' HS1.out.row).2.2); (case aB => exact HB1.out); (case aS => exact Nat.le_trans hb HB1.out.size); (case aL => simp; omega); intro v2 w2 ho hb2 hg hat; have HN2 : Aside0 (∀ k, v2.ownBlock = some k → w.heap.size ≤ k) := ⟨fun k hk => by rcases hat with ha | ⟨b, h1, h2⟩; obtain ⟨b, h3, h4⟩ := HN1.out; rw [ha, h3] at hk; injection hk with hk; omega; rw [h1] at hk; injection hk with hk; have := HB1.out.size; omega⟩; have HO2 := Aside0.mk ho; have HB2 := Aside0.mk hb2; have HK2 := Aside0.mk (Kept.of_grown hg HK1.out (fun k hk => .inr (by obtain ⟨b, h3, h4⟩ := HN1.out; rw [h3] at hk; injection hk with hk; omega))); have HS2 := Aside0.mk (HS.out.kept HK2.out id (fun _ _ => id)); clear ho hb2 hat hg hc1 hf1 HS1 HO1 HB1 HK1 HN1; have hc1 := HS2.out.cell1; have hf1 := HS2.out.frozen 1) | ((with_reducible refine gate_builtin (b := .append) (xs := #[.tmp 13, .tmp 15]) rfl ?_); at_builtin; refine Kd.R_append (Kd.int .u64) (w0 := w) base rfl (.tmp 13) (.tmp 15) 22 29 (.int .u64 0) 8 rfl Try.underlying22 sinfo29 rfl (by decide) (by omega) v2 ([] ++ dr) d [.int .u64 d] (fun _ => True) (fun _ => False) rfl (by first | (go_simp; done) | (go_simp; rfl)) ?aP (fun _ hk => hk.elim) (fun _ _ => trivial) ?aO ?aB ?aS ?aL ?_; (case aP => exact rfl); (case aB => exact HB2.out); (case aO => exact HO2.out); (case aS => exact Nat.le_trans hb HB2.out.size); (case aL => simp; omega); intro v3 w3 ho hb3 hg hat; rw [List.nil_append] at ho; obtain ⟨A3, cc3, hv3⟩ := Kd.R_slice ho; rw [show (dr ++ [d]).length = dr.length + 1 by simp] at hv3; subst hv3; have HO3 := Aside0.mk ho; have HB3 := Aside0.mk hb3; have HK3 := Aside0.mk (Kept.of_grown hg HK2.out (fun k hk => .inr (HN2.out k hk))); have HS3 := Aside0.mk (HS.out.kept HK3.out id (fun _ _ => id)); clear ho hb3 hat hg hc1 hf1 HS2 HO2 HB2 HK2 HN2; have hc1 := HS3.out.cell1; have hf1 := HS3.out.frozen 1))
    go_ret
    exact ⟨rfl, ⟨_, SrcQ.setRow HS3.out.blk HS3.out.ge (Kd.Q_of_R HO3.out)⟩, ⟨HB3.out.setCell HS3.out.ge _, (HK3.out.mono (S' := fun k => k = g) (fun k hk => hk.elim)).setCell (.inl rfl) _⟩⟩
end
end Go.Proofs.Ytaohgjglfpnlkaa.P
