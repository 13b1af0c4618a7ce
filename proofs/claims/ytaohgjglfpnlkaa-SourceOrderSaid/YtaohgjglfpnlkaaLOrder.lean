/- SourceOrder: draws are told in their order, each once, by their remainders; when there is none, 0 is: for every input. -/
import Derived.Test.YtaohgjglfpnlkaaSrc
namespace Go.Proofs.Ytaohgjglfpnlkaa.P
open Go.RowKit Go.Proofs.YtaohgjglfpnlkaaW.PrintWords Go.Proofs.YtaohgjglfpnlkaaW.PrintLast Go.Proofs.YtaohgjglfpnlkaaW.PrintMore
attribute [local go_sem] max2_int min2_int max_two min_two max_three min_three max_four min_four
set_option linter.unusedVariables false
set_option linter.unusedSimpArgs false
set_option maxHeartbeats 1000000
set_option maxRecDepth 100000

set_option maxHeartbeats 8000000 in
theorem order_walk (A0 : Option Addr) (c0 : Nat) (l0 : List Int) (A1 : Option Addr) (c1 : Nat) (l1 : List Int) (w : World) (hr0 : Kd.C (Kd.int .u64) w A0 l0.length l0) (hc0_ : l0.length ≤ c0) (hr1 : Kd.C (Kd.int .i64) w A1 l1.length l1) (hc1_ : l1.length ≤ c1) (hm : l0.length ≤ maxLen) (hy : l0.length * 8 ≤ 140737488351232) (hw : ∀ x ∈ l0, (Lit.int .u64 x).wf = true) (hm1 : l1.length ≤ maxLen) (hy1 : l1.length * 8 ≤ 140737488351232) (hw1 : ∀ x ∈ l1, (Lit.int .i64 x).wf = true) :
    Calls Try.prog 3 #[.slice A0 l0.length c0, .slice A1 l1.length c1] w fun e w' => e = .returned (.bool true) ∧ Below w.heap.size w w' := by
  have HB := Aside0.mk (Below.refl w.heap.size w)
  have HR_l0 := Aside0.mk hr0
  have HR_l1 := Aside0.mk hr1
  have HL := Aside0.mk hy
  have HL1 := Aside0.mk hy1
  have HW_l0 : Aside0 (∀ x ∈ l0, 0 ≤ x ∧ x ≤ 18446744073709551615) := ⟨fun x hx => wf_u64 (hw x hx)⟩
  have HW_l1 := Aside0.mk hw1
  clear hr0 hy hw hm hr1 hy1 hw1 hm1
  by_cases hbig : 100 < l0.length
  · have b0 : decide ((100 : Int) < (l0.length : Int)) = true := decide_eq_true (by omega)
    go_enter Try.func3, Try.ntmps3
    go_wp2_with (first | (go_at_call 10; (refine (shown_calls _).mono ?_); rintro e w1 ⟨rfl, hb_⟩; have n_HB := Aside0.mk (below_step (by repeat (first | exact HB.out | apply below_alloc | apply pw_below_drewN | apply below_drew1)) hb_); clear hb_ HB; have HB := n_HB; clear n_HB) | (go_at_call 11; (refine (new_calls _).mono ?_); rintro e w2 ⟨ga, rfl, hs_, hb_⟩; have HS_a := Aside0.mk (hs_.lower (Below.size (by repeat (first | exact HB.out | apply below_alloc | apply pw_below_drewN | apply below_drew1)))); have n_HB := Aside0.mk (below_step (by repeat (first | exact HB.out | apply below_alloc | apply pw_below_drewN | apply below_drew1)) hb_); clear hs_ hb_; clear HB; have HB := n_HB; clear n_HB))
    go_ret
    exact ⟨rfl, HB.out⟩
  have b0 : decide ((100 : Int) < (l0.length : Int)) = false := decide_eq_false (by omega)
  have HL0 : Aside0 (l0.length ≤ 100) := ⟨by omega⟩
  clear hbig
  by_cases hbig : 200 < l1.length
  · have b1 : decide ((200 : Int) < (l1.length : Int)) = true := decide_eq_true (by omega)
    go_enter Try.func3, Try.ntmps3
    go_wp2_with (first | (go_at_call 10; (refine (shown_calls _).mono ?_); rintro e w1 ⟨rfl, hb_⟩; have n_HB := Aside0.mk (below_step (by repeat (first | exact HB.out | apply below_alloc | apply pw_below_drewN | apply below_drew1)) hb_); clear hb_ HB; have HB := n_HB; clear n_HB) | (go_at_call 11; (refine (new_calls _).mono ?_); rintro e w2 ⟨ga, rfl, hs_, hb_⟩; have HS_a := Aside0.mk (hs_.lower (Below.size (by repeat (first | exact HB.out | apply below_alloc | apply pw_below_drewN | apply below_drew1)))); have n_HB := Aside0.mk (below_step (by repeat (first | exact HB.out | apply below_alloc | apply pw_below_drewN | apply below_drew1)) hb_); clear hs_ hb_; clear HB; have HB := n_HB; clear n_HB))
    go_ret
    exact ⟨rfl, HB.out⟩
  have b1 : decide ((200 : Int) < (l1.length : Int)) = false := decide_eq_false (by omega)
  clear hbig
  go_enter Try.func3, Try.ntmps3
  go_wp2_with (first | (go_at_call 10; (refine (shown_calls _).mono ?_); rintro e w1 ⟨rfl, hb_⟩; have n_HB := Aside0.mk (below_step (by repeat (first | exact HB.out | apply below_alloc | apply pw_below_drewN | apply below_drew1)) hb_); clear hb_ HB; have HB := n_HB; clear n_HB) | (go_at_call 11; (refine (new_calls _).mono ?_); rintro e w2 ⟨ga, rfl, hs_, hb_⟩; have HS_a := Aside0.mk (hs_.lower (Below.size (by repeat (first | exact HB.out | apply below_alloc | apply pw_below_drewN | apply below_drew1)))); have n_HB := Aside0.mk (below_step (by repeat (first | exact HB.out | apply below_alloc | apply pw_below_drewN | apply below_drew1)) hb_); clear hs_ hb_; clear HB; have HB := n_HB; clear n_HB))
  go_loopg [7, 8] (l0.length + 1) (fun kq v7 v8 w' => ∃ (i : Nat) (x : Int) (L : List Int) (va : Value), v8 = .int .i64 x ∧ Aside0 (x = (i : Int)) ∧ Aside0 (kq + i = l0.length + 1 ∧ i ≤ l0.length) ∧ Aside0 (L.length ≤ i) ∧ Aside0 (∀ y ∈ L, 0 ≤ y ∧ y < 64) ∧ Aside0 (Src .i64 49 3 w' w.heap.size ga va 0 L) ∧ Aside0 (Kd.R (Kd.int .u64) 29 w' w.heap.size (fun _ => True) v7 L) ∧ Aside0 (Below w.heap.size w w'))
  case atStart => exact ⟨0, 0, [], _, by rfl, ⟨rfl⟩, ⟨by omega, by omega⟩, ⟨by simp⟩, ⟨by simp⟩, HS_a, ⟨Kd.R_nil _ _ _ _ _⟩, HB⟩
  case round =>
    clear HS_a HB
    obtain ⟨i, x, L, va, rfl, HX, HK, HLi, HE, HS_a, HO, HB⟩ := hrel
    have HLEN : Aside0 (L.length < 1000000) := ⟨by have := HLi.out; have := HK.out; have := HL0.out; omega⟩
    cases gk with
    | zero => exact absurd HK.out (by omega)
    | succ k1 =>
      by_cases hlt : i < l0.length
      · have d9 := hlt
        clear d9
        have d0 : decide (x < (l0.length : Int)) = true := decide_eq_true (by have := HX.out; omega)
        have p1 : ((0 : Int) ≤ x) = True := eq_true (by have := HX.out; omega)
        have q9 : (x < (l0.length : Int)) = True := eq_true (by have := HX.out; omega)
        obtain ⟨ad0, e0, hx0⟩ := Kd.at_int HR_l0.out x (by have := HX.out; omega) (by have := HX.out; omega)
        cases e0
        have hz : 0 ≤ (rd l0 x) ∧ (rd l0 x) ≤ 18446744073709551615 := HW_l0.out _ (by have h1 : x.toNat < l0.length := (by have := HX.out; omega); unfold rd; rw [List.getD_eq_getElem?_getD, List.getElem?_eq_getElem h1]; exact List.getElem_mem h1)
        generalize rd l0 x = z at hx0 hz
        have HX0 := Aside0.mk hx0
        have hx := (HB.out.cell (World.block_lt_of_cell? w _ HX0.out)).trans HX0.out
        clear hx0
        obtain ⟨A7, c7, hv7⟩ := Kd.R_slice HO.out
        subst hv7
        have HZ0 := Aside0.mk hz.1
        by_cases h64 : z < 64
        · have g1 : decide (z < 64) = true := decide_eq_true h64
          have hf1 : addR z = 0 := if_neg (by omega)
          have hf2 : addL L z = L ++ [z] := if_neg (by omega)
          have HE' : Aside0 (∀ y ∈ L ++ [z], 0 ≤ y ∧ y < 64) := ⟨by intro y hy; rcases List.mem_append.1 hy with hy | hy; exact HE.out y hy; simp at hy; subst hy; exact ⟨hz.1, h64⟩⟩
          clear hz h64
          go_wp2_with (first | (go_at_call 12; (with_reducible refine (add_calls HS_a.out (Below.size HB.out) HLEN.out _ HZ0.out).mono ?_); rintro e wt ⟨rfl, va', hs_, hm_⟩; rw [hf1]; rw [hf2] at hs_; have n_HB := Aside0.mk (Below.trans HB.out hm_.below); have n_O := Aside0.mk (HS_a.out.rowOther HO.out rfl hm_ (by decide) (by decide)); have n_a := Aside0.mk hs_; clear hs_ hm_ HB HS_a HO hx; have HB := n_HB; have HS_a := n_a; have HO := n_O; clear n_HB n_a n_O; have hx := (HB.out.cell (World.block_lt_of_cell? w _ HX0.out)).trans HX0.out) | ((with_reducible refine gate_builtin (b := .append) (xs := #[.tmp 66, .tmp 71]) rfl ?_); at_builtin; refine Kd.R_append (Kd.int .u64) (w0 := w) w.heap.size rfl (.tmp 66) (.tmp 71) 22 29 (.int .u64 0) 8 rfl Try.underlying22 sinfo29 rfl (by decide) (by omega) (.slice A7 L.length c7) L z [.int .u64 z] (fun _ => True) (fun _ => False) rfl (by first | (go_simp; done) | (go_simp; rfl)) ?aP (fun _ hk => hk.elim) (fun _ _ => trivial) ?aO ?aB ?aS ?aL ?_; (case aP => exact rfl); (case aB => exact HB.out); (case aO => exact HO.out); (case aS => exact Below.size HB.out); (case aL => have := HLEN.out; omega); intro v3 w3 ho hb3 hg hat; have n_a := Aside0.mk (HS_a.out.rowGrown HO.out hg (by decide) (by decide)); have n_O := Aside0.mk ho; have n_HB := Aside0.mk hb3; clear ho hb3 hg hat hx HB HS_a HO; have HB := n_HB; have HS_a := n_a; have HO := n_O; clear n_HB n_a n_O))
          go_roundg k1
          case measure => have := HK.out; omega
          case rel => exact ⟨i + 1, wrap64 (x + 1), L ++ [z], _, by first | rfl | (simp; done) | (simp [*]; done), ⟨by have := HX.out; have := HL.out; unfold wrap64; omega⟩, ⟨by have := HK.out; omega⟩, ⟨by have := HLi.out; simp; omega⟩, HE', HS_a, HO, HB⟩
        · have g1 : decide (z < 64) = false := decide_eq_false h64
          have hf1 : addR z = 1 := if_pos (by omega)
          have hf2 : addL L z = L := if_pos (by omega)
          clear hz h64
          go_wp2_with (first | (go_at_call 12; (with_reducible refine (add_calls HS_a.out (Below.size HB.out) HLEN.out _ HZ0.out).mono ?_); rintro e wt ⟨rfl, va', hs_, hm_⟩; rw [hf1]; rw [hf2] at hs_; have n_HB := Aside0.mk (Below.trans HB.out hm_.below); have n_O := Aside0.mk (HS_a.out.rowOther HO.out rfl hm_ (by decide) (by decide)); have n_a := Aside0.mk hs_; clear hs_ hm_ HB HS_a HO hx; have HB := n_HB; have HS_a := n_a; have HO := n_O; clear n_HB n_a n_O; have hx := (HB.out.cell (World.block_lt_of_cell? w _ HX0.out)).trans HX0.out) | ((with_reducible refine gate_builtin (b := .append) (xs := #[.tmp 66, .tmp 71]) rfl ?_); at_builtin; refine Kd.R_append (Kd.int .u64) (w0 := w) w.heap.size rfl (.tmp 66) (.tmp 71) 22 29 (.int .u64 0) 8 rfl Try.underlying22 sinfo29 rfl (by decide) (by omega) (.slice A7 L.length c7) L z [.int .u64 z] (fun _ => True) (fun _ => False) rfl (by first | (go_simp; done) | (go_simp; rfl)) ?aP (fun _ hk => hk.elim) (fun _ _ => trivial) ?aO ?aB ?aS ?aL ?_; (case aP => exact rfl); (case aB => exact HB.out); (case aO => exact HO.out); (case aS => exact Below.size HB.out); (case aL => have := HLEN.out; omega); intro v3 w3 ho hb3 hg hat; have n_a := Aside0.mk (HS_a.out.rowGrown HO.out hg (by decide) (by decide)); have n_O := Aside0.mk ho; have n_HB := Aside0.mk hb3; clear ho hb3 hg hat hx HB HS_a HO; have HB := n_HB; have HS_a := n_a; have HO := n_O; clear n_HB n_a n_O))
          go_roundg k1
          case measure => have := HK.out; omega
          case rel => exact ⟨i + 1, wrap64 (x + 1), L, _, by first | rfl | (simp; done) | (simp [*]; done), ⟨by have := HX.out; have := HL.out; unfold wrap64; omega⟩, ⟨by have := HK.out; omega⟩, ⟨by have := HLi.out; omega⟩, HE, HS_a, HO, HB⟩
      · have d0 : decide (x < (l0.length : Int)) = false := decide_eq_false (by have := HX.out; have := HK.out; omega)
        go_wp2
        clear d0 HX HK HLi
        go_loopg [7, 10] (l1.length + 1) (fun kq v7 v10 w' => ∃ (i : Nat) (x : Int) (L : List Int) (va : Value), v10 = .int .i64 x ∧ Aside0 (x = (i : Int)) ∧ Aside0 (kq + i = l1.length + 1 ∧ i ≤ l1.length) ∧ Aside0 (L.length < 1000000) ∧ Aside0 (∀ y ∈ L, 0 ≤ y ∧ y < 64) ∧ Aside0 (Src .i64 49 3 w' w.heap.size ga va 0 L) ∧ Aside0 (Kd.Q (Kd.int .u64) 29 w' w.heap.size (fun _ => True) v7 L) ∧ Aside0 (Below w.heap.size w w'))
        case atStart => exact ⟨0, 0, L, _, by rfl, ⟨rfl⟩, ⟨by omega, by omega⟩, HLEN, HE, HS_a, ⟨Kd.Q_of_R HO.out⟩, HB⟩
        case round =>
          clear HS_a HB HO HLEN HE
          obtain ⟨i, x, L, va, rfl, HX, HK, HLEN, HE, HS_a, HQ, HB⟩ := hrel
          cases gk with
          | zero => exact absurd HK.out (by omega)
          | succ k1 =>
            by_cases hlt : i < l1.length
            · have d9 := hlt
              clear d9
              have d0 : decide (x < (l1.length : Int)) = true := decide_eq_true (by have := HX.out; omega)
              have p1 : ((0 : Int) ≤ x) = True := eq_true (by have := HX.out; omega)
              have q9 : (x < (l1.length : Int)) = True := eq_true (by have := HX.out; omega)
              obtain ⟨ad0, e0, hx0⟩ := Kd.at_int HR_l1.out x (by have := HX.out; omega) (by have := HX.out; omega)
              cases e0
              have hz : (Lit.int .i64 (rd l1 x)).wf = true := HW_l1.out _ (by have h1 : x.toNat < l1.length := (by have := HX.out; omega); unfold rd; rw [List.getD_eq_getElem?_getD, List.getElem?_eq_getElem h1]; exact List.getElem_mem h1)
              generalize rd l1 x = z at hx0 hz
              have HX0 := Aside0.mk hx0
              have hx := (HB.out.cell (World.block_lt_of_cell? w _ HX0.out)).trans HX0.out
              clear hx0
              obtain ⟨A7, c7, hv7, hle7⟩ := Kd.Q_slice HQ.out
              subst hv7
              obtain ⟨p, hp⟩ : ∃ p, pk z 100 = p := ⟨_, rfl⟩
              have hpr := pk_range z 100 (by decide)
              rw [hp] at hpr
              obtain ⟨n, hn⟩ : ∃ n, 1 + p = n := ⟨_, rfl⟩
              have e1 : wrap64 (1 + p) = n := by unfold wrap64; omega
              have e2 : IntKind.i64.wrap (1 + p) = n := (i64_w _).trans e1
              have e3 : wrap64 (-n) = -n := by unfold wrap64; omega
              have e4 : IntKind.i64.wrap (-n) = -n := (i64_w _).trans e3
              have e5 : (n == 0) = false := beq_eq_false_iff_ne.2 (by omega)
              have e6 : (n != 0) = true := bne_iff_ne.2 (by omega)
              have HP : Aside0 (0 < n) := ⟨by omega⟩
              have hn1 : 1 ≤ n := by omega
              clear hpr hn
              cases L with
              | nil =>
                have q1 : drawR n [] = 0 := drawR_nil
                have q2 : drawR 0 [] = 0 := drawR_nil
                have q3 : drawR (-n) [] = 0 := drawR_nil
                have r1 : drawL n [] = [] := by unfold drawL; split <;> rfl
                have r2 : drawL 0 [] = [] := by unfold drawL; split <;> rfl
                have r3 : drawL (-n) [] = [] := by unfold drawL; split <;> rfl
                have HLEN2 := HLEN
                have HE2 := HE
                go_wp2_with (first | (go_at_call 13; (with_reducible refine (pick_calls z 100 _ hz (by decide)).mono ?_); rintro e w5 ⟨rfl, hb_⟩; rw [hp]; have n_HB := Aside0.mk (below_step HB.out hb_); have n_a := Aside0.mk (HS_a.out.below hb_); have n_Q := Aside0.mk (Kd.Q_below HQ.out hb_); clear hb_ HB HS_a HQ hx; have HB := n_HB; have HS_a := n_a; have HQ := n_Q; clear n_HB n_a n_Q) | (go_at_call 14; (with_reducible refine (left_calls HS_a.out).mono ?_); rintro e w5 ⟨rfl, hb_⟩; have n_HB := Aside0.mk (below_step HB.out hb_); have n_a := Aside0.mk (HS_a.out.below hb_); have n_Q := Aside0.mk (Kd.Q_below HQ.out hb_); clear hb_ HB HS_a HQ; have HB := n_HB; have HS_a := n_a; have HQ := n_Q; clear n_HB n_a n_Q) | (go_at_call 15; (with_reducible refine (draw_calls HS_a.out (Below.size HB.out) (by first | exact HLEN.out | exact HLEN2.out) _).mono ?_); rintro e wt ⟨rfl, va', hs_, hm_⟩; (simp only [r1, r2, r3] at hs_); (simp only [q1, q2, q3]); have n_HB := Aside0.mk (Below.trans HB.out hm_.below); have n_Q := Aside0.mk (HS_a.out.rowOtherQ HQ.out rfl hm_ (by decide) (by decide)); have n_a := Aside0.mk hs_; clear hs_ hm_ HB HS_a HQ; have HB := n_HB; have HS_a := n_a; have HQ := n_Q; clear n_HB n_a n_Q))
                try clear hx
                go_roundg k1
                case measure => have := HK.out; omega
                case rel => exact ⟨i + 1, wrap64 (x + 1), [], _, by first | rfl | (simp; done) | (simp [*]; done), ⟨by have := HX.out; have := HL1.out; unfold wrap64; omega⟩, ⟨by have := HK.out; omega⟩, HLEN2, HE2, HS_a, HQ, HB⟩
              | cons d L =>
                have hd : 0 ≤ d ∧ d < 64 := HE.out d List.mem_cons_self
                have s1 : wrap64 d = d := by unfold wrap64; omega
                have s2 : IntKind.i64.wrap d = d := (i64_w _).trans s1
                obtain ⟨want, hwant⟩ : ∃ t, Int.tmod d n = t := ⟨_, rfl⟩
                have q1 : drawR n (d :: L) = want := by rw [← hwant]; exact drawR_cons (by have := HP.out; omega)
                have r1 : drawL n (d :: L) = L := by have := HP.out; unfold drawL; rw [if_neg (by omega)]; rfl
                have q2 : drawR 0 L = 0 := drawR_lt (by decide)
                have q3 : drawR (-n) L = 0 := drawR_lt (by have := HP.out; omega)
                have r2 : drawL 0 L = L := by unfold drawL; rw [if_pos (by decide)]
                have r3 : drawL (-n) L = L := by have := HP.out; unfold drawL; rw [if_pos (by omega)]
                have HLEN2 : Aside0 (L.length < 1000000) := ⟨by have := HLEN.out; simp at this; omega⟩
                have HE2 : Aside0 (∀ y ∈ L, 0 ≤ y ∧ y < 64) := ⟨fun y hy => HE.out y (List.mem_cons_of_mem _ hy)⟩
                have hle : L.length + 1 ≤ c7 := by simpa using hle7
                obtain ⟨ad, hA7, hc⟩ := Kd.at_int (Kd.Q_reads' HQ.out).2.2 0 (by omega) (by simp)
                subst hA7
                have hc' := hc
                simp only [Int.toNat_zero] at hc
                have hq0 : ∀ W : World, W.cell? (ad.add 0) = some (.int .u64 (rd (d :: L) 0)) → W.cell? ad = some (.int .u64 d) := fun W h => h
                replace hc := hq0 _ hc
                clear hq0
                have b1 : (1 : Int) ≤ (L.length : Int) + 1 := by omega
                have b2 : (L.length : Int) + 1 ≤ (c7 : Int) := by omega
                have b3 : (1 : Int) ≤ (c7 : Int) := by omega
                have b4 : 1 ≤ c7 := by omega
                have b5 : (0 : Int) ≤ (L.length : Int) := by omega
                have b8 : decide ((0 : Int) < (L.length : Int) + 1) = true := decide_eq_true (by omega)
                have b9 : (L.length : Int) < 1000000 := by have := HLEN2.out; omega
                have hdr := Kd.Q_drop (k := 1) HQ.out (by simp)
                clear hc' hle7
                by_cases hcc : c7 = 1
                · obtain rfl : L = [] := List.length_eq_zero_iff.1 (by omega)
                  subst hcc
                  clear hdr
                  go_wp2_with (first | (go_at_call 13; (with_reducible refine (pick_calls z 100 _ hz (by decide)).mono ?_); rintro e w5 ⟨rfl, hb_⟩; rw [hp]; have n_HB := Aside0.mk (below_step HB.out hb_); have n_a := Aside0.mk (HS_a.out.below hb_); have n_Q := Aside0.mk (Kd.Q_below HQ.out hb_); have n_c := (hb_.cell (World.block_lt_of_cell? _ _ hc)).trans hc; clear hb_ HB HS_a HQ hx hc; have HB := n_HB; have HS_a := n_a; have HQ := n_Q; clear n_HB n_a n_Q; have hc := n_c; clear n_c) | (go_at_call 14; (with_reducible refine (left_calls HS_a.out).mono ?_); rintro e w5 ⟨rfl, hb_⟩; have n_HB := Aside0.mk (below_step HB.out hb_); have n_a := Aside0.mk (HS_a.out.below hb_); have n_Q := Aside0.mk (Kd.Q_below HQ.out hb_); clear hb_ HB HS_a HQ; have HB := n_HB; have HS_a := n_a; have HQ := n_Q; clear n_HB n_a n_Q) | (go_at_call 15; (with_reducible refine (draw_calls HS_a.out (Below.size HB.out) (by first | exact HLEN.out | exact HLEN2.out) _).mono ?_); rintro e wt ⟨rfl, va', hs_, hm_⟩; (simp only [r1, r2, r3] at hs_); (simp only [q1, q2, q3]); have n_HB := Aside0.mk (Below.trans HB.out hm_.below); have n_Q := Aside0.mk (HS_a.out.rowOtherQ HQ.out rfl hm_ (by decide) (by decide)); have n_a := Aside0.mk hs_; clear hs_ hm_ HB HS_a HQ; have HB := n_HB; have HS_a := n_a; have HQ := n_Q; clear n_HB n_a n_Q))
                  try clear hx
                  go_roundg k1
                  case measure => have := HK.out; omega
                  case rel => exact ⟨i + 1, wrap64 (x + 1), _, _, by first | rfl | (simp; done) | (simp [*]; done), ⟨by have := HX.out; have := HL1.out; unfold wrap64; omega⟩, ⟨by have := HK.out; omega⟩, HLEN2, HE2, HS_a, ⟨by have h := Kd.Q_drop (k := 1) HQ.out (by simp); rw [if_pos rfl] at h; exact h⟩, HB⟩
                · have hcb : (c7 == 1) = false := beq_eq_false_iff_ne.2 hcc
                  clear hdr
                  go_wp2_with (first | (go_at_call 13; (with_reducible refine (pick_calls z 100 _ hz (by decide)).mono ?_); rintro e w5 ⟨rfl, hb_⟩; rw [hp]; have n_HB := Aside0.mk (below_step HB.out hb_); have n_a := Aside0.mk (HS_a.out.below hb_); have n_Q := Aside0.mk (Kd.Q_below HQ.out hb_); have n_c := (hb_.cell (World.block_lt_of_cell? _ _ hc)).trans hc; clear hb_ HB HS_a HQ hx hc; have HB := n_HB; have HS_a := n_a; have HQ := n_Q; clear n_HB n_a n_Q; have hc := n_c; clear n_c) | (go_at_call 14; (with_reducible refine (left_calls HS_a.out).mono ?_); rintro e w5 ⟨rfl, hb_⟩; have n_HB := Aside0.mk (below_step HB.out hb_); have n_a := Aside0.mk (HS_a.out.below hb_); have n_Q := Aside0.mk (Kd.Q_below HQ.out hb_); clear hb_ HB HS_a HQ; have HB := n_HB; have HS_a := n_a; have HQ := n_Q; clear n_HB n_a n_Q) | (go_at_call 15; (with_reducible refine (draw_calls HS_a.out (Below.size HB.out) (by first | exact HLEN.out | exact HLEN2.out) _).mono ?_); rintro e wt ⟨rfl, va', hs_, hm_⟩; (simp only [r1, r2, r3] at hs_); (simp only [q1, q2, q3]); have n_HB := Aside0.mk (Below.trans HB.out hm_.below); have n_Q := Aside0.mk (HS_a.out.rowOtherQ HQ.out rfl hm_ (by decide) (by decide)); have n_a := Aside0.mk hs_; clear hs_ hm_ HB HS_a HQ; have HB := n_HB; have HS_a := n_a; have HQ := n_Q; clear n_HB n_a n_Q))
                  try clear hx
                  go_roundg k1
                  case measure => have := HK.out; omega
                  case rel => exact ⟨i + 1, wrap64 (x + 1), _, _, by first | rfl | (simp; done) | (simp [*]; done), ⟨by have := HX.out; have := HL1.out; unfold wrap64; omega⟩, ⟨by have := HK.out; omega⟩, HLEN2, HE2, HS_a, ⟨by have h := Kd.Q_drop (k := 1) HQ.out (by simp); rw [if_neg hcc] at h; exact h⟩, HB⟩
            · have d0 : decide (x < (l1.length : Int)) = false := decide_eq_false (by have := HX.out; have := HK.out; omega)
              go_wp2
              go_ret
              exact ⟨rfl, HB.out⟩
end Go.Proofs.Ytaohgjglfpnlkaa.P
