/- SourceApart: ticks take no draw, and draws take no time: for every input. -/
import Derived.Test.YtaohgjglfpnlkaaSrc
namespace Go.Proofs.Ytaohgjglfpnlkaa.P
open Go.RowKit Go.Proofs.YtaohgjglfpnlkaaW.PrintWords Go.Proofs.YtaohgjglfpnlkaaW.PrintLast Go.Proofs.YtaohgjglfpnlkaaW.PrintMore
attribute [local go_sem] max2_int min2_int max_two min_two max_three min_three max_four min_four
set_option linter.unusedVariables false
set_option linter.unusedSimpArgs false
set_option maxHeartbeats 1000000
set_option maxRecDepth 100000

set_option maxHeartbeats 8000000 in
theorem apart_walk (A0 : Option Addr) (c0 : Nat) (l0 : List Int) (A1 : Option Addr) (c1 : Nat) (l1 : List Int) (by_ : Int) (w : World) (hr0 : Kd.C (Kd.int .u64) w A0 l0.length l0) (hc0_ : l0.length ≤ c0) (hr1 : Kd.C (Kd.int .u64) w A1 l1.length l1) (hc1_ : l1.length ≤ c1) (hm : l0.length ≤ maxLen) (hy : l0.length * 8 ≤ 140737488351232) (hw : ∀ x ∈ l0, (Lit.int .u64 x).wf = true) (hm1 : l1.length ≤ maxLen) (hy1 : l1.length * 8 ≤ 140737488351232) (hw1 : ∀ x ∈ l1, (Lit.int .u64 x).wf = true) (hby : (Lit.int .i64 by_).wf = true) :
    Calls Try.prog 9 #[.slice A0 l0.length c0, .slice A1 l1.length c1, .int .i64 by_] w fun e w' => e = .returned (.bool true) ∧ Below w.heap.size w w' := by
  have HB := Aside0.mk (Below.refl w.heap.size w)
  have HR_l0 := Aside0.mk hr0
  have HR_l1 := Aside0.mk hr1
  have HL := Aside0.mk hy
  have HL1 := Aside0.mk hy1
  have HW_l0 : Aside0 (∀ x ∈ l0, 0 ≤ x ∧ x ≤ 18446744073709551615) := ⟨fun x hx => wf_u64 (hw x hx)⟩
  have HW_l1 : Aside0 (∀ x ∈ l1, 0 ≤ x ∧ x ≤ 18446744073709551615) := ⟨fun x hx => wf_u64 (hw1 x hx)⟩
  clear hr0 hy hw hm hr1 hy1 hw1 hm1
  by_cases hbig : 50 < l0.length
  · have b0 : decide ((50 : Int) < (l0.length : Int)) = true := decide_eq_true (by omega)
    go_enter Try.func9, Try.ntmps9
    go_wp2_with (first | (go_at_call 10; (refine (shown_calls _).mono ?_); rintro e w1 ⟨rfl, hb_⟩; have n_HB := Aside0.mk (below_step (by repeat (first | exact HB.out | apply below_alloc | apply pw_below_drewN | apply below_drew1)) hb_); clear hb_ HB; have HB := n_HB; clear n_HB) | (go_at_call 11; (refine (new_calls _).mono ?_); rintro e w3 ⟨gb, rfl, hs_, hb_⟩; have HNE := Aside0.mk (Nat.ne_of_lt (Nat.lt_of_lt_of_le HS_a.out.lt hs_.ge)); have HS_b := Aside0.mk (hs_.lower (Below.size HB.out)); have n_HB := Aside0.mk (below_step HB.out hb_); have n_a := Aside0.mk (HS_a.out.below hb_); clear hs_ hb_ HB HS_a; have HB := n_HB; have HS_a := n_a; clear n_HB n_a) | (go_at_call 11; (refine (new_calls _).mono ?_); rintro e w2 ⟨ga, rfl, hs_, hb_⟩; have HS_a := Aside0.mk (hs_.lower (Below.size (by repeat (first | exact HB.out | apply below_alloc | apply pw_below_drewN | apply below_drew1)))); have n_HB := Aside0.mk (below_step (by repeat (first | exact HB.out | apply below_alloc | apply pw_below_drewN | apply below_drew1)) hb_); clear hs_ hb_; clear HB; have HB := n_HB; clear n_HB))
    go_ret
    exact ⟨rfl, HB.out⟩
  have b0 : decide ((50 : Int) < (l0.length : Int)) = false := decide_eq_false (by omega)
  clear hbig
  by_cases hbig : 50 < l1.length
  · have b1 : decide ((50 : Int) < (l1.length : Int)) = true := decide_eq_true (by omega)
    go_enter Try.func9, Try.ntmps9
    go_wp2_with (first | (go_at_call 10; (refine (shown_calls _).mono ?_); rintro e w1 ⟨rfl, hb_⟩; have n_HB := Aside0.mk (below_step (by repeat (first | exact HB.out | apply below_alloc | apply pw_below_drewN | apply below_drew1)) hb_); clear hb_ HB; have HB := n_HB; clear n_HB) | (go_at_call 11; (refine (new_calls _).mono ?_); rintro e w3 ⟨gb, rfl, hs_, hb_⟩; have HNE := Aside0.mk (Nat.ne_of_lt (Nat.lt_of_lt_of_le HS_a.out.lt hs_.ge)); have HS_b := Aside0.mk (hs_.lower (Below.size HB.out)); have n_HB := Aside0.mk (below_step HB.out hb_); have n_a := Aside0.mk (HS_a.out.below hb_); clear hs_ hb_ HB HS_a; have HB := n_HB; have HS_a := n_a; clear n_HB n_a) | (go_at_call 11; (refine (new_calls _).mono ?_); rintro e w2 ⟨ga, rfl, hs_, hb_⟩; have HS_a := Aside0.mk (hs_.lower (Below.size (by repeat (first | exact HB.out | apply below_alloc | apply pw_below_drewN | apply below_drew1)))); have n_HB := Aside0.mk (below_step (by repeat (first | exact HB.out | apply below_alloc | apply pw_below_drewN | apply below_drew1)) hb_); clear hs_ hb_; clear HB; have HB := n_HB; clear n_HB))
    go_ret
    exact ⟨rfl, HB.out⟩
  have b1 : decide ((50 : Int) < (l1.length : Int)) = false := decide_eq_false (by omega)
  clear hbig
  obtain ⟨p, hp⟩ : ∃ p, pk by_ 90 = p := ⟨_, rfl⟩
  have hpr := pk_range by_ 90 (by decide)
  rw [hp] at hpr
  have e1 : wrap64 (1 + p) = 1 + p := by unfold wrap64; omega
  have e2 : IntKind.i64.wrap (1 + p) = 1 + p := (i64_w _).trans e1
  have HP := Aside0.mk hpr
  clear hpr
  go_enter Try.func9, Try.ntmps9
  go_wp2_with (first | (go_at_call 10; (refine (shown_calls _).mono ?_); rintro e w1 ⟨rfl, hb_⟩; have n_HB := Aside0.mk (below_step (by repeat (first | exact HB.out | apply below_alloc | apply pw_below_drewN | apply below_drew1)) hb_); clear hb_ HB; have HB := n_HB; clear n_HB) | (go_at_call 11; (refine (new_calls _).mono ?_); rintro e w3 ⟨gb, rfl, hs_, hb_⟩; have HNE := Aside0.mk (Nat.ne_of_lt (Nat.lt_of_lt_of_le HS_a.out.lt hs_.ge)); have HS_b := Aside0.mk (hs_.lower (Below.size HB.out)); have n_HB := Aside0.mk (below_step HB.out hb_); have n_a := Aside0.mk (HS_a.out.below hb_); clear hs_ hb_ HB HS_a; have HB := n_HB; have HS_a := n_a; clear n_HB n_a) | (go_at_call 11; (refine (new_calls _).mono ?_); rintro e w2 ⟨ga, rfl, hs_, hb_⟩; have HS_a := Aside0.mk (hs_.lower (Below.size (by repeat (first | exact HB.out | apply below_alloc | apply pw_below_drewN | apply below_drew1)))); have n_HB := Aside0.mk (below_step (by repeat (first | exact HB.out | apply below_alloc | apply pw_below_drewN | apply below_drew1)) hb_); clear hs_ hb_; clear HB; have HB := n_HB; clear n_HB) | (go_at_call 13; (with_reducible refine (pick_calls by_ 90 _ hby (by decide)).mono ?_); rintro e w5 ⟨rfl, hb_⟩; rw [hp]; have n_HB := Aside0.mk (below_step HB.out hb_); have n_a := Aside0.mk (HS_a.out.below hb_); have n_b := Aside0.mk (HS_b.out.below hb_); clear hb_ HB HS_a HS_b; have HB := n_HB; have HS_a := n_a; have HS_b := n_b; clear n_HB n_a n_b))
  clear hby
  go_loopg [11] (l0.length + 1) (fun kq v11 w' => ∃ (i : Nat) (x na nb : Int), v11 = .int .i64 x ∧ Aside0 (x = (i : Int)) ∧ Aside0 (kq + i = l0.length + 1 ∧ i ≤ l0.length) ∧ Aside0 (Src .i64 49 3 w' w.heap.size ga (.slice none 0 0) na []) ∧ Aside0 (Src .i64 49 3 w' w.heap.size gb (.slice none 0 0) nb []) ∧ Aside0 (Below w.heap.size w w'))
  case atStart => exact ⟨0, 0, 0, 0, by rfl, ⟨rfl⟩, ⟨by omega, by omega⟩, HS_a, HS_b, HB⟩
  case round =>
    clear HS_a HS_b HB
    obtain ⟨i, x, na, nb, rfl, HX, HK, HS_a, HS_b, HB⟩ := hrel
    have HAP : Aside0 (Ap (.slice none 0 0) (.slice none 0 0)) := ⟨fun k hk => by simp [Value.ownBlock] at hk⟩
    cases gk with
    | zero => exact absurd HK.out (by omega)
    | succ k1 =>
      by_cases hlt : i < l0.length
      · have d9 := hlt
        clear d9
        have d0 : decide (x < (l0.length : Int)) = true := decide_eq_true (by have := HX.out; omega)
        have p1 : ((0 : Int) ≤ x) = True := eq_true (by have := HX.out; omega)
        have q1 : (x < (l0.length : Int)) = True := eq_true (by have := HX.out; omega)
        obtain ⟨ad, e0, hx0⟩ := Kd.at_int HR_l0.out x (by have := HX.out; omega) (by have := HX.out; omega)
        cases e0
        have hz : 0 ≤ rd l0 x ∧ rd l0 x ≤ 18446744073709551615 := HW_l0.out _ (by have h1 : x.toNat < l0.length := (by have := HX.out; omega); unfold rd; rw [List.getD_eq_getElem?_getD, List.getElem?_eq_getElem h1]; exact List.getElem_mem h1)
        generalize rd l0 x = z at hx0 hz
        have HX0 := Aside0.mk hx0
        have hx := (HB.out.cell (World.block_lt_of_cell? w _ HX0.out)).trans HX0.out
        clear hx0
        obtain ⟨na', hd1⟩ : ∃ t, dl na z = t := ⟨_, rfl⟩
        obtain ⟨nb', hd2⟩ : ∃ t, dl nb z = t := ⟨_, rfl⟩
        go_wp2_with (first | (go_at_call 17; (with_reducible refine (tick_calls HS_a.out (Below.size HB.out) _).mono ?_); rintro e wt ⟨rfl, hs_, hm_⟩; simp only [hd1, hd2] at hs_; have n_HB := Aside0.mk (Below.trans HB.out hm_.below); have n_b := Aside0.mk (HS_b.out.apart HS_a.out hm_ (by decide) (Ne.symm HNE.out) HAP.out); have n_AP := Aside0.mk (hm_.ap HS_b.out.own_lt HAP.out); have n_a := Aside0.mk hs_; clear hs_ hm_ HB HS_a HS_b HAP hx; have HB := n_HB; have HS_a := n_a; have HS_b := n_b; have HAP := n_AP; clear n_HB n_a n_b n_AP; have hx := (HB.out.cell (World.block_lt_of_cell? w _ HX0.out)).trans HX0.out) | (go_at_call 17; (with_reducible refine (tick_calls HS_b.out (Below.size HB.out) _).mono ?_); rintro e wt ⟨rfl, hs_, hm_⟩; simp only [hd1, hd2] at hs_; have n_HB := Aside0.mk (Below.trans HB.out hm_.below); have n_a := Aside0.mk (HS_a.out.apart HS_b.out hm_ (by decide) HNE.out HAP.out.symm); have n_AP := Aside0.mk ((hm_.ap HS_a.out.own_lt HAP.out.symm).symm); have n_b := Aside0.mk hs_; clear hs_ hm_ HB HS_a HS_b HAP hx; have HB := n_HB; have HS_a := n_a; have HS_b := n_b; have HAP := n_AP; clear n_HB n_a n_b n_AP; have hx := (HB.out.cell (World.block_lt_of_cell? w _ HX0.out)).trans HX0.out))
        go_roundg k1
        case measure => have := HK.out; omega
        case rel => exact ⟨i + 1, wrap64 (x + 1), na', nb', by first | rfl | (simp; done) | (simp [*]; done), ⟨by have := HX.out; have := HL.out; unfold wrap64; omega⟩, ⟨by have := HK.out; omega⟩, HS_a, HS_b, HB⟩
      · have d0 : decide (x < (l0.length : Int)) = false := decide_eq_false (by have := HX.out; have := HK.out; omega)
        go_wp2
        clear d0 HX HK
        go_loopg [12] (l1.length + 1) (fun kq v12 w' => ∃ (i : Nat) (x na nb : Int) (va vb : Value), v12 = .int .i64 x ∧ Aside0 (x = (i : Int)) ∧ Aside0 (kq + i = l1.length + 1 ∧ i ≤ l1.length) ∧ Aside0 (Src .i64 49 3 w' w.heap.size ga va na []) ∧ Aside0 (Src .i64 49 3 w' w.heap.size gb vb nb []) ∧ Aside0 (Ap va vb) ∧ Aside0 (Below w.heap.size w w'))
        case atStart => exact ⟨0, 0, na, nb, .slice none 0 0, .slice none 0 0, by rfl, ⟨rfl⟩, ⟨by omega, by omega⟩, HS_a, HS_b, HAP, HB⟩
        case round =>
          clear HS_a HS_b HB HAP
          obtain ⟨i, x, na, nb, va, vb, rfl, HX, HK, HS_a, HS_b, HAP, HB⟩ := hrel
          cases gk with
          | zero => exact absurd HK.out (by omega)
          | succ k1 =>
            by_cases hlt : i < l1.length
            · have d9 := hlt
              clear d9
              have d0 : decide (x < (l1.length : Int)) = true := decide_eq_true (by have := HX.out; omega)
              have p1 : ((0 : Int) ≤ x) = True := eq_true (by have := HX.out; omega)
              have q1 : (x < (l1.length : Int)) = True := eq_true (by have := HX.out; omega)
              obtain ⟨ad, e0, hx0⟩ := Kd.at_int HR_l1.out x (by have := HX.out; omega) (by have := HX.out; omega)
              cases e0
              have hz : 0 ≤ rd l1 x ∧ rd l1 x ≤ 18446744073709551615 := HW_l1.out _ (by have h1 : x.toNat < l1.length := (by have := HX.out; omega); unfold rd; rw [List.getD_eq_getElem?_getD, List.getElem?_eq_getElem h1]; exact List.getElem_mem h1)
              generalize rd l1 x = z at hx0 hz
              have HX0 := Aside0.mk hx0
              have hx := (HB.out.cell (World.block_lt_of_cell? w _ HX0.out)).trans HX0.out
              clear hx0
              have HZ0 := Aside0.mk hz.1
              have HLEN : Aside0 ((addL [] z).length < 1000000) := ⟨by have := addL_len [] z; simp at this; omega⟩
              obtain ⟨f1, hf1⟩ : ∃ t, addR z = t := ⟨_, rfl⟩
              obtain ⟨f2, hf2⟩ : ∃ t, drawR (1 + p) (addL [] z) = t := ⟨_, rfl⟩
              have hf3 : drawL (1 + p) (addL [] z) = [] := by have := HP.out; unfold drawL addL; rw [if_neg (by omega)]; split <;> rfl
              obtain ⟨na', hd4⟩ : ∃ t, dl na 3 = t := ⟨_, rfl⟩
              go_wp2_with (first | (go_at_call 12; (with_reducible refine (add_calls HS_a.out (Below.size HB.out) (by decide) _ HZ0.out).mono ?_); rintro e wt ⟨rfl, va', hs_, hm_⟩; rw [hf1]; have n_HB := Aside0.mk (Below.trans HB.out hm_.below); have n_b := Aside0.mk (HS_b.out.apart HS_a.out hm_ (by decide) (Ne.symm HNE.out) HAP.out); have n_AP := Aside0.mk (hm_.ap HS_b.out.own_lt HAP.out); have n_a := Aside0.mk hs_; clear hs_ hm_ HB HS_a HS_b HAP hx; have HB := n_HB; have HS_a := n_a; have HS_b := n_b; have HAP := n_AP; clear n_HB n_a n_b n_AP; have hx := (HB.out.cell (World.block_lt_of_cell? w _ HX0.out)).trans HX0.out) | (go_at_call 12; (with_reducible refine (add_calls HS_b.out (Below.size HB.out) (by decide) _ HZ0.out).mono ?_); rintro e wt ⟨rfl, vb', hs_, hm_⟩; rw [hf1]; have n_HB := Aside0.mk (Below.trans HB.out hm_.below); have n_a := Aside0.mk (HS_a.out.apart HS_b.out hm_ (by decide) HNE.out HAP.out.symm); have n_AP := Aside0.mk ((hm_.ap HS_a.out.own_lt HAP.out.symm).symm); have n_b := Aside0.mk hs_; clear hs_ hm_ HB HS_a HS_b HAP hx; have HB := n_HB; have HS_a := n_a; have HS_b := n_b; have HAP := n_AP; clear n_HB n_a n_b n_AP; have hx := (HB.out.cell (World.block_lt_of_cell? w _ HX0.out)).trans HX0.out) | (go_at_call 15; (with_reducible refine (draw_calls HS_a.out (Below.size HB.out) HLEN.out _).mono ?_); rintro e wt ⟨rfl, va', hs_, hm_⟩; rw [hf2]; rw [hf3] at hs_; have n_HB := Aside0.mk (Below.trans HB.out hm_.below); have n_b := Aside0.mk (HS_b.out.apart HS_a.out hm_ (by decide) (Ne.symm HNE.out) HAP.out); have n_AP := Aside0.mk (hm_.ap HS_b.out.own_lt HAP.out); have n_a := Aside0.mk hs_; clear hs_ hm_ HB HS_a HS_b HAP hx; have HB := n_HB; have HS_a := n_a; have HS_b := n_b; have HAP := n_AP; clear n_HB n_a n_b n_AP; have hx := (HB.out.cell (World.block_lt_of_cell? w _ HX0.out)).trans HX0.out) | (go_at_call 15; (with_reducible refine (draw_calls HS_b.out (Below.size HB.out) HLEN.out _).mono ?_); rintro e wt ⟨rfl, vb', hs_, hm_⟩; rw [hf2]; rw [hf3] at hs_; have n_HB := Aside0.mk (Below.trans HB.out hm_.below); have n_a := Aside0.mk (HS_a.out.apart HS_b.out hm_ (by decide) HNE.out HAP.out.symm); have n_AP := Aside0.mk ((hm_.ap HS_a.out.own_lt HAP.out.symm).symm); have n_b := Aside0.mk hs_; clear hs_ hm_ HB HS_a HS_b HAP hx; have HB := n_HB; have HS_a := n_a; have HS_b := n_b; have HAP := n_AP; clear n_HB n_a n_b n_AP; have hx := (HB.out.cell (World.block_lt_of_cell? w _ HX0.out)).trans HX0.out) | (go_at_call 16; (with_reducible refine (now_calls HS_a.out).mono ?_); rintro e wt ⟨rfl, hb_⟩; have n_HB := Aside0.mk (below_step HB.out hb_); have n_a := Aside0.mk (HS_a.out.below hb_); have n_b := Aside0.mk (HS_b.out.below hb_); clear hb_ HB HS_a HS_b hx; have HB := n_HB; have HS_a := n_a; have HS_b := n_b; clear n_HB n_a n_b; have hx := (HB.out.cell (World.block_lt_of_cell? w _ HX0.out)).trans HX0.out) | (go_at_call 14; (with_reducible refine (left_calls HS_a.out).mono ?_); rintro e wt ⟨rfl, hb_⟩; have n_HB := Aside0.mk (below_step HB.out hb_); have n_a := Aside0.mk (HS_a.out.below hb_); have n_b := Aside0.mk (HS_b.out.below hb_); clear hb_ HB HS_a HS_b hx; have HB := n_HB; have HS_a := n_a; have HS_b := n_b; clear n_HB n_a n_b; have hx := (HB.out.cell (World.block_lt_of_cell? w _ HX0.out)).trans HX0.out) | (go_at_call 14; (with_reducible refine (left_calls HS_b.out).mono ?_); rintro e wt ⟨rfl, hb_⟩; have n_HB := Aside0.mk (below_step HB.out hb_); have n_a := Aside0.mk (HS_a.out.below hb_); have n_b := Aside0.mk (HS_b.out.below hb_); clear hb_ HB HS_a HS_b hx; have HB := n_HB; have HS_a := n_a; have HS_b := n_b; clear n_HB n_a n_b; have hx := (HB.out.cell (World.block_lt_of_cell? w _ HX0.out)).trans HX0.out) | (go_at_call 17; (with_reducible refine (tick_calls HS_a.out (Below.size HB.out) _).mono ?_); rintro e wt ⟨rfl, hs_, hm_⟩; rw [hd4] at hs_; have n_HB := Aside0.mk (Below.trans HB.out hm_.below); have n_b := Aside0.mk (HS_b.out.apart HS_a.out hm_ (by decide) (Ne.symm HNE.out) HAP.out); have n_AP := Aside0.mk (hm_.ap HS_b.out.own_lt HAP.out); have n_a := Aside0.mk hs_; clear hs_ hm_ HB HS_a HS_b HAP hx; have HB := n_HB; have HS_a := n_a; have HS_b := n_b; have HAP := n_AP; clear n_HB n_a n_b n_AP; have hx := (HB.out.cell (World.block_lt_of_cell? w _ HX0.out)).trans HX0.out))
              go_roundg k1
              case measure => have := HK.out; omega
              case rel => exact ⟨i + 1, wrap64 (x + 1), na', nb, _, _, by first | rfl | (simp; done) | (simp [*]; done), ⟨by have := HX.out; have := HL1.out; unfold wrap64; omega⟩, ⟨by have := HK.out; omega⟩, HS_a, HS_b, HAP, HB⟩
            · have d0 : decide (x < (l1.length : Int)) = false := decide_eq_false (by have := HX.out; have := HK.out; omega)
              go_wp2
              go_ret
              exact ⟨rfl, HB.out⟩
end Go.Proofs.Ytaohgjglfpnlkaa.P
