/- SourceTicks: a tick of nothing changes nothing; ticks in another order lead to the same time: for every input. -/
import Derived.Test.YtaohgjglfpnlkaaSrc
namespace Go.Proofs.Ytaohgjglfpnlkaa.P
open Go.RowKit Go.Proofs.YtaohgjglfpnlkaaW.PrintWords Go.Proofs.YtaohgjglfpnlkaaW.PrintLast Go.Proofs.YtaohgjglfpnlkaaW.PrintMore
attribute [local go_sem] max2_int min2_int max_two min_two max_three min_three max_four min_four
set_option linter.unusedVariables false
set_option linter.unusedSimpArgs false
set_option maxHeartbeats 1000000
set_option maxRecDepth 100000

def cap (s : Int) : Int := if s ≤ 18446744073709551615 then s else 18446744073709551615
def sumI : List Int → Int
  | [] => 0
  | x :: l => x + sumI l
theorem sumI_append (l m : List Int) : sumI (l ++ m) = sumI l + sumI m := by
  induction l with
  | nil => simp [sumI]
  | cons x l ih => simp [sumI, ih]; omega
theorem sumI_pos {l : List Int} (h : ∀ x ∈ l, 0 ≤ x) : 0 ≤ sumI l := by
  induction l with
  | nil => simp [sumI]
  | cons x l ih => have := ih (fun y hy => h y (List.mem_cons_of_mem _ hy)); have := h x List.mem_cons_self; simp only [sumI]; omega
theorem cap_range {s : Int} (h : 0 ≤ s) : 0 ≤ cap s ∧ cap s ≤ 18446744073709551615 := by unfold cap; split <;> omega
theorem dl_cap {s x : Int} (h : 0 ≤ s) (h0 : 0 ≤ x) (h1 : x ≤ 18446744073709551615) : dl (cap s) x = cap (s + x) := by
  rw [dl_tk _ _ (cap_range h).1 (cap_range h).2 h0 h1]
  unfold tk
  by_cases c : s + x ≤ 18446744073709551615
  · have e : cap s = s := if_pos (by omega)
    rw [e, if_pos c]
    exact (if_pos c).symm
  · have e : cap (s + x) = 18446744073709551615 := if_neg c
    rw [e]
    by_cases c2 : s ≤ 18446744073709551615
    · have e2 : cap s = s := if_pos c2
      rw [e2, if_neg c]
    · have e2 : cap s = 18446744073709551615 := if_neg c2
      rw [e2]
      split <;> omega
theorem rd_take {l : List Int} {i : Nat} (h : i < l.length) : l.take (i + 1) = l.take i ++ [rd l (i : Int)] := by
  rw [List.take_add_one, List.getElem?_eq_getElem h]
  simp [rd, h]
theorem rd_dropI {l : List Int} {i : Nat} (h : i < l.length) : l.drop i = rd l (i : Int) :: l.drop (i + 1) := by
  rw [List.drop_eq_getElem_cons h]
  simp [rd, h]
set_option maxHeartbeats 8000000 in
theorem ticks_walk (A0 : Option Addr) (c0 : Nat) (l0 : List Int) (w : World) (hr0 : Kd.C (Kd.int .u64) w A0 l0.length l0) (hc0_ : l0.length ≤ c0) (hm : l0.length ≤ maxLen) (hy : l0.length * 8 ≤ 140737488351232) (hw : ∀ x ∈ l0, (Lit.int .u64 x).wf = true) :
    Calls Try.prog 7 #[.slice A0 l0.length c0] w fun e w' => e = .returned (.bool true) ∧ Below w.heap.size w w' := by
  have HB := Aside0.mk (Below.refl w.heap.size w)
  have HR0 := Aside0.mk hr0
  have HL := Aside0.mk hy
  have HW : Aside0 (∀ x ∈ l0, 0 ≤ x ∧ x ≤ 18446744073709551615) := ⟨fun x hx => wf_u64 (hw x hx)⟩
  clear hr0 hy hw hm
  by_cases hbig : 50 < l0.length
  · have b0 : decide ((50 : Int) < (l0.length : Int)) = true := decide_eq_true (by omega)
    go_enter Try.func7, Try.ntmps7
    go_wp2_with (first | (go_at_call 10; (refine (shown_calls _).mono ?_); rintro e w1 ⟨rfl, hb_⟩; have n_HB := Aside0.mk (below_step (by repeat (first | exact HB.out | apply below_alloc | apply pw_below_drewN | apply below_drew1)) hb_); clear hb_ HB; have HB := n_HB; clear n_HB) | (go_at_call 11; (refine (new_calls _).mono ?_); rintro e w3 ⟨gb, rfl, hs_, hb_⟩; have HNE := Aside0.mk (Nat.ne_of_lt (Nat.lt_of_lt_of_le HS_a.out.lt hs_.ge)); have HS_b := Aside0.mk (hs_.lower (Below.size HB.out)); have n_HB := Aside0.mk (below_step HB.out hb_); have n_a := Aside0.mk (HS_a.out.below hb_); clear hs_ hb_ HB HS_a; have HB := n_HB; have HS_a := n_a; clear n_HB n_a) | (go_at_call 11; (refine (new_calls _).mono ?_); rintro e w2 ⟨ga, rfl, hs_, hb_⟩; have HS_a := Aside0.mk (hs_.lower (Below.size (by repeat (first | exact HB.out | apply below_alloc | apply pw_below_drewN | apply below_drew1)))); have n_HB := Aside0.mk (below_step (by repeat (first | exact HB.out | apply below_alloc | apply pw_below_drewN | apply below_drew1)) hb_); clear hs_ hb_; clear HB; have HB := n_HB; clear n_HB))
    go_ret
    exact ⟨rfl, HB.out⟩
  have b0 : decide ((50 : Int) < (l0.length : Int)) = false := decide_eq_false (by omega)
  clear hbig
  go_enter Try.func7, Try.ntmps7
  go_wp2_with (first | (go_at_call 10; (refine (shown_calls _).mono ?_); rintro e w1 ⟨rfl, hb_⟩; have n_HB := Aside0.mk (below_step (by repeat (first | exact HB.out | apply below_alloc | apply pw_below_drewN | apply below_drew1)) hb_); clear hb_ HB; have HB := n_HB; clear n_HB) | (go_at_call 11; (refine (new_calls _).mono ?_); rintro e w3 ⟨gb, rfl, hs_, hb_⟩; have HNE := Aside0.mk (Nat.ne_of_lt (Nat.lt_of_lt_of_le HS_a.out.lt hs_.ge)); have HS_b := Aside0.mk (hs_.lower (Below.size HB.out)); have n_HB := Aside0.mk (below_step HB.out hb_); have n_a := Aside0.mk (HS_a.out.below hb_); clear hs_ hb_ HB HS_a; have HB := n_HB; have HS_a := n_a; clear n_HB n_a) | (go_at_call 11; (refine (new_calls _).mono ?_); rintro e w2 ⟨ga, rfl, hs_, hb_⟩; have HS_a := Aside0.mk (hs_.lower (Below.size (by repeat (first | exact HB.out | apply below_alloc | apply pw_below_drewN | apply below_drew1)))); have n_HB := Aside0.mk (below_step (by repeat (first | exact HB.out | apply below_alloc | apply pw_below_drewN | apply below_drew1)) hb_); clear hs_ hb_; clear HB; have HB := n_HB; clear n_HB))
  go_loopg [6] (l0.length + 1) (fun kq v6 w' => ∃ (i : Nat) (x na nb : Int), v6 = .int .i64 x ∧ Aside0 (x = (i : Int)) ∧ Aside0 (kq + i = l0.length + 1 ∧ i ≤ l0.length) ∧ Aside0 (na = cap (sumI (l0.take i))) ∧ Aside0 (nb = cap (sumI (l0.drop (l0.length - i)))) ∧ Aside0 (Src .i64 49 3 w' w.heap.size ga (.slice none 0 0) na []) ∧ Aside0 (Src .i64 49 3 w' w.heap.size gb (.slice none 0 0) nb []) ∧ Aside0 (Below w.heap.size w w'))
  case atStart => exact ⟨0, 0, 0, 0, by rfl, ⟨rfl⟩, ⟨by omega, by omega⟩, ⟨by simp [sumI, cap]⟩, ⟨by simp [sumI, cap]⟩, HS_a, HS_b, HB⟩
  case round =>
    clear HS_a HS_b HB
    obtain ⟨i, x, na, nb, rfl, HX, HK, HIa, HIb, HS_a, HS_b, HB⟩ := hrel
    cases gk with
    | zero => exact absurd HK.out (by omega)
    | succ k1 =>
      by_cases hlt : i < l0.length
      · have d0 : decide (x < (l0.length : Int)) = true := decide_eq_true (by have := HX.out; omega)
        have p1 : ((0 : Int) ≤ x) = True := eq_true (by have := HX.out; omega)
        have q1 : (x < (l0.length : Int)) = True := eq_true (by have := HX.out; omega)
        obtain ⟨j, hj⟩ : ∃ j : Nat, j + i + 1 = l0.length := ⟨l0.length - i - 1, by omega⟩
        obtain ⟨m1, hm1⟩ : ∃ t, wrap64 ((l0.length : Int) - 1) = t := ⟨_, rfl⟩
        have hm1' : m1 = (l0.length : Int) - 1 := by rw [← hm1]; have := HL.out; unfold wrap64; omega
        obtain ⟨y, hyy⟩ : ∃ t, wrap64 (m1 - x) = t := ⟨_, rfl⟩
        have hyj : y = (j : Int) := by rw [← hyy, hm1']; have := HL.out; have := HX.out; unfold wrap64; omega
        have hm2 : IntKind.i64.wrap ((l0.length : Int) - 1) = m1 := (i64_w _).trans hm1
        have hyy2 : IntKind.i64.wrap (m1 - x) = y := (i64_w _).trans hyy
        have p2 : ((0 : Int) ≤ y) = True := eq_true (by omega)
        have q2 : (y < (l0.length : Int)) = True := eq_true (by omega)
        obtain ⟨ad, e0, hx0⟩ := Kd.at_int HR0.out x (by have := HX.out; omega) (by have := HX.out; omega)
        obtain ⟨ad2, e2, hy0⟩ := Kd.at_int HR0.out y (by omega) (by omega)
        cases e0
        obtain rfl : ad = ad2 := by injection e2
        have hz : 0 ≤ rd l0 x ∧ rd l0 x ≤ 18446744073709551615 := HW.out _ (by have h1 : x.toNat < l0.length := (by have := HX.out; omega); unfold rd; rw [List.getD_eq_getElem?_getD, List.getElem?_eq_getElem h1]; exact List.getElem_mem h1)
        have hz2 : 0 ≤ rd l0 y ∧ rd l0 y ≤ 18446744073709551615 := HW.out _ (by have h1 : y.toNat < l0.length := (by omega); unfold rd; rw [List.getD_eq_getElem?_getD, List.getElem?_eq_getElem h1]; exact List.getElem_mem h1)
        have hpa : 0 ≤ sumI (l0.take i) := sumI_pos (fun q hq => (HW.out q (List.mem_of_mem_take hq)).1)
        have hpb : 0 ≤ sumI (l0.drop (l0.length - i)) := sumI_pos (fun q hq => (HW.out q (List.mem_of_mem_drop hq)).1)
        obtain ⟨na', hd1⟩ : ∃ t, dl na (rd l0 x) = t := ⟨_, rfl⟩
        have HIa' : Aside0 (na' = cap (sumI (l0.take (i + 1)))) := ⟨by rw [← hd1, HIa.out, dl_cap hpa hz.1 hz.2, rd_take hlt, sumI_append, HX.out]; simp [sumI]⟩
        have hd2 : dl na' 0 = na' := by rw [HIa'.out, dl_cap (sumI_pos (fun q hq => (HW.out q (List.mem_of_mem_take hq)).1)) (by decide) (by decide), Int.add_zero]
        obtain ⟨nb', hd3⟩ : ∃ t, dl nb (rd l0 y) = t := ⟨_, rfl⟩
        have HIb' : Aside0 (nb' = cap (sumI (l0.drop (l0.length - (i + 1))))) := ⟨by rw [← hd3, HIb.out, dl_cap hpb hz2.1 hz2.2, show l0.length - (i + 1) = j by omega, rd_dropI (show j < l0.length by omega), show l0.length - i = j + 1 by omega, hyj]; simp only [sumI]; rw [Int.add_comm]⟩
        have HX0 := Aside0.mk hx0
        have HY0 := Aside0.mk hy0
        have hx := (HB.out.cell (World.block_lt_of_cell? w _ HX0.out)).trans HX0.out
        have hy := (HB.out.cell (World.block_lt_of_cell? w _ HY0.out)).trans HY0.out
        clear hx0 hy0 hz hz2 hpa hpb hm1' hyj hj hm1 hyy
        go_wp2_with (first | (go_at_call 17; (with_reducible refine (tick_calls HS_a.out (Below.size HB.out) _).mono ?_); rintro e wt ⟨rfl, hs_, hm_⟩; simp only [hd1, hd2] at hs_; have n_HB := Aside0.mk (Below.trans HB.out hm_.below); have n_b := Aside0.mk (HS_b.out.still hm_ (Ne.symm HNE.out)); have n_a := Aside0.mk hs_; clear hs_ hm_ HB HS_a HS_b hx hy; have HB := n_HB; have HS_a := n_a; have HS_b := n_b; clear n_HB n_a n_b; have hx := (HB.out.cell (World.block_lt_of_cell? w _ HX0.out)).trans HX0.out; have hy := (HB.out.cell (World.block_lt_of_cell? w _ HY0.out)).trans HY0.out) | (go_at_call 17; (with_reducible refine (tick_calls HS_b.out (Below.size HB.out) _).mono ?_); rintro e wt ⟨rfl, hs_, hm_⟩; simp only [hd3] at hs_; have n_HB := Aside0.mk (Below.trans HB.out hm_.below); have n_a := Aside0.mk (HS_a.out.still hm_ HNE.out); have n_b := Aside0.mk hs_; clear hs_ hm_ HB HS_a HS_b hx hy; have HB := n_HB; have HS_a := n_a; have HS_b := n_b; clear n_HB n_a n_b; have hx := (HB.out.cell (World.block_lt_of_cell? w _ HX0.out)).trans HX0.out; have hy := (HB.out.cell (World.block_lt_of_cell? w _ HY0.out)).trans HY0.out))
        go_roundg k1
        case measure => have := HK.out; omega
        case rel => exact ⟨i + 1, wrap64 (x + 1), na', nb', by first | rfl | (simp; done) | (simp [*]; done), ⟨by have := HX.out; have := HL.out; unfold wrap64; omega⟩, ⟨by have := HK.out; omega⟩, HIa', HIb', HS_a, HS_b, HB⟩
      · have d0 : decide (x < (l0.length : Int)) = false := decide_eq_false (by have := HX.out; have := HK.out; omega)
        have ei : i = l0.length := by have := HK.out; omega
        have eab : (na == nb) = true := by rw [beq_iff_eq, HIa.out, HIb.out, ei]; simp
        have hca := HS_a.out.cell0
        have hcb := HS_b.out.cell0
        go_wp2_with (first | (go_at_call 16; (with_reducible refine (now_same hca).mono ?_); rintro e w' ⟨rfl, rfl⟩) | (go_at_call 16; (with_reducible refine (now_same hcb).mono ?_); rintro e w' ⟨rfl, rfl⟩))
        go_ret
        exact ⟨rfl, HB.out⟩
end Go.Proofs.Ytaohgjglfpnlkaa.P
