/- SourceDeadline: a deadline is never ahead of now, and comes just when so much time went by, as long as there is time: for every input. -/
import Derived.Test.YtaohgjglfpnlkaaSrc
namespace Go.Proofs.Ytaohgjglfpnlkaa.P
open Go.RowKit Go.Proofs.YtaohgjglfpnlkaaW.PrintWords Go.Proofs.YtaohgjglfpnlkaaW.PrintLast Go.Proofs.YtaohgjglfpnlkaaW.PrintMore
attribute [local go_sem] max2_int min2_int max_two min_two max_three min_three max_four min_four
set_option linter.unusedVariables false
set_option linter.unusedSimpArgs false
set_option maxHeartbeats 1000000
set_option maxRecDepth 100000

set_option maxHeartbeats 8000000 in
theorem deadline_walk (A0 : Option Addr) (c0 : Nat) (l0 : List Int) (wait more : Int) (w : World) (hr0 : Kd.C (Kd.int .u64) w A0 l0.length l0) (hc0_ : l0.length ≤ c0) (hm : l0.length ≤ maxLen) (hy : l0.length * 8 ≤ 140737488351232) (hw : ∀ x ∈ l0, (Lit.int .u64 x).wf = true)
    (hwait : (Lit.int .u64 wait).wf = true) (hmore : (Lit.int .u64 more).wf = true) :
    Calls Try.prog 6 #[.slice A0 l0.length c0, .int .u64 wait, .int .u64 more] w fun e w' => e = .returned (.bool true) ∧ Below w.heap.size w w' := by
  have HB := Aside0.mk (Below.refl w.heap.size w)
  have HR0 := Aside0.mk hr0
  have HL := Aside0.mk hy
  have HW : Aside0 (∀ x ∈ l0, 0 ≤ x ∧ x ≤ 18446744073709551615) := ⟨fun x hx => wf_u64 (hw x hx)⟩
  have HW1 := Aside0.mk (wf_u64 hwait)
  have HW2 := Aside0.mk (wf_u64 hmore)
  clear hr0 hy hw hm hwait hmore
  by_cases hbig : 50 < l0.length
  · have b0 : decide ((50 : Int) < (l0.length : Int)) = true := decide_eq_true (by omega)
    go_enter Try.func6, Try.ntmps6
    go_wp2_with (first | (go_at_call 10; (refine (shown_calls _).mono ?_); rintro e w1 ⟨rfl, hb_⟩; have n_HB := Aside0.mk (below_step (by repeat (first | exact HB.out | apply below_alloc | apply pw_below_drewN | apply below_drew1)) hb_); clear hb_ HB; have HB := n_HB; clear n_HB) | (go_at_call 11; (refine (new_calls _).mono ?_); rintro e w2 ⟨ga, rfl, hs_, hb_⟩; have HS_a := Aside0.mk (hs_.lower (Below.size (by repeat (first | exact HB.out | apply below_alloc | apply pw_below_drewN | apply below_drew1)))); have n_HB := Aside0.mk (below_step (by repeat (first | exact HB.out | apply below_alloc | apply pw_below_drewN | apply below_drew1)) hb_); clear hs_ hb_; clear HB; have HB := n_HB; clear n_HB))
    go_ret
    exact ⟨rfl, HB.out⟩
  have b0 : decide ((50 : Int) < (l0.length : Int)) = false := decide_eq_false (by omega)
  clear hbig
  go_enter Try.func6, Try.ntmps6
  go_wp2_with (first | (go_at_call 10; (refine (shown_calls _).mono ?_); rintro e w1 ⟨rfl, hb_⟩; have n_HB := Aside0.mk (below_step (by repeat (first | exact HB.out | apply below_alloc | apply pw_below_drewN | apply below_drew1)) hb_); clear hb_ HB; have HB := n_HB; clear n_HB) | (go_at_call 11; (refine (new_calls _).mono ?_); rintro e w2 ⟨ga, rfl, hs_, hb_⟩; have HS_a := Aside0.mk (hs_.lower (Below.size (by repeat (first | exact HB.out | apply below_alloc | apply pw_below_drewN | apply below_drew1)))); have n_HB := Aside0.mk (below_step (by repeat (first | exact HB.out | apply below_alloc | apply pw_below_drewN | apply below_drew1)) hb_); clear hs_ hb_; clear HB; have HB := n_HB; clear n_HB))
  go_loopg [9] (l0.length + 1) (fun kq v9 w' => ∃ (i : Nat) (x na : Int), v9 = .int .i64 x ∧ Aside0 (x = (i : Int)) ∧ Aside0 (kq + i = l0.length + 1 ∧ i ≤ l0.length) ∧ Aside0 (0 ≤ na ∧ na ≤ 18446744073709551615) ∧ Aside0 (Src .i64 49 3 w' w.heap.size ga (.slice none 0 0) na []) ∧ Aside0 (Below w.heap.size w w'))
  case atStart => exact ⟨0, 0, 0, by rfl, ⟨rfl⟩, ⟨by omega, by omega⟩, ⟨by decide, by decide⟩, HS_a, HB⟩
  case round =>
    clear HS_a HB
    obtain ⟨i, x, na, rfl, HX, HK, HI, HS_a, HB⟩ := hrel
    cases gk with
    | zero => exact absurd HK.out (by omega)
    | succ k1 =>
      by_cases hlt : i < l0.length
      · have d0 : decide (x < (l0.length : Int)) = true := decide_eq_true (by have := HX.out; omega)
        have p1 : ((0 : Int) ≤ x) = True := eq_true (by have := HX.out; omega)
        have q1 : (x < (l0.length : Int)) = True := eq_true (by have := HX.out; omega)
        obtain ⟨ad, e0, hx0⟩ := Kd.at_int HR0.out x (by have := HX.out; omega) (by have := HX.out; omega)
        cases e0
        have hz : 0 ≤ rd l0 x ∧ rd l0 x ≤ 18446744073709551615 := HW.out _ (by have h1 : x.toNat < l0.length := (by have := HX.out; omega); unfold rd; rw [List.getD_eq_getElem?_getD, List.getElem?_eq_getElem h1]; exact List.getElem_mem h1)
        generalize rd l0 x = z at hx0 hz
        obtain ⟨zz, hzz⟩ : ∃ t, Int.tmod z 1125899906842624 = t := ⟨_, rfl⟩
        have hzr : 0 ≤ zz ∧ zz < 1125899906842624 := by rw [← hzz]; exact ⟨Int.tmod_nonneg _ hz.1, Int.tmod_lt_of_pos _ (by decide)⟩
        obtain ⟨na', hd⟩ : ∃ t, dl na zz = t := ⟨_, rfl⟩
        have HI' : Aside0 (0 ≤ na' ∧ na' ≤ 18446744073709551615) := ⟨by rw [← hd, dl_tk _ _ HI.out.1 HI.out.2 hzr.1 (by omega)]; have := HI.out; unfold tk; split <;> omega⟩
        have hx := (HB.out.cell (World.block_lt_of_cell? w _ hx0)).trans hx0
        clear hx0 hz hzr
        go_wp2_with (first | (go_at_call 17; (with_reducible refine (tick_calls HS_a.out (Below.size HB.out) _).mono ?_); rintro e wt ⟨rfl, hs_, hm_⟩; rw [hd] at hs_; have n_HB := Aside0.mk (Below.trans HB.out hm_.below); have n_a := Aside0.mk hs_; clear hs_ hm_ HB HS_a; have HB := n_HB; have HS_a := n_a; clear n_HB n_a))
        go_roundg k1
        case measure => have := HK.out; omega
        case rel => exact ⟨i + 1, wrap64 (x + 1), na', by first | rfl | (simp; done) | (simp [*]; done), ⟨by have := HX.out; have := HL.out; unfold wrap64; omega⟩, ⟨by have := HK.out; omega⟩, HI', HS_a, HB⟩
      · have d0 : decide (x < (l0.length : Int)) = false := decide_eq_false (by have := HX.out; have := HK.out; omega)
        have hca := HS_a.out.cell0
        obtain ⟨dd, hdd⟩ : ∃ t, dl na wait = t := ⟨_, rfl⟩
        have hdk : dd = tk na wait := by rw [← hdd]; exact dl_tk _ _ HI.out.1 HI.out.2 HW1.out.1 HW1.out.2
        obtain ⟨n2, hn2⟩ : ∃ t, dl na more = t := ⟨_, rfl⟩
        have hnk : n2 = tk na more := by rw [← hn2]; exact dl_tk _ _ HI.out.1 HI.out.2 HW2.out.1 HW2.out.2
        have g0 : dl na 0 = na := by rw [dl_tk _ _ HI.out.1 HI.out.2 (by decide) (by decide)]; have := HI.out; unfold tk; split <;> omega
        have g1 : decide (dd < na) = false := decide_eq_false (by have := HI.out; have := HW1.out; rw [hdk]; unfold tk; split <;> omega)
        have g2 : IntKind.u64.wrap (18446744073709551615 - na) = 18446744073709551615 - na := u64w (by have := HI.out; omega) (by have := HI.out; omega)
        by_cases c : 18446744073709551615 - na < wait
        · have c0 : decide (18446744073709551615 - na < wait) = true := decide_eq_true c
          have c1 : (dd == 18446744073709551615) = true := by rw [beq_iff_eq, hdk]; unfold tk; rw [if_neg (by omega)]
          clear hdk hnk c
          go_wp2_with (first | (go_at_call 16; (with_reducible refine (now_same hca).mono ?_); rintro e w' ⟨rfl, rfl⟩) | (go_at_call 18; (with_reducible refine (dl_same _ _ _).mono ?_); rintro e w' ⟨rfl, rfl⟩) | (go_at_call 17; (with_reducible refine (tick_calls HS_a.out (Below.size HB.out) _).mono ?_); rintro e wt ⟨rfl, hs_, hm_⟩; rw [hn2] at hs_; have n_HB := Aside0.mk (Below.trans HB.out hm_.below); have n_a := Aside0.mk hs_; clear hs_ hm_ HB HS_a hca; have HB := n_HB; have HS_a := n_a; clear n_HB n_a; have hca := HS_a.out.cell0))
          go_ret
          exact ⟨rfl, HB.out⟩
        · have c0 : decide (18446744073709551615 - na < wait) = false := decide_eq_false c
          have hd1 : dd = na + wait := by rw [hdk]; unfold tk; rw [if_pos (by omega)]
          have g3 : IntKind.u64.wrap (dd - na) = wait := by rw [hd1, u64w (by have := HW1.out; omega) (by have := HW1.out; omega)]; omega
          have g4 : decide (dd ≤ n2) = decide (wait ≤ more) := by
            have : (dd ≤ n2) = (wait ≤ more) := propext (by rw [hd1, hnk]; unfold tk; split <;> omega)
            simp only [this]
          obtain ⟨q, hq⟩ : ∃ q : Bool, decide (wait ≤ more) = q := ⟨_, rfl⟩
          rw [hq] at g4
          have HQ : (q == q) = true := by cases q <;> rfl
          clear hdk hnk c hd1
          go_wp2_with (first | (go_at_call 16; (with_reducible refine (now_same hca).mono ?_); rintro e w' ⟨rfl, rfl⟩) | (go_at_call 18; (with_reducible refine (dl_same _ _ _).mono ?_); rintro e w' ⟨rfl, rfl⟩) | (go_at_call 17; (with_reducible refine (tick_calls HS_a.out (Below.size HB.out) _).mono ?_); rintro e wt ⟨rfl, hs_, hm_⟩; rw [hn2] at hs_; have n_HB := Aside0.mk (Below.trans HB.out hm_.below); have n_a := Aside0.mk hs_; clear hs_ hm_ HB HS_a hca; have HB := n_HB; have HS_a := n_a; clear n_HB n_a; have hca := HS_a.out.cell0))
          go_ret
          exact ⟨rfl, HB.out⟩
end Go.Proofs.Ytaohgjglfpnlkaa.P
