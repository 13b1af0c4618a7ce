/- SourceTime: the time never goes back; ticks, one behind the other, are one tick of all together, as long as that is a number: for every input. -/
import Derived.Test.YtaohgjglfpnlkaaSrc
namespace Go.Proofs.Ytaohgjglfpnlkaa.P
open Go.RowKit Go.Proofs.YtaohgjglfpnlkaaW.PrintWords Go.Proofs.YtaohgjglfpnlkaaW.PrintLast Go.Proofs.YtaohgjglfpnlkaaW.PrintMore
attribute [local go_sem] max2_int min2_int max_two min_two max_three min_three max_four min_four
set_option linter.unusedVariables false
set_option linter.unusedSimpArgs false
set_option maxHeartbeats 1000000
set_option maxRecDepth 100000

/-- What holds of the time, the sum, and whether it went over. -/
def TimeInv (now sum : Int) (ov : Bool) : Prop := 0 ≤ now ∧ now ≤ 18446744073709551615 ∧ 0 ≤ sum ∧ sum ≤ 18446744073709551615 ∧ (ov = false → now = sum) ∧ (ov = true → now = 18446744073709551615)
set_option maxHeartbeats 8000000 in
theorem time_walk (A0 : Option Addr) (c0 : Nat) (l0 : List Int) (w : World) (hr0 : Kd.C (Kd.int .u64) w A0 l0.length l0) (hc0_ : l0.length ≤ c0) (hm : l0.length ≤ maxLen) (hy : l0.length * 8 ≤ 140737488351232) (hw : ∀ x ∈ l0, (Lit.int .u64 x).wf = true) :
    Calls Try.prog 5 #[.slice A0 l0.length c0] w fun e w' => e = .returned (.bool true) ∧ Below w.heap.size w w' := by
  have HB := Aside0.mk (Below.refl w.heap.size w)
  have HR0 := Aside0.mk hr0
  have HL := Aside0.mk hy
  have HW := Aside0.mk hw
  clear hr0 hy hw hm
  by_cases hbig : 200 < l0.length
  · have b0 : decide ((200 : Int) < (l0.length : Int)) = true := decide_eq_true (by omega)
    go_enter Try.func5, Try.ntmps5
    go_wp2_with (first | (go_at_call 10; (refine (shown_calls _).mono ?_); rintro e w1 ⟨rfl, hb_⟩; have n_HB := Aside0.mk (below_step (by repeat (first | exact HB.out | apply below_alloc | apply pw_below_drewN | apply below_drew1)) hb_); clear hb_ HB; have HB := n_HB; clear n_HB) | (go_at_call 11; (refine (new_calls _).mono ?_); rintro e w2 ⟨ga, rfl, hs_, hb_⟩; have HS_a := Aside0.mk (hs_.lower (Below.size (by repeat (first | exact HB.out | apply below_alloc | apply pw_below_drewN | apply below_drew1)))); have n_HB := Aside0.mk (below_step (by repeat (first | exact HB.out | apply below_alloc | apply pw_below_drewN | apply below_drew1)) hb_); clear hs_ hb_; clear HB; have HB := n_HB; clear n_HB))
    go_ret
    exact ⟨rfl, HB.out⟩
  have b0 : decide ((200 : Int) < (l0.length : Int)) = false := decide_eq_false (by omega)
  clear hbig
  go_enter Try.func5, Try.ntmps5
  go_wp2_with (first | (go_at_call 10; (refine (shown_calls _).mono ?_); rintro e w1 ⟨rfl, hb_⟩; have n_HB := Aside0.mk (below_step (by repeat (first | exact HB.out | apply below_alloc | apply pw_below_drewN | apply below_drew1)) hb_); clear hb_ HB; have HB := n_HB; clear n_HB) | (go_at_call 11; (refine (new_calls _).mono ?_); rintro e w2 ⟨ga, rfl, hs_, hb_⟩; have HS_a := Aside0.mk (hs_.lower (Below.size (by repeat (first | exact HB.out | apply below_alloc | apply pw_below_drewN | apply below_drew1)))); have n_HB := Aside0.mk (below_step (by repeat (first | exact HB.out | apply below_alloc | apply pw_below_drewN | apply below_drew1)) hb_); clear hs_ hb_; clear HB; have HB := n_HB; clear n_HB))
  go_loopg [5, 6, 7] (l0.length + 1) (fun kq v5 v6 v7 w' => ∃ (i : Nat) (x sum : Int) (ov : Bool) (now : Int), v5 = .int .u64 sum ∧ v6 = .bool ov ∧ v7 = .int .i64 x ∧ Aside0 (x = (i : Int)) ∧ Aside0 (kq + i = l0.length + 1 ∧ i ≤ l0.length) ∧ Aside0 (TimeInv now sum ov) ∧ Aside0 (Src .i64 49 3 w' w.heap.size ga (.slice none 0 0) now []) ∧ Aside0 (Below w.heap.size w w'))
  case atStart => exact ⟨0, 0, 0, false, 0, by rfl, by rfl, by rfl, ⟨rfl⟩, ⟨by omega, by omega⟩, ⟨⟨by decide, by decide, by decide, by decide, fun _ => rfl, fun h => (by cases h)⟩⟩, HS_a, HB⟩
  case round =>
    clear HS_a HB
    obtain ⟨i, x, sum, ov, now, rfl, rfl, rfl, HX, HK, HI, HS_a, HB⟩ := hrel
    cases gk with
    | zero => exact absurd HK.out (by omega)
    | succ k1 =>
      by_cases hlt : i < l0.length
      · have d0 : decide (x < (l0.length : Int)) = true := decide_eq_true (by have := HX.out; omega)
        have p1 : ((0 : Int) ≤ x) = True := eq_true (by have := HX.out; omega)
        have q1 : (x < (l0.length : Int)) = True := eq_true (by have := HX.out; omega)
        obtain ⟨ad, e0, hx0⟩ := Kd.at_int HR0.out x (by have := HX.out; omega) (by have := HX.out; omega)
        cases e0
        have hz : (Lit.int .u64 (rd l0 x)).wf = true := HW.out _ (by have h1 : x.toNat < l0.length := (by have := HX.out; omega); unfold rd; rw [List.getD_eq_getElem?_getD, List.getElem?_eq_getElem h1]; exact List.getElem_mem h1)
        generalize rd l0 x = z at hx0 hz
        have HZ := Aside0.mk (wf_u64 hz)
        have HX0 := Aside0.mk hx0
        have hx := (HB.out.cell (World.block_lt_of_cell? w _ hx0)).trans hx0
        have hc0 := HS_a.out.cell0
        obtain ⟨now', hdl⟩ : ∃ t, dl now z = t := ⟨_, rfl⟩
        have htk : now' = tk now z := by rw [← hdl]; exact dl_tk _ _ HI.out.1 HI.out.2.1 HZ.out.1 HZ.out.2
        obtain ⟨sum', hsum⟩ : ∃ t, IntKind.u64.wrap (sum + z) = t := ⟨_, rfl⟩
        have hsw : sum' = (sum + z) % 18446744073709551616 := by rw [← hsum]; exact IntKind.wrap_u64 _
        clear hz hx0
        have g1 : decide (now' < now) = false := decide_eq_false (by have := HI.out.1; have := HI.out.2.1; have := HZ.out.1; rw [htk]; unfold tk; split <;> omega)
        have g4 : (now' != dl now z) = false := by rw [hdl]; simp
        cases ov
        · by_cases hov : sum + z ≤ 18446744073709551615
          · have g2 : decide (sum' < sum) = false := decide_eq_false (by have := HI.out.2.2.1; have := HZ.out.1; rw [hsw]; omega)
            have g3 : (now' == sum') = true := by rw [beq_iff_eq, htk, hsw, HI.out.2.2.2.2.1 rfl]; have := HI.out.2.2.1; have := HZ.out.1; unfold tk; rw [if_pos hov]; omega
            have g3' : (now' != sum') = false := by simp [bne, g3]
            have HI' : Aside0 (TimeInv now' sum' false) := ⟨by have h1 := HI.out.1; have h2 := HZ.out.1; have h3 := beq_iff_eq.1 g3; have h4 := HI.out.2.2.1; rw [hsw] at h3 ⊢; exact ⟨by omega, by omega, by omega, by omega, fun _ => h3, fun h => (by cases h)⟩⟩
            clear g3 htk hsw hov
            go_wp2_with (first | (go_at_call 16; (refine (now_same hc0).mono ?_); rintro e w' ⟨rfl, rfl⟩) | (go_at_call 17; (refine (tick_calls HS_a.out (Below.size HB.out) _).mono ?_); rintro e wt ⟨rfl, hs_, hm_⟩; rw [hdl] at hs_; have n_HB := Aside0.mk (Below.trans HB.out hm_.below); have n_a := Aside0.mk hs_; clear hs_ hm_ HB HS_a hc0 hx; have HB := n_HB; have HS_a := n_a; clear n_HB n_a; have hc0 := HS_a.out.cell0; have hx := (HB.out.cell (World.block_lt_of_cell? w _ HX0.out)).trans HX0.out))
            go_quiet (first | ((go_at_call 16); refine Calls.mono (now_same (now := now') (by exact hc0)) ?_; rintro e w' ⟨rfl, rfl⟩; exact ⟨rfl, _, rfl⟩) | ((go_at_call 18); refine Calls.mono (dl_same _ _ _) ?_; rintro e w' ⟨rfl, rfl⟩; exact ⟨rfl, _, rfl⟩))
            go_wp2
            go_roundg k1
            case measure => have := HK.out; omega
            case rel => exact ⟨i + 1, wrap64 (x + 1), _, _, now', by first | rfl | (simp; done) | (simp [*]; done), by first | rfl | (simp; done) | (simp [*]; done), by first | rfl | (simp; done) | (simp [*]; done), ⟨by have := HX.out; have := HL.out; unfold wrap64; omega⟩, ⟨by have := HK.out; omega⟩, HI', ⟨by first | exact HS_a.out | exact HS_a.out.below (by repeat (first | exact Below.refl _ _ | apply below_alloc | apply pw_below_drewN | apply below_drew1))⟩, ⟨(by repeat (first | exact HB.out | apply below_alloc | apply pw_below_drewN | apply below_drew1))⟩⟩
          · have g2 : decide (sum' < sum) = true := decide_eq_true (by have := HI.out.2.2.1; have := HI.out.2.2.2.1; have := HZ.out.2; rw [hsw]; omega)
            have g3 : (now' == 18446744073709551615) = true := by rw [beq_iff_eq, htk, HI.out.2.2.2.2.1 rfl]; unfold tk; rw [if_neg hov]
            have g3' : (now' != 18446744073709551615) = false := by simp [bne, g3]
            have HI' : Aside0 (TimeInv now' sum' true) := ⟨by have h3 := beq_iff_eq.1 g3; rw [hsw]; exact ⟨by omega, by omega, by omega, by omega, fun h => (by cases h), fun _ => h3⟩⟩
            clear g3 htk hsw hov
            go_wp2_with (first | (go_at_call 16; (refine (now_same hc0).mono ?_); rintro e w' ⟨rfl, rfl⟩) | (go_at_call 17; (refine (tick_calls HS_a.out (Below.size HB.out) _).mono ?_); rintro e wt ⟨rfl, hs_, hm_⟩; rw [hdl] at hs_; have n_HB := Aside0.mk (Below.trans HB.out hm_.below); have n_a := Aside0.mk hs_; clear hs_ hm_ HB HS_a hc0 hx; have HB := n_HB; have HS_a := n_a; clear n_HB n_a; have hc0 := HS_a.out.cell0; have hx := (HB.out.cell (World.block_lt_of_cell? w _ HX0.out)).trans HX0.out))
            go_quiet (first | ((go_at_call 16); refine Calls.mono (now_same (now := now') (by exact hc0)) ?_; rintro e w' ⟨rfl, rfl⟩; exact ⟨rfl, _, rfl⟩) | ((go_at_call 18); refine Calls.mono (dl_same _ _ _) ?_; rintro e w' ⟨rfl, rfl⟩; exact ⟨rfl, _, rfl⟩))
            go_wp2
            go_roundg k1
            case measure => have := HK.out; omega
            case rel => exact ⟨i + 1, wrap64 (x + 1), _, _, now', by first | rfl | (simp; done) | (simp [*]; done), by first | rfl | (simp; done) | (simp [*]; done), by first | rfl | (simp; done) | (simp [*]; done), ⟨by have := HX.out; have := HL.out; unfold wrap64; omega⟩, ⟨by have := HK.out; omega⟩, HI', ⟨by first | exact HS_a.out | exact HS_a.out.below (by repeat (first | exact Below.refl _ _ | apply below_alloc | apply pw_below_drewN | apply below_drew1))⟩, ⟨(by repeat (first | exact HB.out | apply below_alloc | apply pw_below_drewN | apply below_drew1))⟩⟩
        · have g3 : (now' == 18446744073709551615) = true := by rw [beq_iff_eq, htk, HI.out.2.2.2.2.2 rfl]; have := HZ.out.1; unfold tk; split <;> omega
          have g3' : (now' != 18446744073709551615) = false := by simp [bne, g3]
          have HI' : Aside0 (TimeInv now' sum' true) := ⟨by have h3 := beq_iff_eq.1 g3; rw [hsw]; exact ⟨by omega, by omega, by omega, by omega, fun h => (by cases h), fun _ => h3⟩⟩
          clear g3 htk hsw
          go_wp2_with (first | (go_at_call 16; (refine (now_same hc0).mono ?_); rintro e w' ⟨rfl, rfl⟩) | (go_at_call 17; (refine (tick_calls HS_a.out (Below.size HB.out) _).mono ?_); rintro e wt ⟨rfl, hs_, hm_⟩; rw [hdl] at hs_; have n_HB := Aside0.mk (Below.trans HB.out hm_.below); have n_a := Aside0.mk hs_; clear hs_ hm_ HB HS_a hc0 hx; have HB := n_HB; have HS_a := n_a; clear n_HB n_a; have hc0 := HS_a.out.cell0; have hx := (HB.out.cell (World.block_lt_of_cell? w _ HX0.out)).trans HX0.out))
          go_quiet (first | ((go_at_call 16); refine Calls.mono (now_same (now := now') (by exact hc0)) ?_; rintro e w' ⟨rfl, rfl⟩; exact ⟨rfl, _, rfl⟩) | ((go_at_call 18); refine Calls.mono (dl_same _ _ _) ?_; rintro e w' ⟨rfl, rfl⟩; exact ⟨rfl, _, rfl⟩))
          go_wp2
          go_roundg k1
          case measure => have := HK.out; omega
          case rel => exact ⟨i + 1, wrap64 (x + 1), _, _, now', by first | rfl | (simp; done) | (simp [*]; done), by first | rfl | (simp; done) | (simp [*]; done), by first | rfl | (simp; done) | (simp [*]; done), ⟨by have := HX.out; have := HL.out; unfold wrap64; omega⟩, ⟨by have := HK.out; omega⟩, HI', ⟨by first | exact HS_a.out | exact HS_a.out.below (by repeat (first | exact Below.refl _ _ | apply below_alloc | apply pw_below_drewN | apply below_drew1))⟩, ⟨(by repeat (first | exact HB.out | apply below_alloc | apply pw_below_drewN | apply below_drew1))⟩⟩
      · have d0 : decide (x < (l0.length : Int)) = false := decide_eq_false (by have := HX.out; have := HK.out; omega)
        go_wp2
        go_ret
        exact ⟨rfl, HB.out⟩
end Go.Proofs.Ytaohgjglfpnlkaa.P
