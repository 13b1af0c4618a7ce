/- SourceRanges: a draw is below what it is divided by, and not below 0; by 1 it is 0; one that is less than that is told as it is: for every input. -/
import Derived.Test.YtaohgjglfpnlkaaSrc
namespace Go.Proofs.Ytaohgjglfpnlkaa.P
open Go.RowKit Go.Proofs.YtaohgjglfpnlkaaW.PrintWords Go.Proofs.YtaohgjglfpnlkaaW.PrintLast Go.Proofs.YtaohgjglfpnlkaaW.PrintMore
attribute [local go_sem] max2_int min2_int max_two min_two max_three min_three max_four min_four
set_option linter.unusedVariables false
set_option linter.unusedSimpArgs false
set_option maxHeartbeats 1000000
set_option maxRecDepth 100000

set_option maxHeartbeats 8000000 in
theorem ranges_walk (d by_ : Int) (w : World) (hd : (Lit.int .u64 d).wf = true) (hby : (Lit.int .i64 by_).wf = true) : Calls Try.prog 4 #[.int .u64 d, .int .i64 by_] w fun e w' => e = .returned (.bool true) ∧ Below w.heap.size w w' := by
  have HB := Aside0.mk (Below.refl w.heap.size w)
  obtain ⟨p, hp⟩ : ∃ p, pk by_ 200 = p := ⟨_, rfl⟩
  have hpr := pk_range by_ 200 (by decide)
  rw [hp] at hpr
  have hdr := wf_u64 hd
  obtain ⟨x, hx⟩ : ∃ x, Int.tmod d 64 = x := ⟨_, rfl⟩
  have hx0 : 0 ≤ x ∧ x < 64 := by rw [← hx]; exact ⟨Int.tmod_nonneg _ hdr.1, Int.tmod_lt_of_pos _ (by decide)⟩
  have W0 := Aside0.mk hx0.1
  have e1 : wrap64 (1 + p) = 1 + p := by unfold wrap64; omega
  have e2 : IntKind.i64.wrap (1 + p) = 1 + p := (i64_w _).trans e1
  have f1 : addR x = 0 := if_neg (by omega)
  have f2 : addL (addL [] x) x = [x, x] := by unfold addL; rw [if_neg (by omega), if_neg (by omega)]; rfl
  obtain ⟨y, hy⟩ : ∃ y, drawR (1 + p) (addL (addL [] x) x) = y := ⟨_, rfl⟩
  have hyx : y = Int.tmod x (1 + p) := by rw [← hy, f2]; exact drawR_cons (by omega)
  have hy0 : 0 ≤ y ∧ y < 1 + p := by rw [hyx]; exact ⟨Int.tmod_nonneg _ hx0.1, Int.tmod_lt_of_pos _ (by omega)⟩
  have hyc : (y = x) = (x < 1 + p) := propext ⟨fun h => by omega, fun h => by rw [hyx]; exact Int.tmod_eq_of_lt hx0.1 h⟩
  have f3 : drawL (1 + p) (addL (addL [] x) x) = [x] := by rw [f2]; exact if_neg (by omega)
  have f4 : drawR 1 (drawL (1 + p) (addL (addL [] x) x)) = 0 := by rw [f3, drawR_cons (by omega)]; simp
  have f5 : (drawL 1 (drawL (1 + p) (addL (addL [] x) x))).length = 0 := by rw [f3]; rfl
  have g1 : decide (0 ≤ y) = true := decide_eq_true hy0.1
  have g2 : decide (y < 1 + p) = true := decide_eq_true hy0.2
  have g3 : IntKind.u64.wrap y = y := u64w hy0.1 (by omega)
  have g4 : IntKind.u64.wrap (1 + p) = 1 + p := u64w (by omega) (by omega)
  have A1 := Aside0.mk hpr
  have A2 := Aside0.mk hdr
  have A3 := Aside0.mk hx0
  have A4 := Aside0.mk hy0
  have A5 := Aside0.mk hyx
  clear hpr hdr hx0 hy0 hyx f2 f3 hd
  obtain ⟨q, hq⟩ : ∃ q : Bool, decide (x < 1 + p) = q := ⟨_, rfl⟩
  have hq2 : (y == x) = q := by rw [← hq]; by_cases h : x < 1 + p <;> simp [h, hyc]
  have hq3 : decide (y = x) = q := by rw [← hq2]; rfl
  clear hyc
  have HQ : (q == q) = true := by cases q <;> rfl
  go_enter Try.func4, Try.ntmps4
  go_wp2_with (first | (go_at_call 10; (refine (shown_calls _).mono ?_); rintro e w1 ⟨rfl, hb_⟩; have n_HB := Aside0.mk (below_step (by repeat (first | exact HB.out | apply below_alloc | apply pw_below_drewN | apply below_drew1)) hb_); clear hb_ HB; have HB := n_HB; clear n_HB) | (go_at_call 11; (refine (new_calls _).mono ?_); rintro e w2 ⟨ga, rfl, hs_, hb_⟩; have HS_a := Aside0.mk (hs_.lower (Below.size (by repeat (first | exact HB.out | apply below_alloc | apply pw_below_drewN | apply below_drew1)))); have n_HB := Aside0.mk (below_step (by repeat (first | exact HB.out | apply below_alloc | apply pw_below_drewN | apply below_drew1)) hb_); clear hs_ hb_; clear HB; have HB := n_HB; clear n_HB) | (go_at_call 13; (refine (pick_calls by_ 200 _ hby (by decide)).mono ?_); rintro e w3 ⟨rfl, hb_⟩; rw [hp]; have n_HB := Aside0.mk (below_step (by repeat (first | exact HB.out | apply below_alloc | apply pw_below_drewN | apply below_drew1)) hb_); have n_a := Aside0.mk (Src.below HS_a.out hb_); clear hb_ HB HS_a; have HB := n_HB; have HS_a := n_a; clear n_HB n_a) | (go_at_call 12; (first | (refine (add_calls HS_a.out ?s2 ?s3 _ ?s4).mono ?_) | (refine (add_calls (Src.below HS_a.out (by repeat (first | exact Below.refl _ _ | apply below_alloc | apply pw_below_drewN | apply below_drew1))) ?s2 ?s3 _ ?s4).mono ?_)); (case s2 => exact Below.size (by repeat (first | exact HB.out | apply below_alloc | apply pw_below_drewN | apply below_drew1))); (case s3 => first | decide | (have q1 := addL_len [] x; have q2 := addL_len (addL [] x) x; have q3 := drawL_len (1 + p) (addL (addL [] x) x); simp only [List.length_nil] at q1; omega)); (case s4 => exact W0.out); rintro e w4 ⟨rfl, va4, hs_, hm_⟩; have n_HB := Aside0.mk (Below.trans (by repeat (first | exact HB.out | apply below_alloc | apply pw_below_drewN | apply below_drew1)) hm_.below); have n_a := Aside0.mk hs_; clear hs_ hm_; clear HB HS_a; have HB := n_HB; have HS_a := n_a; clear n_HB n_a) | (go_at_call 15; (first | (refine (draw_calls HS_a.out ?s2 ?s3 _).mono ?_) | (refine (draw_calls (Src.below HS_a.out (by repeat (first | exact Below.refl _ _ | apply below_alloc | apply pw_below_drewN | apply below_drew1))) ?s2 ?s3 _).mono ?_)); (case s2 => exact Below.size (by repeat (first | exact HB.out | apply below_alloc | apply pw_below_drewN | apply below_drew1))); (case s3 => first | decide | (have q1 := addL_len [] x; have q2 := addL_len (addL [] x) x; have q3 := drawL_len (1 + p) (addL (addL [] x) x); simp only [List.length_nil] at q1; omega)); rintro e w5 ⟨rfl, va5, hs_, hm_⟩; have n_HB := Aside0.mk (Below.trans (by repeat (first | exact HB.out | apply below_alloc | apply pw_below_drewN | apply below_drew1)) hm_.below); have n_a := Aside0.mk hs_; clear hs_ hm_; clear HB HS_a; have HB := n_HB; have HS_a := n_a; clear n_HB n_a) | (go_at_call 14; (first | (refine (left_calls HS_a.out).mono ?_) | (refine (left_calls (Src.below HS_a.out (by repeat (first | exact Below.refl _ _ | apply below_alloc | apply pw_below_drewN | apply below_drew1)))).mono ?_)); rintro e w6 ⟨rfl, hb_⟩; have n_HB := Aside0.mk (below_step (by repeat (first | exact HB.out | apply below_alloc | apply pw_below_drewN | apply below_drew1)) hb_); have n_a := Aside0.mk ((Src.below HS_a.out (by repeat (first | exact Below.refl _ _ | apply below_alloc | apply pw_below_drewN | apply below_drew1))).below hb_); clear hb_; clear HB HS_a; have HB := n_HB; have HS_a := n_a; clear n_HB n_a))
  go_ret
  exact ⟨rfl, HB.out⟩
end Go.Proofs.Ytaohgjglfpnlkaa.P
