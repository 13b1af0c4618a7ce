-- PRINTED BY print.sh 35421559b90ae4d0a3588c463048766b98c2df88dd9212a6774a882060cdf62d: not written by this session
import Derived.Test.YtijkmjhfhnhjeaaPSlotOncex0
import Derived.Test.YtijkmjhfhnhjeaaPSlotOncex1
namespace Go.Proofs.Ytijkmjhfhnhjeaa.PSlotOnce
open Go.RowKit Go.Proofs.YtijkmjhfhnhjeaaW.PrintWords Go.Proofs.YtijkmjhfhnhjeaaW.PrintLast Go.Proofs.YtijkmjhfhnhjeaaW.PrintMore
attribute [local go_sem] max2_int min2_int max_two min_two max_three min_three max_four min_four   -- for this text's walks alone
set_option linter.unusedVariables false
set_option linter.unusedSimpArgs false

/-! ### hatstandlaw9_SlotOnce: function 4 -/
mutual
def hatstandlaw9_SlotOnce.l0 : Nat → Int → Int → Bool → Int → Bool → Int → Bool → Int → Bool → Int → Int → Option (Bool)
  | 0, _, _, _, _, _, _, _, _, _, _, _ => none
  | k + 1, x0, x8, x9, x10, x11, x12, x13, x14, x15, x16, x17 => if x17 < 3 then ((some (([x9, x13, x15] : List Bool) : List Bool)).bind fun y130 => (if 0 ≤ x17 then (if x17 < (y130.length : Int) then (if rdOf false y130 x17 = true then (hatstandlaw9_SlotOnce.l0 k x0 x8 x9 x10 x11 x12 x13 x14 x15 (wrap64 (x16 + 1)) (wrap64 (x17 + 1))) else (hatstandlaw9_SlotOnce.l0 k x0 x8 x9 x10 x11 x12 x13 x14 x15 x16 (wrap64 (x17 + 1)))) else (none)) else (none))) else (if (x9 != x11) = true then (hatstandlaw9_SlotOnce.j1 k x8 x9 x10 x12 x13 x14 x15 true) else (if x16 > 1 then (hatstandlaw9_SlotOnce.j1 k x8 x9 x10 x12 x13 x14 x15 true) else ((slot_State.f x0).bind fun t134 => (if ((x16 == 0) != (t134 == 3)) = true then (hatstandlaw9_SlotOnce.j1 k x8 x9 x10 x12 x13 x14 x15 true) else ((slot_Meets.f x0 true).bind fun t135 => (if (x13 != t135) = true then (hatstandlaw9_SlotOnce.j1 k x8 x9 x10 x12 x13 x14 x15 true) else ((slot_Meets.f x0 false).bind fun t136 => (hatstandlaw9_SlotOnce.j1 k x8 x9 x10 x12 x13 x14 x15 (x15 != t136)))))))))
def hatstandlaw9_SlotOnce.j1 : Nat → Int → Bool → Int → Int → Bool → Int → Bool → Bool → Option (Bool)
  | 0, _, _, _, _, _, _, _, _ => none
  | k + 1, x8, x9, x10, x12, x13, x14, x15, x84 => if x84 = true then (some false) else (if x9 = true then (if x13 = true then (if x15 = true then (hatstandlaw9_SlotOnce.j2 k x8 x9 x10 false) else (hatstandlaw9_SlotOnce.j2 k x8 x9 x10 (x14 != 0))) else (if x12 = 0 then (if x15 = true then (hatstandlaw9_SlotOnce.j2 k x8 x9 x10 false) else (hatstandlaw9_SlotOnce.j2 k x8 x9 x10 (x14 != 0))) else (hatstandlaw9_SlotOnce.j2 k x8 x9 x10 true))) else (if x8 = 0 then (if x10 = 0 then (if x13 = true then (if x15 = true then (hatstandlaw9_SlotOnce.j2 k x8 x9 x10 false) else (hatstandlaw9_SlotOnce.j2 k x8 x9 x10 (x14 != 0))) else (if x12 = 0 then (if x15 = true then (hatstandlaw9_SlotOnce.j2 k x8 x9 x10 false) else (hatstandlaw9_SlotOnce.j2 k x8 x9 x10 (x14 != 0))) else (hatstandlaw9_SlotOnce.j2 k x8 x9 x10 true))) else (hatstandlaw9_SlotOnce.j2 k x8 x9 x10 true)) else (hatstandlaw9_SlotOnce.j2 k x8 x9 x10 true)))
def hatstandlaw9_SlotOnce.j2 : Nat → Int → Bool → Int → Bool → Option (Bool)
  | 0, _, _, _, _ => none
  | k + 1, x8, x9, x10, x110 => if x110 = true then (some false) else (if x9 = true then ((slot_State.f x8).bind fun t137 => (if t137 = 1 then ((slot_State.f x10).bind fun t138 => (if t138 = 2 then ((slot_Index.f x10).bind fun t139 => (some (t139 == 0))) else (some false))) else (some false))) else (some true))
end
def hatstandlaw9_SlotOnce.f (k : Nat) (a0 : Int) (a1 : Int) (a2 : Int) : Option (Bool) := (hatstandlaw9_shown.f).bind fun t121 => (if t121 = true then ((slot_Offer.f a0 true a1).bind fun bt122 => ((slot_Offer.f a0 false a2).bind fun bt124 => ((slot_Claim.f a0 true a1).bind fun bt126 => ((slot_Claim.f a0 false a2).bind fun bt128 => (hatstandlaw9_SlotOnce.l0 k a0 bt122.1 bt122.2 bt124.1 bt124.2 bt126.1 bt126.2 bt128.1 bt128.2 0 0))))) else (some false))
theorem hatstandlaw9_SlotOnce.mono_l : ∀ k, (∀ y0 y1 y2 y3 y4 y5 y6 y7 y8 y9 y10, LeO (hatstandlaw9_SlotOnce.l0 k y0 y1 y2 y3 y4 y5 y6 y7 y8 y9 y10) (hatstandlaw9_SlotOnce.l0 (k + 1) y0 y1 y2 y3 y4 y5 y6 y7 y8 y9 y10)) ∧ (∀ y0 y1 y2 y3 y4 y5 y6 y7, LeO (hatstandlaw9_SlotOnce.j1 k y0 y1 y2 y3 y4 y5 y6 y7) (hatstandlaw9_SlotOnce.j1 (k + 1) y0 y1 y2 y3 y4 y5 y6 y7)) ∧ (∀ y0 y1 y2 y3, LeO (hatstandlaw9_SlotOnce.j2 k y0 y1 y2 y3) (hatstandlaw9_SlotOnce.j2 (k + 1) y0 y1 y2 y3))
  | 0 => ⟨fun _ _ _ _ _ _ _ _ _ _ _ r h => by simp [hatstandlaw9_SlotOnce.l0] at h, fun _ _ _ _ _ _ _ _ r h => by simp [hatstandlaw9_SlotOnce.j1] at h, fun _ _ _ _ r h => by simp [hatstandlaw9_SlotOnce.j2] at h⟩
  | k + 1 => by
    obtain ⟨ih0, ih1, ih2⟩ := hatstandlaw9_SlotOnce.mono_l k
    refine ⟨?_, ?_, ?_⟩
    · intro y0 y1 y2 y3 y4 y5 y6 y7 y8 y9 y10
      unfold hatstandlaw9_SlotOnce.l0
      repeat' first
      | (with_reducible exact ih0 _ _ _ _ _ _ _ _ _ _ _)
      | (with_reducible exact ih1 _ _ _ _ _ _ _ _)
      | (with_reducible exact ih2 _ _ _ _)
      | (with_reducible exact LeO.refl _)
      | (with_reducible exact LeO.none _)
      | (with_reducible refine LeO.ite ?_ ?_)
      | (with_reducible refine LeO.bind ?_ (fun _ => ?_))
      | exact ih0 _ _ _ _ _ _ _ _ _ _ _
      | exact ih1 _ _ _ _ _ _ _ _
      | exact ih2 _ _ _ _
      | exact LeO.none _
      | refine LeO.ite ?_ ?_
      | refine LeO.bind ?_ (fun _ => ?_)
    · intro y0 y1 y2 y3 y4 y5 y6 y7
      unfold hatstandlaw9_SlotOnce.j1
      repeat' first
      | (with_reducible exact ih0 _ _ _ _ _ _ _ _ _ _ _)
      | (with_reducible exact ih1 _ _ _ _ _ _ _ _)
      | (with_reducible exact ih2 _ _ _ _)
      | (with_reducible exact LeO.refl _)
      | (with_reducible exact LeO.none _)
      | (with_reducible refine LeO.ite ?_ ?_)
      | (with_reducible refine LeO.bind ?_ (fun _ => ?_))
      | exact ih0 _ _ _ _ _ _ _ _ _ _ _
      | exact ih1 _ _ _ _ _ _ _ _
      | exact ih2 _ _ _ _
      | exact LeO.none _
      | refine LeO.ite ?_ ?_
      | refine LeO.bind ?_ (fun _ => ?_)
    · intro y0 y1 y2 y3
      unfold hatstandlaw9_SlotOnce.j2
      repeat' first
      | (with_reducible exact ih0 _ _ _ _ _ _ _ _ _ _ _)
      | (with_reducible exact ih1 _ _ _ _ _ _ _ _)
      | (with_reducible exact ih2 _ _ _ _)
      | (with_reducible exact LeO.refl _)
      | (with_reducible exact LeO.none _)
      | (with_reducible refine LeO.ite ?_ ?_)
      | (with_reducible refine LeO.bind ?_ (fun _ => ?_))
      | exact ih0 _ _ _ _ _ _ _ _ _ _ _
      | exact ih1 _ _ _ _ _ _ _ _
      | exact ih2 _ _ _ _
      | exact LeO.none _
      | refine LeO.ite ?_ ?_
      | refine LeO.bind ?_ (fun _ => ?_)
theorem hatstandlaw9_SlotOnce.mono : ∀ a0 a1 a2 k, LeO (hatstandlaw9_SlotOnce.f k a0 a1 a2) (hatstandlaw9_SlotOnce.f (k + 1) a0 a1 a2) := by
  intro a0 a1 a2 k
  obtain ⟨ih0, ih1, ih2⟩ := hatstandlaw9_SlotOnce.mono_l k
  unfold hatstandlaw9_SlotOnce.f
  repeat' first
      | (with_reducible exact ih0 _ _ _ _ _ _ _ _ _ _ _)
      | (with_reducible exact ih1 _ _ _ _ _ _ _ _)
      | (with_reducible exact ih2 _ _ _ _)
      | (with_reducible exact LeO.refl _)
      | (with_reducible exact LeO.none _)
      | (with_reducible refine LeO.ite ?_ ?_)
      | (with_reducible refine LeO.bind ?_ (fun _ => ?_))
      | exact ih0 _ _ _ _ _ _ _ _ _ _ _
      | exact ih1 _ _ _ _ _ _ _ _
      | exact ih2 _ _ _ _
      | exact LeO.none _
      | refine LeO.ite ?_ ?_
      | refine LeO.bind ?_ (fun _ => ?_)
set_option maxHeartbeats 8000000 in
set_option maxRecDepth 100000 in
theorem hatstandlaw9_SlotOnce.calls (k : Nat) (a0 : Int) (a1 : Int) (a2 : Int) (r : Bool) (w : World) (h : hatstandlaw9_SlotOnce.f k a0 a1 a2 = some r) :
    Calls Try.prog 4 #[.int .u64 a0, .int .u32 a1, .int .u32 a2] w fun e w' => e = .returned (.bool r) ∧ Below w.heap.size w w' := by
  have HB := Aside0.mk (Below.refl w.heap.size w)
  have H : ((hatstandlaw9_shown.f).bind fun t121 => (if t121 = true then ((slot_Offer.f a0 true a1).bind fun bt122 => ((slot_Offer.f a0 false a2).bind fun bt124 => ((slot_Claim.f a0 true a1).bind fun bt126 => ((slot_Claim.f a0 false a2).bind fun bt128 => (hatstandlaw9_SlotOnce.l0 k a0 bt122.1 bt122.2 bt124.1 bt124.2 bt126.1 bt126.2 bt128.1 bt128.2 0 0))))) else (some false))) = some r := h
  clear h
  replace H := Option.bind_eq_some_iff.mp H
  obtain ⟨t121, A40, H⟩ := H
  replace H : (if t121 = true then ((slot_Offer.f a0 true a1).bind fun bt122 => ((slot_Offer.f a0 false a2).bind fun bt124 => ((slot_Claim.f a0 true a1).bind fun bt126 => ((slot_Claim.f a0 false a2).bind fun bt128 => (hatstandlaw9_SlotOnce.l0 k a0 bt122.1 bt122.2 bt124.1 bt124.2 bt126.1 bt126.2 bt128.1 bt128.2 0 0))))) else (some false)) = some r := H
  have A4 := Aside0.mk A40
  clear A40
  by_cases c5 : t121 = true
  · subst c5
    have H1 : ((slot_Offer.f a0 true a1).bind fun bt122 => ((slot_Offer.f a0 false a2).bind fun bt124 => ((slot_Claim.f a0 true a1).bind fun bt126 => ((slot_Claim.f a0 false a2).bind fun bt128 => (hatstandlaw9_SlotOnce.l0 k a0 bt122.1 bt122.2 bt124.1 bt124.2 bt126.1 bt126.2 bt128.1 bt128.2 0 0))))) = some r := by rw [if_pos rfl] at H; exact H
    clear H
    have H := H1
    clear H1
    replace H := Option.bind_eq_some_iff.mp H
    obtain ⟨⟨t122, t123⟩, A60, H⟩ := H
    replace H : ((slot_Offer.f a0 false a2).bind fun bt124 => ((slot_Claim.f a0 true a1).bind fun bt126 => ((slot_Claim.f a0 false a2).bind fun bt128 => (hatstandlaw9_SlotOnce.l0 k a0 t122 t123 bt124.1 bt124.2 bt126.1 bt126.2 bt128.1 bt128.2 0 0)))) = some r := H
    have A6 := Aside0.mk A60
    clear A60
    replace H := Option.bind_eq_some_iff.mp H
    obtain ⟨⟨t124, t125⟩, A70, H⟩ := H
    replace H : ((slot_Claim.f a0 true a1).bind fun bt126 => ((slot_Claim.f a0 false a2).bind fun bt128 => (hatstandlaw9_SlotOnce.l0 k a0 t122 t123 t124 t125 bt126.1 bt126.2 bt128.1 bt128.2 0 0))) = some r := H
    have A7 := Aside0.mk A70
    clear A70
    replace H := Option.bind_eq_some_iff.mp H
    obtain ⟨⟨t126, t127⟩, A80, H⟩ := H
    replace H : ((slot_Claim.f a0 false a2).bind fun bt128 => (hatstandlaw9_SlotOnce.l0 k a0 t122 t123 t124 t125 t126 t127 bt128.1 bt128.2 0 0)) = some r := H
    have A8 := Aside0.mk A80
    clear A80
    replace H := Option.bind_eq_some_iff.mp H
    obtain ⟨⟨t128, t129⟩, A90, H⟩ := H
    replace H : (hatstandlaw9_SlotOnce.l0 k a0 t122 t123 t124 t125 t126 t127 t128 t129 0 0) = some r := H
    have A9 := Aside0.mk A90
    clear A90
    have H' := Aside0.mk H
    clear H
    go_enter Try.func4, Try.ntmps4
    go_wp2_with (first | ((with_reducible refine gate_callee (f := 9) rfl ?_); refine goesL_ (some 18) rfl rfl Try.func9 (by kernel_rfl) rfl #[] rfl (by (try simp only [List.map_toArray, List.map_cons, List.map_nil]); first | done | rfl | (simp only [List.length_drop, List.length_take]; rfl)) ?_; (with_reducible refine (hatstandlaw9_shown.calls  true _ A4.out).mono ?_); rintro e w' ⟨rfl, ⟨nd, rfl⟩⟩; refine ⟨_, rfl, ?_⟩) | ((with_reducible refine gate_callee (f := 15) rfl ?_); refine goesL_ (some 24) rfl rfl Try.func15 (by kernel_rfl) rfl #[.int .u64 a0, .bool true, .int .u32 a1] rfl (by (try simp only [List.map_toArray, List.map_cons, List.map_nil]); first | done | rfl | (simp only [List.length_drop, List.length_take]; rfl)) ?_; (with_reducible refine (slot_Offer.calls a0 true a1 t122 t123 _ A6.out).mono ?_); rintro e w' ⟨rfl, ⟨nd, rfl⟩⟩; refine ⟨_, rfl, ?_⟩) | ((with_reducible refine gate_callee (f := 15) rfl ?_); refine goesL_ (some 30) rfl rfl Try.func15 (by kernel_rfl) rfl #[.int .u64 a0, .bool false, .int .u32 a2] rfl (by (try simp only [List.map_toArray, List.map_cons, List.map_nil]); first | done | rfl | (simp only [List.length_drop, List.length_take]; rfl)) ?_; (with_reducible refine (slot_Offer.calls a0 false a2 t124 t125 _ A7.out).mono ?_); rintro e w' ⟨rfl, ⟨nd, rfl⟩⟩; refine ⟨_, rfl, ?_⟩) | ((with_reducible refine gate_callee (f := 16) rfl ?_); refine goesL_ (some 36) rfl rfl Try.func16 (by kernel_rfl) rfl #[.int .u64 a0, .bool true, .int .u32 a1] rfl (by (try simp only [List.map_toArray, List.map_cons, List.map_nil]); first | done | rfl | (simp only [List.length_drop, List.length_take]; rfl)) ?_; (with_reducible refine (slot_Claim.calls a0 true a1 t126 t127 _ A8.out).mono ?_); rintro e w' ⟨rfl, ⟨nd, rfl⟩⟩; refine ⟨_, rfl, ?_⟩) | ((with_reducible refine gate_callee (f := 16) rfl ?_); refine goesL_ (some 42) rfl rfl Try.func16 (by kernel_rfl) rfl #[.int .u64 a0, .bool false, .int .u32 a2] rfl (by (try simp only [List.map_toArray, List.map_cons, List.map_nil]); first | done | rfl | (simp only [List.length_drop, List.length_take]; rfl)) ?_; (with_reducible refine (slot_Claim.calls a0 false a2 t128 t129 _ A9.out).mono ?_); rintro e w' ⟨rfl, ⟨nd, rfl⟩⟩; refine ⟨_, rfl, ?_⟩))
    go_loopg [16, 17] k (fun kq v16 v17 w' => ∃ (x16_1 : Int) (x17_1 : Int), v16 = .int .i64 x16_1 ∧ v17 = .int .i64 x17_1 ∧ Aside0 (hatstandlaw9_SlotOnce.l0 kq a0 t122 t123 t124 t125 t126 t127 t128 t129 x16_1 x17_1 = some r) ∧ Aside0 (kq ≤ k) ∧ Aside0 (Below w.heap.size w w'))
    case atStart => exact ⟨(0), (0), (by first | rfl | (simp; done) | (simp [*]; done)), (by first | rfl | (simp; done) | (simp [*]; done)), H', ⟨Nat.le_refl _⟩, ⟨by repeat (first | (with_reducible first | exact HB.out | apply below_alloc | apply pw_below_drewN | apply below_drew1) | exact HB.out)⟩⟩
    case round =>
      clear H'
      try clear c1
      try clear p2
      try clear c4
      try clear c5
      try clear c9
      obtain ⟨x16_1, x17_1, rfl, rfl, HA, HK1, HB⟩ := hrel
      cases gk with
      | zero => exact absurd HA.out (by simp [hatstandlaw9_SlotOnce.l0])
      | succ k1 =>
        have H := HA.out
        clear HA
        simp only [hatstandlaw9_SlotOnce.l0] at H
        by_cases c10 : x17_1 < 3
        · rw [if_pos c10] at H
          have c10b0 : decide (x17_1 < 3) = true := decide_eq_true c10
          clear c10
          obtain ⟨y130, hy130⟩ : ∃ y_ : List Bool, y_ = (([t123, t127, t129] : List Bool)) := ⟨_, rfl⟩
          replace H : (if 0 ≤ x17_1 then (if x17_1 < (y130.length : Int) then (if rdOf false y130 x17_1 = true then (hatstandlaw9_SlotOnce.l0 k1 a0 t122 t123 t124 t125 t126 t127 t128 t129 (wrap64 (x16_1 + 1)) (wrap64 (x17_1 + 1))) else (hatstandlaw9_SlotOnce.l0 k1 a0 t122 t123 t124 t125 t126 t127 t128 t129 x16_1 (wrap64 (x17_1 + 1)))) else (none)) else (none)) = some r := by first | (rw [hy130]; with_reducible exact H) | (have H2_ := (Option.bind_some _ _).symm.trans H; rw [hy130]; with_reducible exact H2_) | (have H2_ := (Option.bind_some _ _).symm.trans H; with_reducible exact H2_) | with_reducible exact H | (rw [hy130]; exact H) | exact H
          have Ny130 := Aside0.mk hy130
          clear hy130
          by_cases c11 : 0 ≤ x17_1
          · rw [if_pos c11] at H
            have c11b0 : decide (0 ≤ x17_1) = true := decide_eq_true c11
            clear c11
            by_cases c12 : x17_1 < (y130.length : Int)
            · rw [if_pos c12] at H
              have c12b0 : decide (x17_1 < (y130.length : Int)) = true := decide_eq_true c12
              clear c12
              obtain ⟨bq13, hbq13⟩ : ∃ b_ : Bool, b_ = (rdOf false y130 x17_1) := ⟨_, rfl⟩
              replace H : (if bq13 = true then (hatstandlaw9_SlotOnce.l0 k1 a0 t122 t123 t124 t125 t126 t127 t128 t129 (wrap64 (x16_1 + 1)) (wrap64 (x17_1 + 1))) else (hatstandlaw9_SlotOnce.l0 k1 a0 t122 t123 t124 t125 t126 t127 t128 t129 x16_1 (wrap64 (x17_1 + 1)))) = some r := by rw [← hbq13] at H; exact H
              have Nbq13 := Aside0.mk hbq13
              clear hbq13
              by_cases c14 : bq13 = true
              · subst c14
                have H1 : (hatstandlaw9_SlotOnce.l0 k1 a0 t122 t123 t124 t125 t126 t127 t128 t129 (wrap64 (x16_1 + 1)) (wrap64 (x17_1 + 1))) = some r := by rw [if_pos rfl] at H; exact H
                clear H
                have H := H1
                clear H1
                have H' := Aside0.mk H
                clear H
                go_wp2_with (first | ((with_reducible refine gate_dst (N := 52) rfl ?_); refine Kd.R_lit Kd.bool _ 4 ?hg (N := 52) ?hd (xs := ([t123, t127, t129] : List Bool)) (inner := [.bool t123, .bool t127, .bool t129]) (ok := fun _ => True) (okp := fun _ => True) ?hr ?hp (fun _ hk => hk) trivial (Below.refl _ _) (Nat.le_refl _) (by simp) ?_; (case hd => rfl); (case hg => rfl); (case hr => first | (go_simp; done) | (go_simp; rfl)); (case hp => exact (Reps.one (show Kd.M Kd.bool _ _ _ t123 [.bool t123] from rfl) (Reps.one (show Kd.M Kd.bool _ _ _ t127 [.bool t127] from rfl) (Reps.one (show Kd.M Kd.bool _ _ _ t129 [.bool t129] from rfl) (Reps.none _ _))))); intro v131 w15 ho16 hb hg_ hnew_; clear hg_ hnew_; (first | rw [← Ny130.out] at ho16 | (simp only [Int.reduceToNat] at ho16; rw [← Ny130.out] at ho16)); have n0_ := Aside0.mk (Kd.R_lower ho16 (below_size (by repeat (first | (with_reducible first | exact HB.out | apply below_alloc | apply pw_below_drewN | apply below_drew1) | exact HB.out)))); have n1_ := Aside0.mk (below_step (by repeat (first | (with_reducible first | exact HB.out | apply below_alloc | apply pw_below_drewN | apply below_drew1) | exact HB.out)) hb); clear HB; have HO132 := n0_; have HB := n1_; clear n0_ n1_; clear hb ho16; obtain ⟨Ao17, co17, eo17⟩ := Kd.R_slice HO132.out; subst eo17; have p133 : 0 ≤ (x17_1 : Int) := of_decide_eq_true (by first | (with_reducible assumption) | assumption); have q133 : x17_1 < (y130.length : Int) := of_decide_eq_true (by first | (with_reducible assumption) | assumption); obtain ⟨ad133, e133, hx133_0⟩ := Kd.at_bool (Kd.R_reads' HO132.out).2.2 x17_1 p133 q133; (try rw [← Nbq13.out] at hx133_0); cases e133; replace p133 := eq_true p133; replace q133 := eq_true q133))
                go_roundg k1
                case measure => have := HK1.out; omega
                case rel => exact ⟨(wrap64 (x16_1 + 1)), (wrap64 (x17_1 + 1)), (by first | rfl | (simp; done) | (simp [*]; done)), (by first | rfl | (simp; done) | (simp [*]; done)), H', ⟨by have := HK1.out; omega⟩, ⟨by repeat (first | (with_reducible first | exact HB.out | apply below_alloc | apply pw_below_drewN | apply below_drew1) | exact HB.out)⟩⟩
              · replace c14 := Bool.eq_false_iff.mpr c14
                subst c14
                have H1 : (hatstandlaw9_SlotOnce.l0 k1 a0 t122 t123 t124 t125 t126 t127 t128 t129 x16_1 (wrap64 (x17_1 + 1))) = some r := by rw [if_neg (show ¬ (false = true) by decide)] at H; exact H
                clear H
                have H := H1
                clear H1
                have H' := Aside0.mk H
                clear H
                go_wp2_with (first | ((with_reducible refine gate_dst (N := 52) rfl ?_); refine Kd.R_lit Kd.bool _ 4 ?hg (N := 52) ?hd (xs := ([t123, t127, t129] : List Bool)) (inner := [.bool t123, .bool t127, .bool t129]) (ok := fun _ => True) (okp := fun _ => True) ?hr ?hp (fun _ hk => hk) trivial (Below.refl _ _) (Nat.le_refl _) (by simp) ?_; (case hd => rfl); (case hg => rfl); (case hr => first | (go_simp; done) | (go_simp; rfl)); (case hp => exact (Reps.one (show Kd.M Kd.bool _ _ _ t123 [.bool t123] from rfl) (Reps.one (show Kd.M Kd.bool _ _ _ t127 [.bool t127] from rfl) (Reps.one (show Kd.M Kd.bool _ _ _ t129 [.bool t129] from rfl) (Reps.none _ _))))); intro v131 w18 ho19 hb hg_ hnew_; clear hg_ hnew_; (first | rw [← Ny130.out] at ho19 | (simp only [Int.reduceToNat] at ho19; rw [← Ny130.out] at ho19)); have n0_ := Aside0.mk (Kd.R_lower ho19 (below_size (by repeat (first | (with_reducible first | exact HB.out | apply below_alloc | apply pw_below_drewN | apply below_drew1) | exact HB.out)))); have n1_ := Aside0.mk (below_step (by repeat (first | (with_reducible first | exact HB.out | apply below_alloc | apply pw_below_drewN | apply below_drew1) | exact HB.out)) hb); clear HB; have HO132 := n0_; have HB := n1_; clear n0_ n1_; clear hb ho19; obtain ⟨Ao20, co20, eo20⟩ := Kd.R_slice HO132.out; subst eo20; have p133 : 0 ≤ (x17_1 : Int) := of_decide_eq_true (by first | (with_reducible assumption) | assumption); have q133 : x17_1 < (y130.length : Int) := of_decide_eq_true (by first | (with_reducible assumption) | assumption); obtain ⟨ad133, e133, hx133_0⟩ := Kd.at_bool (Kd.R_reads' HO132.out).2.2 x17_1 p133 q133; (try rw [← Nbq13.out] at hx133_0); cases e133; replace p133 := eq_true p133; replace q133 := eq_true q133))
                go_roundg k1
                case measure => have := HK1.out; omega
                case rel => exact ⟨(x16_1), (wrap64 (x17_1 + 1)), (by first | rfl | (simp; done) | (simp [*]; done)), (by first | rfl | (simp; done) | (simp [*]; done)), H', ⟨by have := HK1.out; omega⟩, ⟨by repeat (first | (with_reducible first | exact HB.out | apply below_alloc | apply pw_below_drewN | apply below_drew1) | exact HB.out)⟩⟩
            · rw [if_neg c12] at H
              exact absurd H (by simp)
          · rw [if_neg c11] at H
            exact absurd H (by simp)
        · rw [if_neg c10] at H
          have c10b0 : decide (x17_1 < 3) = false := decide_eq_false c10
          clear c10
          have HC21 := Aside0.mk H
          clear H
          go_upto_region 14 with (fail)
          go_cut [84] (fun v84 wc => ∃ (kq : Nat) (x84_20 : Bool), v84 = .bool x84_20 ∧ Aside0 (hatstandlaw9_SlotOnce.j1 kq t122 t123 t124 t126 t127 t128 t129 x84_20 = some r) ∧ Aside0 (kq ≤ k1) ∧ Aside0 (Below w.heap.size w wc))
          case first =>
            have H := HC21.out
            clear HC21
            by_cases c22 : (t123 != t125) = true
            · rw [if_pos c22] at H
              have c22b0 : (t123 != t125) = true := c22
              (try (have c22b1 : decide (t123 = t125) = false := by simpa using c22))
              (try (have c22b2 : (t123 == t125) = false := by simpa using c22))
              (try (have c22b3 : ¬ (t123 = t125) := by simpa using c22))
              clear c22
              (first | rw [c22b0] | (simp only [i64_w, i32_w]; rw [c22b0]) | skip)
              have H' := Aside0.mk H
              clear H
              go_wp2
              go_meet
              case rel => exact ⟨_, (true), (by first | rfl | (simp; done) | (simp [*]; done)), H', ⟨by have := HK1.out; first | omega | exact Nat.le_refl _⟩, ⟨by repeat (first | (with_reducible first | exact HB.out | apply below_alloc | apply pw_below_drewN | apply below_drew1) | exact HB.out)⟩⟩
            · rw [if_neg c22] at H
              have c22b0 : (t123 != t125) = false := by simpa using c22
              (try (have c22b1 : decide (t123 = t125) = true := by simpa using c22))
              (try (have c22b2 : (t123 == t125) = true := by simpa using c22))
              clear c22
              (first | rw [c22b0] | (simp only [i64_w, i32_w]; rw [c22b0]) | skip)
              by_cases c23 : x16_1 > 1
              · rw [if_pos c23] at H
                have c23b0 : decide (1 < x16_1) = true := decide_eq_true c23
                clear c23
                have H' := Aside0.mk H
                clear H
                go_wp2
                go_meet
                case rel => exact ⟨_, (true), (by first | rfl | (simp; done) | (simp [*]; done)), H', ⟨by have := HK1.out; first | omega | exact Nat.le_refl _⟩, ⟨by repeat (first | (with_reducible first | exact HB.out | apply below_alloc | apply pw_below_drewN | apply below_drew1) | exact HB.out)⟩⟩
              · rw [if_neg c23] at H
                have c23b0 : decide (1 < x16_1) = false := decide_eq_false c23
                clear c23
                replace H := Option.bind_eq_some_iff.mp H
                obtain ⟨t134, A240, H⟩ := H
                replace H : (if ((x16_1 == 0) != (t134 == 3)) = true then (hatstandlaw9_SlotOnce.j1 k1 t122 t123 t124 t126 t127 t128 t129 true) else ((slot_Meets.f a0 true).bind fun t135 => (if (t127 != t135) = true then (hatstandlaw9_SlotOnce.j1 k1 t122 t123 t124 t126 t127 t128 t129 true) else ((slot_Meets.f a0 false).bind fun t136 => (hatstandlaw9_SlotOnce.j1 k1 t122 t123 t124 t126 t127 t128 t129 (t129 != t136)))))) = some r := H
                have A24 := Aside0.mk A240
                clear A240
                by_cases c25 : ((x16_1 == 0) != (t134 == 3)) = true
                · rw [if_pos c25] at H
                  have c25b0 : ((x16_1 == 0) != (t134 == 3)) = true := c25
                  (try (have c25b1 : decide ((x16_1 == 0) = (t134 == 3)) = false := by simpa using c25))
                  (try (have c25b2 : ((x16_1 == 0) == (t134 == 3)) = false := by simpa using c25))
                  (try (have c25b3 : ¬ ((x16_1 == 0) = (t134 == 3)) := by simpa using c25))
                  clear c25
                  have H' := Aside0.mk H
                  clear H
                  go_wp2_with (first | (go_at_call 12; (with_reducible refine (slot_State.calls a0 t134 _ A24.out).mono ?_); rintro e w' ⟨rfl, ⟨nd, rfl⟩⟩))
                  go_meet
                  case rel => exact ⟨_, (true), (by first | rfl | (simp; done) | (simp [*]; done)), H', ⟨by have := HK1.out; first | omega | exact Nat.le_refl _⟩, ⟨by repeat (first | (with_reducible first | exact HB.out | apply below_alloc | apply pw_below_drewN | apply below_drew1) | exact HB.out)⟩⟩
                · rw [if_neg c25] at H
                  have c25b0 : ((x16_1 == 0) != (t134 == 3)) = false := by simpa using c25
                  (try (have c25b1 : decide ((x16_1 == 0) = (t134 == 3)) = true := by simpa using c25))
                  (try (have c25b2 : ((x16_1 == 0) == (t134 == 3)) = true := by simpa using c25))
                  clear c25
                  replace H := Option.bind_eq_some_iff.mp H
                  obtain ⟨t135, A260, H⟩ := H
                  replace H : (if (t127 != t135) = true then (hatstandlaw9_SlotOnce.j1 k1 t122 t123 t124 t126 t127 t128 t129 true) else ((slot_Meets.f a0 false).bind fun t136 => (hatstandlaw9_SlotOnce.j1 k1 t122 t123 t124 t126 t127 t128 t129 (t129 != t136)))) = some r := H
                  have A26 := Aside0.mk A260
                  clear A260
                  by_cases c27 : (t127 != t135) = true
                  · rw [if_pos c27] at H
                    have c27b0 : (t127 != t135) = true := c27
                    (try (have c27b1 : decide (t127 = t135) = false := by simpa using c27))
                    (try (have c27b2 : (t127 == t135) = false := by simpa using c27))
                    (try (have c27b3 : ¬ (t127 = t135) := by simpa using c27))
                    clear c27
                    have H' := Aside0.mk H
                    clear H
                    go_wp2_with (first | (go_at_call 12; (with_reducible refine (slot_State.calls a0 t134 _ A24.out).mono ?_); rintro e w' ⟨rfl, ⟨nd, rfl⟩⟩) | (go_at_call 17; (with_reducible refine (slot_Meets.calls a0 true t135 _ A26.out).mono ?_); rintro e w' ⟨rfl, ⟨nd, rfl⟩⟩))
                    go_meet
                    case rel => exact ⟨_, (true), (by first | rfl | (simp; done) | (simp [*]; done)), H', ⟨by have := HK1.out; first | omega | exact Nat.le_refl _⟩, ⟨by repeat (first | (with_reducible first | exact HB.out | apply below_alloc | apply pw_below_drewN | apply below_drew1) | exact HB.out)⟩⟩
                  · rw [if_neg c27] at H
                    have c27b0 : (t127 != t135) = false := by simpa using c27
                    (try (have c27b1 : decide (t127 = t135) = true := by simpa using c27))
                    (try (have c27b2 : (t127 == t135) = true := by simpa using c27))
                    clear c27
                    replace H := Option.bind_eq_some_iff.mp H
                    obtain ⟨t136, A280, H⟩ := H
                    replace H : (hatstandlaw9_SlotOnce.j1 k1 t122 t123 t124 t126 t127 t128 t129 (t129 != t136)) = some r := H
                    have A28 := Aside0.mk A280
                    clear A280
                    have H' := Aside0.mk H
                    clear H
                    go_wp2_with (first | (go_at_call 12; (with_reducible refine (slot_State.calls a0 t134 _ A24.out).mono ?_); rintro e w' ⟨rfl, ⟨nd, rfl⟩⟩) | (go_at_call 17; (with_reducible refine (slot_Meets.calls a0 true t135 _ A26.out).mono ?_); rintro e w' ⟨rfl, ⟨nd, rfl⟩⟩) | (go_at_call 17; (with_reducible refine (slot_Meets.calls a0 false t136 _ A28.out).mono ?_); rintro e w' ⟨rfl, ⟨nd, rfl⟩⟩))
                    go_meet
                    case rel => exact ⟨_, ((t129 != t136)), (by first | rfl | (simp; done) | (simp [*]; done)), H', ⟨by have := HK1.out; first | omega | exact Nat.le_refl _⟩, ⟨by repeat (first | (with_reducible first | exact HB.out | apply below_alloc | apply pw_below_drewN | apply below_drew1) | exact HB.out)⟩⟩
          case rest =>
            clear HC21
            try clear c1
            try clear p1
            try clear q1
            try clear hx1
            try clear c2
            try clear p2
            try clear c4
            try clear c5
            try clear p6
            try clear c9
            try clear c10
            try clear c10b0
            try clear c11
            try clear c11b0
            try clear c12
            try clear c12b0
            try clear p13
            try clear q13
            try clear hx13
            try clear c14
            try clear c15
            try clear c16
            try clear c22
            try clear c22b0
            try clear c22b1
            try clear c22b2
            try clear c23
            try clear c23b0
            try clear c25
            try clear c25b0
            try clear c25b1
            try clear c25b2
            try clear c27
            try clear c27b0
            try clear c27b1
            try clear c27b2
            try clear hx133_0
            try clear p133
            try clear p2
            try clear q133
            obtain ⟨kq, x84_20, rfl, HA, HJ20, HB⟩ := hcut
            cases kq with
            | zero => exact absurd HA.out (by simp [hatstandlaw9_SlotOnce.j1])
            | succ kj20 =>
              have H := HA.out
              clear HA
              simp only [hatstandlaw9_SlotOnce.j1] at H
              by_cases c29 : x84_20 = true
              · subst c29
                have H1 : (some false) = some r := by rw [if_pos rfl] at H; exact H
                clear H
                have H := H1
                clear H1
                obtain rfl := Option.some.inj H
                go_wp2
                go_ret
                exact ⟨by first | rfl | (simp [errW_none, errW_some] <;> rfl) | (simp [*, errW_none, errW_some] <;> rfl), by repeat (first | (with_reducible first | exact HB.out | apply below_alloc | apply pw_below_drewN | apply below_drew1) | exact HB.out)⟩
              · replace c29 := Bool.eq_false_iff.mpr c29
                subst c29
                have H1 : (if t123 = true then (if t127 = true then (if t129 = true then (hatstandlaw9_SlotOnce.j2 kj20 t122 t123 t124 false) else (hatstandlaw9_SlotOnce.j2 kj20 t122 t123 t124 (t128 != 0))) else (if t126 = 0 then (if t129 = true then (hatstandlaw9_SlotOnce.j2 kj20 t122 t123 t124 false) else (hatstandlaw9_SlotOnce.j2 kj20 t122 t123 t124 (t128 != 0))) else (hatstandlaw9_SlotOnce.j2 kj20 t122 t123 t124 true))) else (if t122 = 0 then (if t124 = 0 then (if t127 = true then (if t129 = true then (hatstandlaw9_SlotOnce.j2 kj20 t122 t123 t124 false) else (hatstandlaw9_SlotOnce.j2 kj20 t122 t123 t124 (t128 != 0))) else (if t126 = 0 then (if t129 = true then (hatstandlaw9_SlotOnce.j2 kj20 t122 t123 t124 false) else (hatstandlaw9_SlotOnce.j2 kj20 t122 t123 t124 (t128 != 0))) else (hatstandlaw9_SlotOnce.j2 kj20 t122 t123 t124 true))) else (hatstandlaw9_SlotOnce.j2 kj20 t122 t123 t124 true)) else (hatstandlaw9_SlotOnce.j2 kj20 t122 t123 t124 true))) = some r := by rw [if_neg (show ¬ (false = true) by decide)] at H; exact H
                clear H
                have H := H1
                clear H1
                have HC30 := Aside0.mk H
                clear H
                go_upto_region 16 with (fail)
                go_cut [110] (fun v110 wc => ∃ (kq : Nat) (x110_29 : Bool), v110 = .bool x110_29 ∧ Aside0 (hatstandlaw9_SlotOnce.j2 kq t122 t123 t124 x110_29 = some r) ∧ Aside0 (kq ≤ kj20) ∧ Aside0 (Below w.heap.size w wc))
                case first =>
                  have H := HC30.out
                  clear HC30
                  by_cases c31 : t123 = true
                  · subst c31
                    have H1 : (if t127 = true then (if t129 = true then (hatstandlaw9_SlotOnce.j2 kj20 t122 true t124 false) else (hatstandlaw9_SlotOnce.j2 kj20 t122 true t124 (t128 != 0))) else (if t126 = 0 then (if t129 = true then (hatstandlaw9_SlotOnce.j2 kj20 t122 true t124 false) else (hatstandlaw9_SlotOnce.j2 kj20 t122 true t124 (t128 != 0))) else (hatstandlaw9_SlotOnce.j2 kj20 t122 true t124 true))) = some r := by rw [if_pos rfl] at H; exact H
                    clear H
                    have H := H1
                    clear H1
                    by_cases c32 : t127 = true
                    · subst c32
                      have H1 : (if t129 = true then (hatstandlaw9_SlotOnce.j2 kj20 t122 true t124 false) else (hatstandlaw9_SlotOnce.j2 kj20 t122 true t124 (t128 != 0))) = some r := by rw [if_pos rfl] at H; exact H
                      clear H
                      have H := H1
                      clear H1
                      by_cases c33 : t129 = true
                      · subst c33
                        have H1 : (hatstandlaw9_SlotOnce.j2 kj20 t122 true t124 false) = some r := by rw [if_pos rfl] at H; exact H
                        clear H
                        have H := H1
                        clear H1
                        have H' := Aside0.mk H
                        clear H
                        go_wp2
                        go_meet
                        case rel => exact ⟨_, (false), (by first | rfl | (simp; done) | (simp [*]; done)), H', ⟨by have := HK1.out; have := HJ20.out; first | omega | exact Nat.le_refl _⟩, ⟨by repeat (first | (with_reducible first | exact HB.out | apply below_alloc | apply pw_below_drewN | apply below_drew1) | exact HB.out)⟩⟩
                      · replace c33 := Bool.eq_false_iff.mpr c33
                        subst c33
                        have H1 : (hatstandlaw9_SlotOnce.j2 kj20 t122 true t124 (t128 != 0)) = some r := by rw [if_neg (show ¬ (false = true) by decide)] at H; exact H
                        clear H
                        have H := H1
                        clear H1
                        have H' := Aside0.mk H
                        clear H
                        go_wp2
                        go_meet
                        case rel => exact ⟨_, ((t128 != 0)), (by first | rfl | (simp; done) | (simp [*]; done)), H', ⟨by have := HK1.out; have := HJ20.out; first | omega | exact Nat.le_refl _⟩, ⟨by repeat (first | (with_reducible first | exact HB.out | apply below_alloc | apply pw_below_drewN | apply below_drew1) | exact HB.out)⟩⟩
                    · replace c32 := Bool.eq_false_iff.mpr c32
                      subst c32
                      have H1 : (if t126 = 0 then (if t129 = true then (hatstandlaw9_SlotOnce.j2 kj20 t122 true t124 false) else (hatstandlaw9_SlotOnce.j2 kj20 t122 true t124 (t128 != 0))) else (hatstandlaw9_SlotOnce.j2 kj20 t122 true t124 true)) = some r := by rw [if_neg (show ¬ (false = true) by decide)] at H; exact H
                      clear H
                      have H := H1
                      clear H1
                      by_cases c34 : t126 = 0
                      · rw [if_pos c34] at H
                        have c34b0 : (t126 == 0) = true := beq_iff_eq.mpr c34
                        have c34b1 : (t126 != 0) = false := bne_eq_false_iff_eq.mpr c34
                        clear c34
                        (first | rw [c34b0] | (simp only [i64_w, i32_w]; rw [c34b0]) | skip)
                        by_cases c35 : t129 = true
                        · subst c35
                          have H1 : (hatstandlaw9_SlotOnce.j2 kj20 t122 true t124 false) = some r := by rw [if_pos rfl] at H; exact H
                          clear H
                          have H := H1
                          clear H1
                          have H' := Aside0.mk H
                          clear H
                          go_wp2
                          go_meet
                          case rel => exact ⟨_, (false), (by first | rfl | (simp; done) | (simp [*]; done)), H', ⟨by have := HK1.out; have := HJ20.out; first | omega | exact Nat.le_refl _⟩, ⟨by repeat (first | (with_reducible first | exact HB.out | apply below_alloc | apply pw_below_drewN | apply below_drew1) | exact HB.out)⟩⟩
                        · replace c35 := Bool.eq_false_iff.mpr c35
                          subst c35
                          have H1 : (hatstandlaw9_SlotOnce.j2 kj20 t122 true t124 (t128 != 0)) = some r := by rw [if_neg (show ¬ (false = true) by decide)] at H; exact H
                          clear H
                          have H := H1
                          clear H1
                          have H' := Aside0.mk H
                          clear H
                          go_wp2
                          go_meet
                          case rel => exact ⟨_, ((t128 != 0)), (by first | rfl | (simp; done) | (simp [*]; done)), H', ⟨by have := HK1.out; have := HJ20.out; first | omega | exact Nat.le_refl _⟩, ⟨by repeat (first | (with_reducible first | exact HB.out | apply below_alloc | apply pw_below_drewN | apply below_drew1) | exact HB.out)⟩⟩
                      · rw [if_neg c34] at H
                        have c34b0 : (t126 == 0) = false := beq_eq_false_iff_ne.mpr c34
                        have c34b1 : (t126 != 0) = true := bne_iff_ne.mpr c34
                        (first | rw [c34b0] | (simp only [i64_w, i32_w]; rw [c34b0]) | skip)
                        have H' := Aside0.mk H
                        clear H
                        go_wp2
                        go_meet
                        case rel => exact ⟨_, (true), (by first | rfl | (simp; done) | (simp [*]; done)), H', ⟨by have := HK1.out; have := HJ20.out; first | omega | exact Nat.le_refl _⟩, ⟨by repeat (first | (with_reducible first | exact HB.out | apply below_alloc | apply pw_below_drewN | apply below_drew1) | exact HB.out)⟩⟩
                  · replace c31 := Bool.eq_false_iff.mpr c31
                    subst c31
                    have H1 : (if t122 = 0 then (if t124 = 0 then (if t127 = true then (if t129 = true then (hatstandlaw9_SlotOnce.j2 kj20 t122 false t124 false) else (hatstandlaw9_SlotOnce.j2 kj20 t122 false t124 (t128 != 0))) else (if t126 = 0 then (if t129 = true then (hatstandlaw9_SlotOnce.j2 kj20 t122 false t124 false) else (hatstandlaw9_SlotOnce.j2 kj20 t122 false t124 (t128 != 0))) else (hatstandlaw9_SlotOnce.j2 kj20 t122 false t124 true))) else (hatstandlaw9_SlotOnce.j2 kj20 t122 false t124 true)) else (hatstandlaw9_SlotOnce.j2 kj20 t122 false t124 true)) = some r := by rw [if_neg (show ¬ (false = true) by decide)] at H; exact H
                    clear H
                    have H := H1
                    clear H1
                    by_cases c36 : t122 = 0
                    · rw [if_pos c36] at H
                      have c36b0 : (t122 == 0) = true := beq_iff_eq.mpr c36
                      have c36b1 : (t122 != 0) = false := bne_eq_false_iff_eq.mpr c36
                      clear c36
                      by_cases c37 : t124 = 0
                      · rw [if_pos c37] at H
                        have c37b0 : (t124 == 0) = true := beq_iff_eq.mpr c37
                        have c37b1 : (t124 != 0) = false := bne_eq_false_iff_eq.mpr c37
                        clear c37
                        by_cases c38 : t127 = true
                        · subst c38
                          have H1 : (if t129 = true then (hatstandlaw9_SlotOnce.j2 kj20 t122 false t124 false) else (hatstandlaw9_SlotOnce.j2 kj20 t122 false t124 (t128 != 0))) = some r := by rw [if_pos rfl] at H; exact H
                          clear H
                          have H := H1
                          clear H1
                          by_cases c39 : t129 = true
                          · subst c39
                            have H1 : (hatstandlaw9_SlotOnce.j2 kj20 t122 false t124 false) = some r := by rw [if_pos rfl] at H; exact H
                            clear H
                            have H := H1
                            clear H1
                            have H' := Aside0.mk H
                            clear H
                            go_wp2
                            go_meet
                            case rel => exact ⟨_, (false), (by first | rfl | (simp; done) | (simp [*]; done)), H', ⟨by have := HK1.out; have := HJ20.out; first | omega | exact Nat.le_refl _⟩, ⟨by repeat (first | (with_reducible first | exact HB.out | apply below_alloc | apply pw_below_drewN | apply below_drew1) | exact HB.out)⟩⟩
                          · replace c39 := Bool.eq_false_iff.mpr c39
                            subst c39
                            have H1 : (hatstandlaw9_SlotOnce.j2 kj20 t122 false t124 (t128 != 0)) = some r := by rw [if_neg (show ¬ (false = true) by decide)] at H; exact H
                            clear H
                            have H := H1
                            clear H1
                            have H' := Aside0.mk H
                            clear H
                            go_wp2
                            go_meet
                            case rel => exact ⟨_, ((t128 != 0)), (by first | rfl | (simp; done) | (simp [*]; done)), H', ⟨by have := HK1.out; have := HJ20.out; first | omega | exact Nat.le_refl _⟩, ⟨by repeat (first | (with_reducible first | exact HB.out | apply below_alloc | apply pw_below_drewN | apply below_drew1) | exact HB.out)⟩⟩
                        · replace c38 := Bool.eq_false_iff.mpr c38
                          subst c38
                          have H1 : (if t126 = 0 then (if t129 = true then (hatstandlaw9_SlotOnce.j2 kj20 t122 false t124 false) else (hatstandlaw9_SlotOnce.j2 kj20 t122 false t124 (t128 != 0))) else (hatstandlaw9_SlotOnce.j2 kj20 t122 false t124 true)) = some r := by rw [if_neg (show ¬ (false = true) by decide)] at H; exact H
                          clear H
                          have H := H1
                          clear H1
                          by_cases c40 : t126 = 0
                          · rw [if_pos c40] at H
                            have c40b0 : (t126 == 0) = true := beq_iff_eq.mpr c40
                            have c40b1 : (t126 != 0) = false := bne_eq_false_iff_eq.mpr c40
                            clear c40
                            by_cases c41 : t129 = true
                            · subst c41
                              have H1 : (hatstandlaw9_SlotOnce.j2 kj20 t122 false t124 false) = some r := by rw [if_pos rfl] at H; exact H
                              clear H
                              have H := H1
                              clear H1
                              have H' := Aside0.mk H
                              clear H
                              go_wp2
                              go_meet
                              case rel => exact ⟨_, (false), (by first | rfl | (simp; done) | (simp [*]; done)), H', ⟨by have := HK1.out; have := HJ20.out; first | omega | exact Nat.le_refl _⟩, ⟨by repeat (first | (with_reducible first | exact HB.out | apply below_alloc | apply pw_below_drewN | apply below_drew1) | exact HB.out)⟩⟩
                            · replace c41 := Bool.eq_false_iff.mpr c41
                              subst c41
                              have H1 : (hatstandlaw9_SlotOnce.j2 kj20 t122 false t124 (t128 != 0)) = some r := by rw [if_neg (show ¬ (false = true) by decide)] at H; exact H
                              clear H
                              have H := H1
                              clear H1
                              have H' := Aside0.mk H
                              clear H
                              go_wp2
                              go_meet
                              case rel => exact ⟨_, ((t128 != 0)), (by first | rfl | (simp; done) | (simp [*]; done)), H', ⟨by have := HK1.out; have := HJ20.out; first | omega | exact Nat.le_refl _⟩, ⟨by repeat (first | (with_reducible first | exact HB.out | apply below_alloc | apply pw_below_drewN | apply below_drew1) | exact HB.out)⟩⟩
                          · rw [if_neg c40] at H
                            have c40b0 : (t126 == 0) = false := beq_eq_false_iff_ne.mpr c40
                            have c40b1 : (t126 != 0) = true := bne_iff_ne.mpr c40
                            have H' := Aside0.mk H
                            clear H
                            go_wp2
                            go_meet
                            case rel => exact ⟨_, (true), (by first | rfl | (simp; done) | (simp [*]; done)), H', ⟨by have := HK1.out; have := HJ20.out; first | omega | exact Nat.le_refl _⟩, ⟨by repeat (first | (with_reducible first | exact HB.out | apply below_alloc | apply pw_below_drewN | apply below_drew1) | exact HB.out)⟩⟩
                      · rw [if_neg c37] at H
                        have c37b0 : (t124 == 0) = false := beq_eq_false_iff_ne.mpr c37
                        have c37b1 : (t124 != 0) = true := bne_iff_ne.mpr c37
                        have H' := Aside0.mk H
                        clear H
                        go_wp2
                        go_meet
                        case rel => exact ⟨_, (true), (by first | rfl | (simp; done) | (simp [*]; done)), H', ⟨by have := HK1.out; have := HJ20.out; first | omega | exact Nat.le_refl _⟩, ⟨by repeat (first | (with_reducible first | exact HB.out | apply below_alloc | apply pw_below_drewN | apply below_drew1) | exact HB.out)⟩⟩
                    · rw [if_neg c36] at H
                      have c36b0 : (t122 == 0) = false := beq_eq_false_iff_ne.mpr c36
                      have c36b1 : (t122 != 0) = true := bne_iff_ne.mpr c36
                      have H' := Aside0.mk H
                      clear H
                      go_wp2
                      go_meet
                      case rel => exact ⟨_, (true), (by first | rfl | (simp; done) | (simp [*]; done)), H', ⟨by have := HK1.out; have := HJ20.out; first | omega | exact Nat.le_refl _⟩, ⟨by repeat (first | (with_reducible first | exact HB.out | apply below_alloc | apply pw_below_drewN | apply below_drew1) | exact HB.out)⟩⟩
                case rest =>
                  clear HC30
                  try clear c1
                  try clear p1
                  try clear q1
                  try clear hx1
                  try clear c2
                  try clear p2
                  try clear c3
                  try clear c4
                  try clear c5
                  try clear p6
                  try clear c9
                  try clear c10
                  try clear c10b0
                  try clear c11
                  try clear c11b0
                  try clear c12
                  try clear c12b0
                  try clear p13
                  try clear q13
                  try clear hx13
                  try clear c14
                  try clear c15
                  try clear c16
                  try clear c22
                  try clear c22b0
                  try clear c22b1
                  try clear c22b2
                  try clear c23
                  try clear c23b0
                  try clear c25
                  try clear c25b0
                  try clear c25b1
                  try clear c25b2
                  try clear c27
                  try clear c27b0
                  try clear c27b1
                  try clear c27b2
                  try clear c29
                  try clear c31
                  try clear c32
                  try clear c33
                  try clear c34
                  try clear c34b0
                  try clear c34b1
                  try clear c35
                  try clear c36
                  try clear c36b0
                  try clear c36b1
                  try clear c37
                  try clear c37b0
                  try clear c37b1
                  try clear c38
                  try clear c39
                  try clear c40
                  try clear c40b0
                  try clear c40b1
                  try clear c41
                  try clear hx133_0
                  try clear p1
                  try clear p13
                  try clear p133
                  try clear p2
                  try clear p6
                  try clear q1
                  try clear q13
                  try clear q133
                  obtain ⟨kq, x110_29, rfl, HA, HJ29, HB⟩ := hcut
                  cases kq with
                  | zero => exact absurd HA.out (by simp [hatstandlaw9_SlotOnce.j2])
                  | succ kj29 =>
                    have H := HA.out
                    clear HA
                    simp only [hatstandlaw9_SlotOnce.j2] at H
                    by_cases c42 : x110_29 = true
                    · subst c42
                      have H1 : (some false) = some r := by rw [if_pos rfl] at H; exact H
                      clear H
                      have H := H1
                      clear H1
                      obtain rfl := Option.some.inj H
                      go_wp2
                      go_ret
                      exact ⟨by first | rfl | (simp [errW_none, errW_some] <;> rfl) | (simp [*, errW_none, errW_some] <;> rfl), by repeat (first | (with_reducible first | exact HB.out | apply below_alloc | apply pw_below_drewN | apply below_drew1) | exact HB.out)⟩
                    · replace c42 := Bool.eq_false_iff.mpr c42
                      subst c42
                      have H1 : (if t123 = true then ((slot_State.f t122).bind fun t137 => (if t137 = 1 then ((slot_State.f t124).bind fun t138 => (if t138 = 2 then ((slot_Index.f t124).bind fun t139 => (some (t139 == 0))) else (some false))) else (some false))) else (some true)) = some r := by rw [if_neg (show ¬ (false = true) by decide)] at H; exact H
                      clear H
                      have H := H1
                      clear H1
                      by_cases c43 : t123 = true
                      · subst c43
                        have H1 : ((slot_State.f t122).bind fun t137 => (if t137 = 1 then ((slot_State.f t124).bind fun t138 => (if t138 = 2 then ((slot_Index.f t124).bind fun t139 => (some (t139 == 0))) else (some false))) else (some false))) = some r := by rw [if_pos rfl] at H; exact H
                        clear H
                        have H := H1
                        clear H1
                        replace H := Option.bind_eq_some_iff.mp H
                        obtain ⟨t137, A440, H⟩ := H
                        replace H : (if t137 = 1 then ((slot_State.f t124).bind fun t138 => (if t138 = 2 then ((slot_Index.f t124).bind fun t139 => (some (t139 == 0))) else (some false))) else (some false)) = some r := H
                        have A44 := Aside0.mk A440
                        clear A440
                        by_cases c45 : t137 = 1
                        · rw [if_pos c45] at H
                          have c45b0 : (t137 == 1) = true := beq_iff_eq.mpr c45
                          have c45b1 : (t137 != 1) = false := bne_eq_false_iff_eq.mpr c45
                          clear c45
                          replace H := Option.bind_eq_some_iff.mp H
                          obtain ⟨t138, A460, H⟩ := H
                          replace H : (if t138 = 2 then ((slot_Index.f t124).bind fun t139 => (some (t139 == 0))) else (some false)) = some r := H
                          have A46 := Aside0.mk A460
                          clear A460
                          by_cases c47 : t138 = 2
                          · rw [if_pos c47] at H
                            have c47b0 : (t138 == 2) = true := beq_iff_eq.mpr c47
                            have c47b1 : (t138 != 2) = false := bne_eq_false_iff_eq.mpr c47
                            clear c47
                            replace H := Option.bind_eq_some_iff.mp H
                            obtain ⟨t139, A480, H⟩ := H
                            replace H : (some (t139 == 0)) = some r := H
                            have A48 := Aside0.mk A480
                            clear A480
                            obtain rfl := Option.some.inj H
                            go_wp2_with (first | (go_at_call 12; (with_reducible refine (slot_State.calls t122 t137 _ A44.out).mono ?_); rintro e w' ⟨rfl, ⟨nd, rfl⟩⟩) | (go_at_call 12; (with_reducible refine (slot_State.calls t124 t138 _ A46.out).mono ?_); rintro e w' ⟨rfl, ⟨nd, rfl⟩⟩) | (go_at_call 13; (with_reducible refine (slot_Index.calls t124 t139 _ A48.out).mono ?_); rintro e w' ⟨rfl, ⟨nd, rfl⟩⟩))
                            go_ret
                            exact ⟨by first | rfl | (simp [errW_none, errW_some] <;> rfl) | (simp [*, errW_none, errW_some] <;> rfl), by repeat (first | (with_reducible first | exact HB.out | apply below_alloc | apply pw_below_drewN | apply below_drew1) | exact HB.out)⟩
                          · rw [if_neg c47] at H
                            have c47b0 : (t138 == 2) = false := beq_eq_false_iff_ne.mpr c47
                            have c47b1 : (t138 != 2) = true := bne_iff_ne.mpr c47
                            obtain rfl := Option.some.inj H
                            go_wp2_with (first | (go_at_call 12; (with_reducible refine (slot_State.calls t122 t137 _ A44.out).mono ?_); rintro e w' ⟨rfl, ⟨nd, rfl⟩⟩) | (go_at_call 12; (with_reducible refine (slot_State.calls t124 t138 _ A46.out).mono ?_); rintro e w' ⟨rfl, ⟨nd, rfl⟩⟩))
                            go_ret
                            exact ⟨by first | rfl | (simp [errW_none, errW_some] <;> rfl) | (simp [*, errW_none, errW_some] <;> rfl), by repeat (first | (with_reducible first | exact HB.out | apply below_alloc | apply pw_below_drewN | apply below_drew1) | exact HB.out)⟩
                        · rw [if_neg c45] at H
                          have c45b0 : (t137 == 1) = false := beq_eq_false_iff_ne.mpr c45
                          have c45b1 : (t137 != 1) = true := bne_iff_ne.mpr c45
                          obtain rfl := Option.some.inj H
                          go_wp2_with (first | (go_at_call 12; (with_reducible refine (slot_State.calls t122 t137 _ A44.out).mono ?_); rintro e w' ⟨rfl, ⟨nd, rfl⟩⟩))
                          go_ret
                          exact ⟨by first | rfl | (simp [errW_none, errW_some] <;> rfl) | (simp [*, errW_none, errW_some] <;> rfl), by repeat (first | (with_reducible first | exact HB.out | apply below_alloc | apply pw_below_drewN | apply below_drew1) | exact HB.out)⟩
                      · replace c43 := Bool.eq_false_iff.mpr c43
                        subst c43
                        have H1 : (some true) = some r := by rw [if_neg (show ¬ (false = true) by decide)] at H; exact H
                        clear H
                        have H := H1
                        clear H1
                        obtain rfl := Option.some.inj H
                        go_wp2
                        go_ret
                        exact ⟨by first | rfl | (simp [errW_none, errW_some] <;> rfl) | (simp [*, errW_none, errW_some] <;> rfl), by repeat (first | (with_reducible first | exact HB.out | apply below_alloc | apply pw_below_drewN | apply below_drew1) | exact HB.out)⟩
  · replace c5 := Bool.eq_false_iff.mpr c5
    subst c5
    have H1 : (some false) = some r := by rw [if_neg (show ¬ (false = true) by decide)] at H; exact H
    clear H
    have H := H1
    clear H1
    obtain rfl := Option.some.inj H
    go_enter Try.func4, Try.ntmps4
    go_wp2_with (first | ((with_reducible refine gate_callee (f := 9) rfl ?_); refine goesL_ (some 18) rfl rfl Try.func9 (by kernel_rfl) rfl #[] rfl (by (try simp only [List.map_toArray, List.map_cons, List.map_nil]); first | done | rfl | (simp only [List.length_drop, List.length_take]; rfl)) ?_; (with_reducible refine (hatstandlaw9_shown.calls  false _ A4.out).mono ?_); rintro e w' ⟨rfl, ⟨nd, rfl⟩⟩; refine ⟨_, rfl, ?_⟩))
    go_ret
    exact ⟨by first | rfl | (simp [errW_none, errW_some] <;> rfl) | (simp [*, errW_none, errW_some] <;> rfl), by repeat (first | (with_reducible first | exact HB.out | apply below_alloc | apply pw_below_drewN | apply below_drew1) | exact HB.out)⟩

/-- THE ONE PURE STATEMENT of hatstandlaw9_SlotOnce: yours. -/
def hatstandlaw9_SlotOnce.Pure : Prop := ∀ (a0 : Int) (a1 : Int) (a2 : Int), (Lit.int .u64 a0).wf = true → (Lit.int .u32 a1).wf = true → (Lit.int .u32 a2).wf = true → ∃ k, hatstandlaw9_SlotOnce.f k a0 a1 a2 = some true
theorem hatstandlaw9_SlotOnce.walk (P : hatstandlaw9_SlotOnce.Pure) (a0 : Int) (a1 : Int) (a2 : Int) (w : World) (w0 : (Lit.int .u64 a0).wf = true) (w1 : (Lit.int .u32 a1).wf = true) (w2 : (Lit.int .u32 a2).wf = true) :
    Calls Try.prog 4 #[.int .u64 a0, .int .u32 a1, .int .u32 a2] w fun e w' => e = .returned (.bool true) ∧ Below w.heap.size w w' := by
  obtain ⟨k, h⟩ := P a0 a1 a2 w0 w1 w2
  refine (hatstandlaw9_SlotOnce.calls k a0 a1 a2 true w h).mono ?_
  rintro e w' ⟨rfl, hd⟩
  exact ⟨rfl, hd⟩

end Go.Proofs.Ytijkmjhfhnhjeaa.PSlotOnce
