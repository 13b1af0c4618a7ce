/- Walks, written by a program for this claim: each Go function that the laws reach comes to what its Lean function says. -/
import Derived.Test.YtmdjmfbinjnlcaaPx0
import Derived.Test.YtmdjmfbinjnlcaaPx4
import Derived.Test.YtmdjmfbinjnlcaaPx5
import Derived.Test.YtmdjmfbinjnlcaaPx6
import Derived.Test.YtmdjmfbinjnlcaaPx8
import Derived.Test.YtmdjmfbinjnlcaaPx9
import Derived.Test.YtmdjmfbinjnlcaaPx10
namespace Go.Proofs.Ytmdjmfbinjnlcaa.P
open Go.RowKit Go.Proofs.YtmdjmfbinjnlcaaW.PrintWords Go.Proofs.YtmdjmfbinjnlcaaW.PrintLast Go.Proofs.YtmdjmfbinjnlcaaW.PrintMore
attribute [local go_sem] max2_int min2_int max_two min_two max_three min_three max_four min_four   -- for this text's walks alone
set_option linter.unusedVariables false
set_option linter.unusedSimpArgs false

/-! ### hatstandlaw14_HistoryTells: function 3 -/
def hatstandlaw14_HistoryTells.j0 : Nat → List (S47) → Bool → Bool → Option (Bool)
  | 0, _, _, _ => none
  | k + 1, x0, x3, x19 => if x19 = true then (some x3) else ((history_Check.f x0).bind fun bt174 => ((hatstandlaw14_as.f k x0).bind fun t176 => ((hatstandref14_Check.f k t176).bind fun bt179 => ((history_Calls.f x0).bind fun bt181 => ((hatstandlaw14_as.f k x0).bind fun t185 => ((hatstandref14_Calls.f k t185).bind fun bt188 => (if bt174.1 = bt179.1 then (if bt174.2 = bt179.2 then ((hatstandlaw14_asCalls.f k bt181.1).bind fun t192 => ((hatstandref14_Same.f k t192 bt188.1).bind fun t195 => (if t195 = true then (some (bt181.2 == bt188.2)) else (some false)))) else (some false)) else (some false))))))))
def hatstandlaw14_HistoryTells.f (k : Nat) (l0 : List (S47)) : Option (Bool) := (hatstandlaw14_shown.f k).bind fun t173 => (if t173 = true then (hatstandlaw14_HistoryTells.j0 k l0 t173 (decide ((l0.length : Int) > 200))) else (hatstandlaw14_HistoryTells.j0 k l0 t173 true))
theorem hatstandlaw14_HistoryTells.mono_l : ∀ k, (∀ y0 y1 y2, LeO (hatstandlaw14_HistoryTells.j0 k y0 y1 y2) (hatstandlaw14_HistoryTells.j0 (k + 1) y0 y1 y2))
  | 0 => fun _ _ _ r h => by simp [hatstandlaw14_HistoryTells.j0] at h
  | k + 1 => by
    have ih0 := hatstandlaw14_HistoryTells.mono_l k
    · intro y0 y1 y2
      unfold hatstandlaw14_HistoryTells.j0
      repeat' first
      | (with_reducible exact ih0 _ _ _)
      | (with_reducible exact hatstandlaw14_as.mono _ _)
      | (with_reducible exact hatstandlaw14_asCalls.mono _ _)
      | (with_reducible exact hatstandlaw14_shown.mono _)
      | (with_reducible exact hatstandref14_Calls.mono _ _)
      | (with_reducible exact hatstandref14_Check.mono _ _)
      | (with_reducible exact hatstandref14_Same.mono _ _ _)
      | (with_reducible exact LeO.refl _)
      | (with_reducible exact LeO.none _)
      | (with_reducible refine LeO.ite ?_ ?_)
      | (with_reducible refine LeO.bind ?_ (fun _ => ?_))
      | exact ih0 _ _ _
      | exact hatstandlaw14_as.mono _ _
      | exact hatstandlaw14_asCalls.mono _ _
      | exact hatstandlaw14_shown.mono _
      | exact hatstandref14_Calls.mono _ _
      | exact hatstandref14_Check.mono _ _
      | exact hatstandref14_Same.mono _ _ _
      | exact LeO.none _
      | refine LeO.ite ?_ ?_
      | refine LeO.bind ?_ (fun _ => ?_)
theorem hatstandlaw14_HistoryTells.mono : ∀ a0 k, LeO (hatstandlaw14_HistoryTells.f k a0) (hatstandlaw14_HistoryTells.f (k + 1) a0) := by
  intro a0 k
  have ih0 := hatstandlaw14_HistoryTells.mono_l k
  unfold hatstandlaw14_HistoryTells.f
  repeat' first
      | (with_reducible exact ih0 _ _ _)
      | (with_reducible exact hatstandlaw14_as.mono _ _)
      | (with_reducible exact hatstandlaw14_asCalls.mono _ _)
      | (with_reducible exact hatstandlaw14_shown.mono _)
      | (with_reducible exact hatstandref14_Calls.mono _ _)
      | (with_reducible exact hatstandref14_Check.mono _ _)
      | (with_reducible exact hatstandref14_Same.mono _ _ _)
      | (with_reducible exact LeO.refl _)
      | (with_reducible exact LeO.none _)
      | (with_reducible refine LeO.ite ?_ ?_)
      | (with_reducible refine LeO.bind ?_ (fun _ => ?_))
      | exact ih0 _ _ _
      | exact hatstandlaw14_as.mono _ _
      | exact hatstandlaw14_asCalls.mono _ _
      | exact hatstandlaw14_shown.mono _
      | exact hatstandref14_Calls.mono _ _
      | exact hatstandref14_Check.mono _ _
      | exact hatstandref14_Same.mono _ _ _
      | exact LeO.none _
      | refine LeO.ite ?_ ?_
      | refine LeO.bind ?_ (fun _ => ?_)
set_option maxHeartbeats 8000000 in
set_option maxRecDepth 100000 in
theorem hatstandlaw14_HistoryTells.calls (k : Nat) (A0 : Option Addr) (c0 : Nat) (l0 : List (S47)) (r : Bool) (w : World) (hr0 : Kd.C k47 w A0 l0.length l0) (hc0 : l0.length ≤ c0) (h : hatstandlaw14_HistoryTells.f k l0 = some r) (ht_ : r = true) :
    Calls Try.prog 3 #[.slice A0 l0.length c0] w fun e w' => e = .returned (.bool r) ∧ Below w.heap.size w w' := by
  have HR0 := Aside0.mk hr0
  have HC0 := Aside0.mk hc0
  clear hr0 hc0
  have HB := Aside0.mk (Below.refl w.heap.size w)
  have HT0 := Aside0.mk ht_
  clear ht_
  have H : ((hatstandlaw14_shown.f k).bind fun t173 => (if t173 = true then (hatstandlaw14_HistoryTells.j0 k l0 t173 (decide ((l0.length : Int) > 200))) else (hatstandlaw14_HistoryTells.j0 k l0 t173 true))) = some r := h
  clear h
  replace H := Option.bind_eq_some_iff.mp H
  obtain ⟨t173, A20, H⟩ := H
  replace H : (if t173 = true then (hatstandlaw14_HistoryTells.j0 k l0 t173 (decide ((l0.length : Int) > 200))) else (hatstandlaw14_HistoryTells.j0 k l0 t173 true)) = some r := H
  have A2 := Aside0.mk A20
  clear A20
  have HC3 := Aside0.mk H
  clear H
  go_enter Try.func3, Try.ntmps3
  go_upto_region 2 with (first | ((with_reducible refine gate_callee (f := 9) rfl ?_); refine goesL_ (some 12) rfl rfl Try.func9 (by kernel_rfl) rfl #[] rfl (by (try simp only [List.map_toArray, List.map_cons, List.map_nil]); first | done | rfl | (simp only [List.length_drop, List.length_take]; rfl)) ?_; (with_reducible refine (hatstandlaw14_shown.calls k  t173 _ A2.out).mono ?_); rintro e w4 ⟨rfl, hb⟩; refine ⟨_, rfl, ?_⟩; have n0_ := Aside0.mk (below_step (by repeat (first | (with_reducible first | exact HB.out | apply below_alloc | apply pw_below_drewN | apply below_drew1) | exact HB.out)) hb); clear HB; have HB := n0_; clear n0_; (try clear hb); (try clear hb2); (try clear hk); (try clear hi)))
  (try simp only [Act.put, List.setIfInBounds_toArray, List.set_cons_zero, List.set_cons_succ])
  go_cut [19] (fun v19 wc => ∃ (kq : Nat) (x19_2 : Bool), v19 = .bool x19_2 ∧ Aside0 (hatstandlaw14_HistoryTells.j0 kq l0 t173 x19_2 = some r) ∧ Aside0 (kq ≤ k) ∧ Aside0 (Below w.heap.size w wc))
  case first =>
    have H := HC3.out
    clear HC3
    by_cases c5 : t173 = true
    · subst c5
      have H1 : (hatstandlaw14_HistoryTells.j0 k l0 true (decide ((l0.length : Int) > 200))) = some r := by rw [if_pos rfl] at H; exact H
      clear H
      have H := H1
      clear H1
      have H' := Aside0.mk H
      clear H
      go_wp2
      go_meet
      case rel => exact ⟨_, (decide ((l0.length : Int) > 200)), (by first | rfl | (simp; done) | (simp [*]; done)), H', ⟨by first | omega | exact Nat.le_refl _⟩, ⟨by repeat (first | (with_reducible first | exact HB.out | apply below_alloc | apply pw_below_drewN | apply below_drew1) | exact HB.out)⟩⟩
    · replace c5 := Bool.eq_false_iff.mpr c5
      subst c5
      have H1 : (hatstandlaw14_HistoryTells.j0 k l0 false true) = some r := by rw [if_neg (show ¬ (false = true) by decide)] at H; exact H
      clear H
      have H := H1
      clear H1
      have H' := Aside0.mk H
      clear H
      go_wp2
      go_meet
      case rel => exact ⟨_, (true), (by first | rfl | (simp; done) | (simp [*]; done)), H', ⟨by first | omega | exact Nat.le_refl _⟩, ⟨by repeat (first | (with_reducible first | exact HB.out | apply below_alloc | apply pw_below_drewN | apply below_drew1) | exact HB.out)⟩⟩
  case rest =>
    clear HC3
    try clear p2
    try clear c3
    try clear c5
    obtain ⟨kq, x19_2, rfl, HA, HJ2, HB⟩ := hcut
    cases kq with
    | zero => exact absurd HA.out (by simp [hatstandlaw14_HistoryTells.j0])
    | succ kj2 =>
      have H := HA.out
      clear HA
      simp only [hatstandlaw14_HistoryTells.j0] at H
      by_cases c6 : x19_2 = true
      · subst c6
        have H1 : (some t173) = some r := by rw [if_pos rfl] at H; exact H
        clear H
        have H := H1
        clear H1
        obtain rfl := Option.some.inj H
        go_wp2
        go_ret
        exact ⟨by first | rfl | (simp [errW_none, errW_some] <;> rfl) | (simp [*, errW_none, errW_some] <;> rfl), by repeat (first | (with_reducible first | exact HB.out | apply below_alloc | apply pw_below_drewN | apply below_drew1) | exact HB.out)⟩
      · replace c6 := Bool.eq_false_iff.mpr c6
        subst c6
        have H1 : ((history_Check.f l0).bind fun bt174 => ((hatstandlaw14_as.f kj2 l0).bind fun t176 => ((hatstandref14_Check.f kj2 t176).bind fun bt179 => ((history_Calls.f l0).bind fun bt181 => ((hatstandlaw14_as.f kj2 l0).bind fun t185 => ((hatstandref14_Calls.f kj2 t185).bind fun bt188 => (if bt174.1 = bt179.1 then (if bt174.2 = bt179.2 then ((hatstandlaw14_asCalls.f kj2 bt181.1).bind fun t192 => ((hatstandref14_Same.f kj2 t192 bt188.1).bind fun t195 => (if t195 = true then (some (bt181.2 == bt188.2)) else (some false)))) else (some false)) else (some false)))))))) = some r := by rw [if_neg (show ¬ (false = true) by decide)] at H; exact H
        clear H
        have H := H1
        clear H1
        replace H := Option.bind_eq_some_iff.mp H
        obtain ⟨⟨t174, t175⟩, A70, H⟩ := H
        replace H : ((hatstandlaw14_as.f kj2 l0).bind fun t176 => ((hatstandref14_Check.f kj2 t176).bind fun bt179 => ((history_Calls.f l0).bind fun bt181 => ((hatstandlaw14_as.f kj2 l0).bind fun t185 => ((hatstandref14_Calls.f kj2 t185).bind fun bt188 => (if t174 = bt179.1 then (if t175 = bt179.2 then ((hatstandlaw14_asCalls.f kj2 bt181.1).bind fun t192 => ((hatstandref14_Same.f kj2 t192 bt188.1).bind fun t195 => (if t195 = true then (some (bt181.2 == bt188.2)) else (some false)))) else (some false)) else (some false))))))) = some r := H
        have A7 := Aside0.mk A70
        clear A70
        replace H := Option.bind_eq_some_iff.mp H
        obtain ⟨t176, A80, H⟩ := H
        replace H : ((hatstandref14_Check.f kj2 t176).bind fun bt179 => ((history_Calls.f l0).bind fun bt181 => ((hatstandlaw14_as.f kj2 l0).bind fun t185 => ((hatstandref14_Calls.f kj2 t185).bind fun bt188 => (if t174 = bt179.1 then (if t175 = bt179.2 then ((hatstandlaw14_asCalls.f kj2 bt181.1).bind fun t192 => ((hatstandref14_Same.f kj2 t192 bt188.1).bind fun t195 => (if t195 = true then (some (bt181.2 == bt188.2)) else (some false)))) else (some false)) else (some false)))))) = some r := H
        have A8 := Aside0.mk A80
        clear A80
        replace H := Option.bind_eq_some_iff.mp H
        obtain ⟨⟨t179, t180⟩, A90, H⟩ := H
        replace H : ((history_Calls.f l0).bind fun bt181 => ((hatstandlaw14_as.f kj2 l0).bind fun t185 => ((hatstandref14_Calls.f kj2 t185).bind fun bt188 => (if t174 = t179 then (if t175 = t180 then ((hatstandlaw14_asCalls.f kj2 bt181.1).bind fun t192 => ((hatstandref14_Same.f kj2 t192 bt188.1).bind fun t195 => (if t195 = true then (some (bt181.2 == bt188.2)) else (some false)))) else (some false)) else (some false))))) = some r := H
        have A9 := Aside0.mk A90
        clear A90
        replace H := Option.bind_eq_some_iff.mp H
        obtain ⟨⟨t181, t182⟩, A100, H⟩ := H
        replace H : ((hatstandlaw14_as.f kj2 l0).bind fun t185 => ((hatstandref14_Calls.f kj2 t185).bind fun bt188 => (if t174 = t179 then (if t175 = t180 then ((hatstandlaw14_asCalls.f kj2 t181).bind fun t192 => ((hatstandref14_Same.f kj2 t192 bt188.1).bind fun t195 => (if t195 = true then (some (t182 == bt188.2)) else (some false)))) else (some false)) else (some false)))) = some r := H
        have A10 := Aside0.mk A100
        clear A100
        replace H := Option.bind_eq_some_iff.mp H
        obtain ⟨t185, A110, H⟩ := H
        replace H : ((hatstandref14_Calls.f kj2 t185).bind fun bt188 => (if t174 = t179 then (if t175 = t180 then ((hatstandlaw14_asCalls.f kj2 t181).bind fun t192 => ((hatstandref14_Same.f kj2 t192 bt188.1).bind fun t195 => (if t195 = true then (some (t182 == bt188.2)) else (some false)))) else (some false)) else (some false))) = some r := H
        have A11 := Aside0.mk A110
        clear A110
        replace H := Option.bind_eq_some_iff.mp H
        obtain ⟨⟨t188, t189⟩, A120, H⟩ := H
        replace H : (if t174 = t179 then (if t175 = t180 then ((hatstandlaw14_asCalls.f kj2 t181).bind fun t192 => ((hatstandref14_Same.f kj2 t192 t188).bind fun t195 => (if t195 = true then (some (t182 == t189)) else (some false)))) else (some false)) else (some false)) = some r := H
        have A12 := Aside0.mk A120
        clear A120
        by_cases c13 : t174 = t179
        · rw [if_pos c13] at H
          have c13b0 : (t174 == t179) = true := beq_iff_eq.mpr c13
          have c13b1 : (t174 != t179) = false := bne_eq_false_iff_eq.mpr c13
          clear c13
          by_cases c14 : t175 = t180
          · rw [if_pos c14] at H
            have c14b0 : (t175 == t180) = true := beq_iff_eq.mpr c14
            have c14b1 : (t175 != t180) = false := bne_eq_false_iff_eq.mpr c14
            clear c14
            replace H := Option.bind_eq_some_iff.mp H
            obtain ⟨t192, A150, H⟩ := H
            replace H : ((hatstandref14_Same.f kj2 t192 t188).bind fun t195 => (if t195 = true then (some (t182 == t189)) else (some false))) = some r := H
            have A15 := Aside0.mk A150
            clear A150
            replace H := Option.bind_eq_some_iff.mp H
            obtain ⟨t195, A160, H⟩ := H
            replace H : (if t195 = true then (some (t182 == t189)) else (some false)) = some r := H
            have A16 := Aside0.mk A160
            clear A160
            by_cases c17 : t195 = true
            · subst c17
              have H1 : (some (t182 == t189)) = some r := by rw [if_pos rfl] at H; exact H
              clear H
              have H := H1
              clear H1
              obtain rfl := Option.some.inj H
              go_wp2_with (first | ((with_reducible refine gate_callee (f := 10) rfl ?_); refine goesL_ (some 23) rfl rfl Try.func10 (by kernel_rfl) rfl #[.slice A0 l0.length c0] rfl (by (try simp only [List.map_toArray, List.map_cons, List.map_nil]); first | done | rfl | (simp only [List.length_drop, List.length_take]; rfl)) ?_; (with_reducible refine (history_Check.calls _ _ l0 t174 t175 _ ?side1 ?side2 A7.out).mono ?_); (case side1 => repeat (first | exact (Kd.C_below HR0.out HB.out) | (with_reducible refine Kd.C_alloc ?_ _) | (with_reducible refine Kd.C_drewN ?_ _) | (with_reducible refine Kd.C_drew ?_))); (case side2 => exact HC0.out); rintro e w18 ⟨rfl, hb⟩; refine ⟨_, rfl, ?_⟩; have n0_ := Aside0.mk (below_step (by repeat (first | (with_reducible first | exact HB.out | apply below_alloc | apply pw_below_drewN | apply below_drew1) | exact HB.out)) hb); clear HB; have HB := n0_; clear n0_; (try clear hb); (try clear hb2); (try clear hk); (try clear hi)) | ((with_reducible refine gate_callee (f := 12) rfl ?_); refine goesL_ (some 28) rfl rfl Try.func12 (by kernel_rfl) rfl #[.slice A0 l0.length c0] rfl (by (try simp only [List.map_toArray, List.map_cons, List.map_nil]); first | done | rfl | (simp only [List.length_drop, List.length_take]; rfl)) ?_; (with_reducible refine (hatstandlaw14_as.calls kj2 _ _ l0 t176 _ ?side1 ?side2 A8.out).mono ?_); (case side1 => repeat (first | exact (Kd.C_below HR0.out HB.out) | (with_reducible refine Kd.C_alloc ?_ _) | (with_reducible refine Kd.C_drewN ?_ _) | (with_reducible refine Kd.C_drew ?_))); (case side2 => exact HC0.out); rintro e w19 ⟨v177, rfl, ho0, hb⟩; refine ⟨_, rfl, ?_⟩; have n0_ := Aside0.mk (Kd.R_lower ho0 (below_size (by repeat (first | (with_reducible first | exact HB.out | apply below_alloc | apply pw_below_drewN | apply below_drew1) | exact HB.out)))); have n1_ := Aside0.mk (below_step (by repeat (first | (with_reducible first | exact HB.out | apply below_alloc | apply pw_below_drewN | apply below_drew1) | exact HB.out)) hb); clear HB; have HO178 := n0_; have HB := n1_; clear n0_ n1_; (try clear hb); (try clear hb2); (try clear hk); (try clear hi); (try clear ho0); obtain ⟨Ao20, co20, eo20⟩ := Kd.R_slice HO178.out; subst eo20) | ((with_reducible refine gate_callee (f := 11) rfl ?_); refine goesL_ (some 29) rfl rfl Try.func11 (by kernel_rfl) rfl #[.slice Ao20 t176.length co20] rfl (by (try simp only [List.map_toArray, List.map_cons, List.map_nil]); first | done | rfl | (simp only [List.length_drop, List.length_take]; rfl)) ?_; (with_reducible refine (hatstandref14_Check.calls kj2 _ _ t176 t179 t180 _ ?side1 ?side2 A9.out).mono ?_); (case side1 => repeat (first | exact (Kd.R_reads' HO178.out).2.2 | (with_reducible refine Kd.C_alloc ?_ _) | (with_reducible refine Kd.C_drewN ?_ _) | (with_reducible refine Kd.C_drew ?_))); (case side2 => exact (Kd.R_reads' HO178.out).2.1); rintro e w21 ⟨rfl, hb⟩; refine ⟨_, rfl, ?_⟩; have n0_ := Aside0.mk (Kd.R_below (by (with_reducible repeat (first | apply Kd.R_alloc | apply Kd.R_drewN | apply Kd.R_drew)); exact HO178.out) hb); have n1_ := Aside0.mk (below_step (by repeat (first | (with_reducible first | exact HB.out | apply below_alloc | apply pw_below_drewN | apply below_drew1) | exact HB.out)) hb); clear HO178; clear HB; have HO178 := n0_; have HB := n1_; clear n0_ n1_; (try clear hb); (try clear hb2); (try clear hk); (try clear hi)) | ((with_reducible refine gate_callee (f := 13) rfl ?_); refine goesL_ (some 34) rfl rfl Try.func13 (by kernel_rfl) rfl #[.slice A0 l0.length c0] rfl (by (try simp only [List.map_toArray, List.map_cons, List.map_nil]); first | done | rfl | (simp only [List.length_drop, List.length_take]; rfl)) ?_; (with_reducible refine (history_Calls.calls _ _ l0 t181 t182 _ ?side1 ?side2 A10.out).mono ?_); (case side1 => repeat (first | exact (Kd.C_below HR0.out HB.out) | (with_reducible refine Kd.C_alloc ?_ _) | (with_reducible refine Kd.C_drewN ?_ _) | (with_reducible refine Kd.C_drew ?_))); (case side2 => exact HC0.out); rintro e w22 ⟨v183, rfl, ho0, hb⟩; refine ⟨_, rfl, ?_⟩; have n0_ := Aside0.mk (Kd.R_below (by (with_reducible repeat (first | apply Kd.R_alloc | apply Kd.R_drewN | apply Kd.R_drew)); exact HO178.out) hb); have n1_ := Aside0.mk (Kd.R_lower ho0 (below_size (by repeat (first | (with_reducible first | exact HB.out | apply below_alloc | apply pw_below_drewN | apply below_drew1) | exact HB.out)))); have n2_ := Aside0.mk (below_step (by repeat (first | (with_reducible first | exact HB.out | apply below_alloc | apply pw_below_drewN | apply below_drew1) | exact HB.out)) hb); clear HO178; clear HB; have HO178 := n0_; have HO184 := n1_; have HB := n2_; clear n0_ n1_ n2_; (try clear hb); (try clear hb2); (try clear hk); (try clear hi); (try clear ho0)) | ((with_reducible refine gate_callee (f := 12) rfl ?_); refine goesL_ (some 39) rfl rfl Try.func12 (by kernel_rfl) rfl #[.slice A0 l0.length c0] rfl (by (try simp only [List.map_toArray, List.map_cons, List.map_nil]); first | done | rfl | (simp only [List.length_drop, List.length_take]; rfl)) ?_; (with_reducible refine (hatstandlaw14_as.calls kj2 _ _ l0 t185 _ ?side1 ?side2 A11.out).mono ?_); (case side1 => repeat (first | exact (Kd.C_below HR0.out HB.out) | (with_reducible refine Kd.C_alloc ?_ _) | (with_reducible refine Kd.C_drewN ?_ _) | (with_reducible refine Kd.C_drew ?_))); (case side2 => exact HC0.out); rintro e w23 ⟨v186, rfl, ho0, hb⟩; refine ⟨_, rfl, ?_⟩; have n0_ := Aside0.mk (Kd.R_elder' (by (with_reducible repeat (first | apply Kd.R_alloc | apply Kd.R_drewN | apply Kd.R_drew)); exact HO178.out) (Kd.R_base ho0) hb); have n1_ := Aside0.mk (Kd.R_below (by (with_reducible repeat (first | apply Kd.R_alloc | apply Kd.R_drewN | apply Kd.R_drew)); exact HO184.out) hb); have n2_ := Aside0.mk (Kd.R_lower (Kd.R_new' ho0 (Kd.R_lt (by (with_reducible repeat (first | apply Kd.R_alloc | apply Kd.R_drewN | apply Kd.R_drew)); exact HO178.out))) (below_size (by repeat (first | (with_reducible first | exact HB.out | apply below_alloc | apply pw_below_drewN | apply below_drew1) | exact HB.out)))); have n3_ := Aside0.mk (below_step (by repeat (first | (with_reducible first | exact HB.out | apply below_alloc | apply pw_below_drewN | apply below_drew1) | exact HB.out)) hb); clear HO178; clear HO184; clear HB; have HO178 := n0_; have HO184 := n1_; have HO187 := n2_; have HB := n3_; clear n0_ n1_ n2_ n3_; (try clear hb); (try clear hb2); (try clear hk); (try clear hi); (try clear ho0); obtain ⟨Ao24, co24, eo24⟩ := Kd.R_slice HO187.out; subst eo24) | ((with_reducible refine gate_callee (f := 14) rfl ?_); refine goesL_ (some 40) rfl rfl Try.func14 (by kernel_rfl) rfl #[.slice Ao24 t185.length co24] rfl (by (try simp only [List.map_toArray, List.map_cons, List.map_nil]); first | done | rfl | (simp only [List.length_drop, List.length_take]; rfl)) ?_; (with_reducible refine (hatstandref14_Calls.calls kj2 _ _ t185 t188 t189 _ ?side1 ?side2 A12.out).mono ?_); (case side1 => repeat (first | exact (Kd.R_reads' HO187.out).2.2 | (with_reducible refine Kd.C_alloc ?_ _) | (with_reducible refine Kd.C_drewN ?_ _) | (with_reducible refine Kd.C_drew ?_))); (case side2 => exact (Kd.R_reads' HO187.out).2.1); rintro e w25 ⟨v190, rfl, ho0, hb⟩; refine ⟨_, rfl, ?_⟩; have n0_ := Aside0.mk (Kd.R_below (by (with_reducible repeat (first | apply Kd.R_alloc | apply Kd.R_drewN | apply Kd.R_drew)); exact HO178.out) hb); have n1_ := Aside0.mk (Kd.R_below (by (with_reducible repeat (first | apply Kd.R_alloc | apply Kd.R_drewN | apply Kd.R_drew)); exact HO184.out) hb); have n2_ := Aside0.mk (Kd.R_below (by (with_reducible repeat (first | apply Kd.R_alloc | apply Kd.R_drewN | apply Kd.R_drew)); exact HO187.out) hb); have n3_ := Aside0.mk (Kd.R_lower ho0 (below_size (by repeat (first | (with_reducible first | exact HB.out | apply below_alloc | apply pw_below_drewN | apply below_drew1) | exact HB.out)))); have n4_ := Aside0.mk (below_step (by repeat (first | (with_reducible first | exact HB.out | apply below_alloc | apply pw_below_drewN | apply below_drew1) | exact HB.out)) hb); clear HO178; clear HO184; clear HO187; clear HB; have HO178 := n0_; have HO184 := n1_; have HO187 := n2_; have HO191 := n3_; have HB := n4_; clear n0_ n1_ n2_ n3_ n4_; (try clear hb); (try clear hb2); (try clear hk); (try clear hi); (try clear ho0); obtain ⟨Ao26, co26, eo26⟩ := Kd.R_slice HO184.out; subst eo26) | (go_at_call 16; (with_reducible refine (hatstandlaw14_asCalls.calls kj2 _ _ t181 t192 _ ?side1 ?side2 A15.out).mono ?_); (case side1 => repeat (first | exact (Kd.R_reads' HO184.out).2.2 | (with_reducible refine Kd.C_alloc ?_ _) | (with_reducible refine Kd.C_drewN ?_ _) | (with_reducible refine Kd.C_drew ?_))); (case side2 => exact (Kd.R_reads' HO184.out).2.1); rintro e w27 ⟨v193, rfl, ho0, hb⟩; have n0_ := Aside0.mk (Kd.R_below (by (with_reducible repeat (first | apply Kd.R_alloc | apply Kd.R_drewN | apply Kd.R_drew)); exact HO178.out) hb); have n1_ := Aside0.mk (Kd.R_below (by (with_reducible repeat (first | apply Kd.R_alloc | apply Kd.R_drewN | apply Kd.R_drew)); exact HO184.out) hb); have n2_ := Aside0.mk (Kd.R_below (by (with_reducible repeat (first | apply Kd.R_alloc | apply Kd.R_drewN | apply Kd.R_drew)); exact HO187.out) hb); have n3_ := Aside0.mk (Kd.R_elder' (by (with_reducible repeat (first | apply Kd.R_alloc | apply Kd.R_drewN | apply Kd.R_drew)); exact HO191.out) (Kd.R_base ho0) hb); have n4_ := Aside0.mk (Kd.R_lower (Kd.R_new' ho0 (Kd.R_lt (by (with_reducible repeat (first | apply Kd.R_alloc | apply Kd.R_drewN | apply Kd.R_drew)); exact HO191.out))) (below_size (by repeat (first | (with_reducible first | exact HB.out | apply below_alloc | apply pw_below_drewN | apply below_drew1) | exact HB.out)))); have n5_ := Aside0.mk (below_step (by repeat (first | (with_reducible first | exact HB.out | apply below_alloc | apply pw_below_drewN | apply below_drew1) | exact HB.out)) hb); clear HO178; clear HO184; clear HO187; clear HO191; clear HB; have HO178 := n0_; have HO184 := n1_; have HO187 := n2_; have HO191 := n3_; have HO194 := n4_; have HB := n5_; clear n0_ n1_ n2_ n3_ n4_ n5_; (try clear hb); (try clear hb2); (try clear hk); (try clear hi); (try clear ho0); obtain ⟨Ao28, co28, eo28⟩ := Kd.R_slice HO194.out; subst eo28; obtain ⟨Ao29, co29, eo29⟩ := Kd.R_slice HO191.out; subst eo29) | (go_at_call 15; (with_reducible refine (hatstandref14_Same.calls kj2 _ _ t192 _ _ t188 true _ ?side1 ?side2 ?side3 ?side4 A16.out).mono ?_); (case side1 => repeat (first | exact (Kd.R_reads' HO194.out).2.2 | (with_reducible refine Kd.C_alloc ?_ _) | (with_reducible refine Kd.C_drewN ?_ _) | (with_reducible refine Kd.C_drew ?_))); (case side2 => exact (Kd.R_reads' HO194.out).2.1); (case side3 => repeat (first | exact (Kd.R_reads' HO191.out).2.2 | (with_reducible refine Kd.C_alloc ?_ _) | (with_reducible refine Kd.C_drewN ?_ _) | (with_reducible refine Kd.C_drew ?_))); (case side4 => exact (Kd.R_reads' HO191.out).2.1); rintro e w' ⟨rfl, ⟨nd, rfl⟩⟩))
              go_ret
              exact ⟨by first | rfl | (simp [errW_none, errW_some] <;> rfl) | (simp [*, errW_none, errW_some] <;> rfl), by repeat (first | (with_reducible first | exact HB.out | apply below_alloc | apply pw_below_drewN | apply below_drew1) | exact HB.out)⟩
            · replace c17 := Bool.eq_false_iff.mpr c17
              subst c17
              have H1 : (some false) = some r := by rw [if_neg (show ¬ (false = true) by decide)] at H; exact H
              clear H
              have H := H1
              clear H1
              exact absurd ((Option.some.inj H).trans HT0.out) (by decide)
          · rw [if_neg c14] at H
            have c14b0 : (t175 == t180) = false := beq_eq_false_iff_ne.mpr c14
            have c14b1 : (t175 != t180) = true := bne_iff_ne.mpr c14
            exact absurd ((Option.some.inj H).trans HT0.out) (by decide)
        · rw [if_neg c13] at H
          have c13b0 : (t174 == t179) = false := beq_eq_false_iff_ne.mpr c13
          have c13b1 : (t174 != t179) = true := bne_iff_ne.mpr c13
          exact absurd ((Option.some.inj H).trans HT0.out) (by decide)

/-- THE ONE PURE STATEMENT of hatstandlaw14_HistoryTells. -/
def hatstandlaw14_HistoryTells.Pure : Prop := ∀ (l0 : List (S47)), l0.length ≤ maxLen → l0.length * 32 ≤ 140737488351232 → (∀ x ∈ l0, (Lit.int .i64 x.f0).wf = true ∧ (Lit.int .u64 x.f3).wf = true ∧ (Lit.int .i64 x.f4).wf = true) → ∃ k, hatstandlaw14_HistoryTells.f k l0 = some true
theorem hatstandlaw14_HistoryTells.walk (P : hatstandlaw14_HistoryTells.Pure) (A0 : Option Addr) (c0 : Nat) (l0 : List (S47)) (w : World) (hr0 : Kd.C k47 w A0 l0.length l0) (hc0 : l0.length ≤ c0) (hm0 : l0.length ≤ maxLen) (y0 : l0.length * 32 ≤ 140737488351232) (hw0 : (∀ x ∈ l0, (Lit.int .i64 x.f0).wf = true ∧ (Lit.int .u64 x.f3).wf = true ∧ (Lit.int .i64 x.f4).wf = true)) :
    Calls Try.prog 3 #[.slice A0 l0.length c0] w fun e w' => e = .returned (.bool true) ∧ Below w.heap.size w w' := by
  obtain ⟨k, h⟩ := P l0 hm0 y0 hw0
  refine (hatstandlaw14_HistoryTells.calls k A0 c0 l0 true w hr0 hc0 h rfl).mono ?_
  rintro e w' ⟨rfl, hd⟩
  exact ⟨rfl, hd⟩

/-! ### hatstandlaw14_pick: function 18 -/
def hatstandlaw14_pick.f (a0 : Int) (a1 : Int) : Option (Int) := if a0 < 0 then (if a1 = 0 then (none) else (some (Int.tmod (wrap64 (-(wrap64 (a0 + 1)))) a1))) else (if a1 = 0 then (none) else (some (Int.tmod a0 a1)))
set_option maxHeartbeats 8000000 in
set_option maxRecDepth 100000 in
theorem hatstandlaw14_pick.calls (a0 : Int) (a1 : Int) (r : Int) (w : World) (h : hatstandlaw14_pick.f a0 a1 = some r) :
    Calls Try.prog 18 #[.int .i64 a0, .int .i64 a1] w fun e w' => e = .returned (.int .i64 r) ∧ Drawn0 w w' := by
  have H : (if a0 < 0 then (if a1 = 0 then (none) else (some (Int.tmod (wrap64 (-(wrap64 (a0 + 1)))) a1))) else (if a1 = 0 then (none) else (some (Int.tmod a0 a1)))) = some r := h
  clear h
  by_cases c3 : a0 < 0
  · rw [if_pos c3] at H
    have c3b0 : decide (a0 < 0) = true := decide_eq_true c3
    clear c3
    by_cases c4 : a1 = 0
    · rw [if_pos c4] at H
      exact absurd H (by simp)
    · rw [if_neg c4] at H
      have c4b0 : (a1 == 0) = false := beq_eq_false_iff_ne.mpr c4
      have c4b1 : (a1 != 0) = true := bne_iff_ne.mpr c4
      obtain rfl := Option.some.inj H
      go_enter Try.func18, Try.ntmps18
      go_wp2
      go_ret
      exact ⟨by first | rfl | (simp; done) | (simp [*]; done), by repeat (first | exact Drawn0.refl _ | apply Drawn0.step)⟩
  · rw [if_neg c3] at H
    have c3b0 : decide (a0 < 0) = false := decide_eq_false c3
    clear c3
    by_cases c5 : a1 = 0
    · rw [if_pos c5] at H
      exact absurd H (by simp)
    · rw [if_neg c5] at H
      have c5b0 : (a1 == 0) = false := beq_eq_false_iff_ne.mpr c5
      have c5b1 : (a1 != 0) = true := bne_iff_ne.mpr c5
      obtain rfl := Option.some.inj H
      go_enter Try.func18, Try.ntmps18
      go_wp2
      go_ret
      exact ⟨by first | rfl | (simp; done) | (simp [*]; done), by repeat (first | exact Drawn0.refl _ | apply Drawn0.step)⟩

end Go.Proofs.Ytmdjmfbinjnlcaa.P
