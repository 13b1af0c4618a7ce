/- Walks, written by a program for this claim: each Go function that the laws reach comes to what its Lean function says. -/
import Derived.Test.YtijkmjhfhnhjeaaPx0
import Derived.Test.YtijkmjhfhnhjeaaPx1
import Derived.Test.YtijkmjhfhnhjeaaPx2
namespace Go.Proofs.Ytijkmjhfhnhjeaa.P
open Go.RowKit Go.Proofs.YtijkmjhfhnhjeaaW.PrintWords Go.Proofs.YtijkmjhfhnhjeaaW.PrintLast Go.Proofs.YtijkmjhfhnhjeaaW.PrintMore
attribute [local go_sem] max2_int min2_int max_two min_two max_three min_three max_four min_four   -- for this text's walks alone
set_option linter.unusedVariables false
set_option linter.unusedSimpArgs false

/-! ### hatstandlaw9_SlotStamps: function 8 -/
mutual
def hatstandlaw9_SlotStamps.j0 : Nat → Int → List Bool → List Int → Bool → Bool → Option (Bool)
  | 0, _, _, _, _, _ => none
  | k + 1, x0, x1, x2, x7, x22 => if x22 = true then (some x7) else (hatstandlaw9_SlotStamps.l0 k x0 x1 x2 x0 0)
def hatstandlaw9_SlotStamps.l0 : Nat → Int → List Bool → List Int → Int → Int → Option (Bool)
  | 0, _, _, _, _, _ => none
  | k + 1, x0, x1, x2, x8, x9 => if x9 < (x1.length : Int) then (hatstandlaw9_SlotStamps.j2 k x0 x1 x2 x8 x9 (decide (x9 < (x2.length : Int)))) else (hatstandlaw9_SlotStamps.j2 k x0 x1 x2 x8 x9 false)
def hatstandlaw9_SlotStamps.j2 : Nat → Int → List Bool → List Int → Int → Int → Bool → Option (Bool)
  | 0, _, _, _, _, _, _ => none
  | k + 1, x0, x1, x2, x8, x9, x34 => if x34 = true then ((slot_Stamp.f x8).bind fun t163 => ((slot_Clear.f x8).bind fun t164 => ((slot_Stamp.f t164).bind fun t165 => (if t165 = ((t163 + 1) % 4294967296) then ((slot_State.f t164).bind fun t166 => (if t166 = 0 then ((slot_Index.f t164).bind fun t167 => (hatstandlaw9_SlotStamps.j3 k x0 x1 x2 t164 x9 (t167 != 0))) else (hatstandlaw9_SlotStamps.j3 k x0 x1 x2 t164 x9 true))) else (hatstandlaw9_SlotStamps.j3 k x0 x1 x2 t164 x9 true))))) else ((slot_Stamp.f x8).bind fun t161 => ((slot_Stamp.f x0).bind fun t162 => (some (((t161 - t162) % 4294967296) == ((mn (x1.length : Int) (x2.length : Int)) % 4294967296)))))
def hatstandlaw9_SlotStamps.j3 : Nat → Int → List Bool → List Int → Int → Int → Bool → Option (Bool)
  | 0, _, _, _, _, _, _ => none
  | k + 1, x0, x1, x2, x8, x9, x55 => if x55 = true then (some false) else (if 0 ≤ x9 then (if x9 < (x1.length : Int) then (if x9 < (x2.length : Int) then ((slot_Offer.f x8 (rdOf false x1 x9) (rd x2 x9)).bind fun bt170 => ((slot_Claim.f bt170.1 (!(rdOf false x1 x9)) (rd x2 x9)).bind fun bt174 => (if bt170.2 = true then (if bt174.2 = true then ((slot_Stamp.f bt170.1).bind fun t176 => ((slot_Stamp.f x8).bind fun t177 => (if t176 = t177 then ((slot_Stamp.f bt174.1).bind fun t178 => (hatstandlaw9_SlotStamps.j4 k x0 x1 x2 x9 bt170.1 bt174.1 (t178 != t177))) else (hatstandlaw9_SlotStamps.j4 k x0 x1 x2 x9 bt170.1 bt174.1 true)))) else (hatstandlaw9_SlotStamps.j4 k x0 x1 x2 x9 bt170.1 bt174.1 true)) else (hatstandlaw9_SlotStamps.j4 k x0 x1 x2 x9 bt170.1 bt174.1 true)))) else (none)) else (none)) else (none))
def hatstandlaw9_SlotStamps.j4 : Nat → Int → List Bool → List Int → Int → Int → Int → Bool → Option (Bool)
  | 0, _, _, _, _, _, _, _ => none
  | k + 1, x0, x1, x2, x9, x11, x13, x102 => if x102 = true then (some false) else (if 0 ≤ x9 then (if x9 < (x2.length : Int) then (if (Int.tmod (rd x2 x9) 2) = 0 then (hatstandlaw9_SlotStamps.l0 k x0 x1 x2 x13 (wrap64 (x9 + 1))) else (hatstandlaw9_SlotStamps.l0 k x0 x1 x2 x11 (wrap64 (x9 + 1)))) else (none)) else (none))
end
def hatstandlaw9_SlotStamps.f (k : Nat) (a0 : Int) (l1 : List Bool) (l2 : List Int) : Option (Bool) := (hatstandlaw9_shown.f).bind fun t160 => (if t160 = true then (hatstandlaw9_SlotStamps.j0 k a0 l1 l2 t160 (decide ((l1.length : Int) > 200))) else (hatstandlaw9_SlotStamps.j0 k a0 l1 l2 t160 true))
theorem hatstandlaw9_SlotStamps.mono_l : ∀ k, (∀ y0 y1 y2 y3 y4, LeO (hatstandlaw9_SlotStamps.j0 k y0 y1 y2 y3 y4) (hatstandlaw9_SlotStamps.j0 (k + 1) y0 y1 y2 y3 y4)) ∧ (∀ y0 y1 y2 y3 y4, LeO (hatstandlaw9_SlotStamps.l0 k y0 y1 y2 y3 y4) (hatstandlaw9_SlotStamps.l0 (k + 1) y0 y1 y2 y3 y4)) ∧ (∀ y0 y1 y2 y3 y4 y5, LeO (hatstandlaw9_SlotStamps.j2 k y0 y1 y2 y3 y4 y5) (hatstandlaw9_SlotStamps.j2 (k + 1) y0 y1 y2 y3 y4 y5)) ∧ (∀ y0 y1 y2 y3 y4 y5, LeO (hatstandlaw9_SlotStamps.j3 k y0 y1 y2 y3 y4 y5) (hatstandlaw9_SlotStamps.j3 (k + 1) y0 y1 y2 y3 y4 y5)) ∧ (∀ y0 y1 y2 y3 y4 y5 y6, LeO (hatstandlaw9_SlotStamps.j4 k y0 y1 y2 y3 y4 y5 y6) (hatstandlaw9_SlotStamps.j4 (k + 1) y0 y1 y2 y3 y4 y5 y6))
  | 0 => ⟨fun _ _ _ _ _ r h => by simp [hatstandlaw9_SlotStamps.j0] at h, fun _ _ _ _ _ r h => by simp [hatstandlaw9_SlotStamps.l0] at h, fun _ _ _ _ _ _ r h => by simp [hatstandlaw9_SlotStamps.j2] at h, fun _ _ _ _ _ _ r h => by simp [hatstandlaw9_SlotStamps.j3] at h, fun _ _ _ _ _ _ _ r h => by simp [hatstandlaw9_SlotStamps.j4] at h⟩
  | k + 1 => by
    obtain ⟨ih0, ih1, ih2, ih3, ih4⟩ := hatstandlaw9_SlotStamps.mono_l k
    refine ⟨?_, ?_, ?_, ?_, ?_⟩
    · intro y0 y1 y2 y3 y4
      unfold hatstandlaw9_SlotStamps.j0
      repeat' first
      | (with_reducible exact ih0 _ _ _ _ _)
      | (with_reducible exact ih1 _ _ _ _ _)
      | (with_reducible exact ih2 _ _ _ _ _ _)
      | (with_reducible exact ih3 _ _ _ _ _ _)
      | (with_reducible exact ih4 _ _ _ _ _ _ _)
      | (with_reducible exact LeO.refl _)
      | (with_reducible exact LeO.none _)
      | (with_reducible refine LeO.ite ?_ ?_)
      | (with_reducible refine LeO.bind ?_ (fun _ => ?_))
      | exact ih0 _ _ _ _ _
      | exact ih1 _ _ _ _ _
      | exact ih2 _ _ _ _ _ _
      | exact ih3 _ _ _ _ _ _
      | exact ih4 _ _ _ _ _ _ _
      | exact LeO.none _
      | refine LeO.ite ?_ ?_
      | refine LeO.bind ?_ (fun _ => ?_)
    · intro y0 y1 y2 y3 y4
      unfold hatstandlaw9_SlotStamps.l0
      repeat' first
      | (with_reducible exact ih0 _ _ _ _ _)
      | (with_reducible exact ih1 _ _ _ _ _)
      | (with_reducible exact ih2 _ _ _ _ _ _)
      | (with_reducible exact ih3 _ _ _ _ _ _)
      | (with_reducible exact ih4 _ _ _ _ _ _ _)
      | (with_reducible exact LeO.refl _)
      | (with_reducible exact LeO.none _)
      | (with_reducible refine LeO.ite ?_ ?_)
      | (with_reducible refine LeO.bind ?_ (fun _ => ?_))
      | exact ih0 _ _ _ _ _
      | exact ih1 _ _ _ _ _
      | exact ih2 _ _ _ _ _ _
      | exact ih3 _ _ _ _ _ _
      | exact ih4 _ _ _ _ _ _ _
      | exact LeO.none _
      | refine LeO.ite ?_ ?_
      | refine LeO.bind ?_ (fun _ => ?_)
    · intro y0 y1 y2 y3 y4 y5
      unfold hatstandlaw9_SlotStamps.j2
      repeat' first
      | (with_reducible exact ih0 _ _ _ _ _)
      | (with_reducible exact ih1 _ _ _ _ _)
      | (with_reducible exact ih2 _ _ _ _ _ _)
      | (with_reducible exact ih3 _ _ _ _ _ _)
      | (with_reducible exact ih4 _ _ _ _ _ _ _)
      | (with_reducible exact LeO.refl _)
      | (with_reducible exact LeO.none _)
      | (with_reducible refine LeO.ite ?_ ?_)
      | (with_reducible refine LeO.bind ?_ (fun _ => ?_))
      | exact ih0 _ _ _ _ _
      | exact ih1 _ _ _ _ _
      | exact ih2 _ _ _ _ _ _
      | exact ih3 _ _ _ _ _ _
      | exact ih4 _ _ _ _ _ _ _
      | exact LeO.none _
      | refine LeO.ite ?_ ?_
      | refine LeO.bind ?_ (fun _ => ?_)
    · intro y0 y1 y2 y3 y4 y5
      unfold hatstandlaw9_SlotStamps.j3
      repeat' first
      | (with_reducible exact ih0 _ _ _ _ _)
      | (with_reducible exact ih1 _ _ _ _ _)
      | (with_reducible exact ih2 _ _ _ _ _ _)
      | (with_reducible exact ih3 _ _ _ _ _ _)
      | (with_reducible exact ih4 _ _ _ _ _ _ _)
      | (with_reducible exact LeO.refl _)
      | (with_reducible exact LeO.none _)
      | (with_reducible refine LeO.ite ?_ ?_)
      | (with_reducible refine LeO.bind ?_ (fun _ => ?_))
      | exact ih0 _ _ _ _ _
      | exact ih1 _ _ _ _ _
      | exact ih2 _ _ _ _ _ _
      | exact ih3 _ _ _ _ _ _
      | exact ih4 _ _ _ _ _ _ _
      | exact LeO.none _
      | refine LeO.ite ?_ ?_
      | refine LeO.bind ?_ (fun _ => ?_)
    · intro y0 y1 y2 y3 y4 y5 y6
      unfold hatstandlaw9_SlotStamps.j4
      repeat' first
      | (with_reducible exact ih0 _ _ _ _ _)
      | (with_reducible exact ih1 _ _ _ _ _)
      | (with_reducible exact ih2 _ _ _ _ _ _)
      | (with_reducible exact ih3 _ _ _ _ _ _)
      | (with_reducible exact ih4 _ _ _ _ _ _ _)
      | (with_reducible exact LeO.refl _)
      | (with_reducible exact LeO.none _)
      | (with_reducible refine LeO.ite ?_ ?_)
      | (with_reducible refine LeO.bind ?_ (fun _ => ?_))
      | exact ih0 _ _ _ _ _
      | exact ih1 _ _ _ _ _
      | exact ih2 _ _ _ _ _ _
      | exact ih3 _ _ _ _ _ _
      | exact ih4 _ _ _ _ _ _ _
      | exact LeO.none _
      | refine LeO.ite ?_ ?_
      | refine LeO.bind ?_ (fun _ => ?_)
theorem hatstandlaw9_SlotStamps.mono : ∀ a0 a1 a2 k, LeO (hatstandlaw9_SlotStamps.f k a0 a1 a2) (hatstandlaw9_SlotStamps.f (k + 1) a0 a1 a2) := by
  intro a0 a1 a2 k
  obtain ⟨ih0, ih1, ih2, ih3, ih4⟩ := hatstandlaw9_SlotStamps.mono_l k
  unfold hatstandlaw9_SlotStamps.f
  repeat' first
      | (with_reducible exact ih0 _ _ _ _ _)
      | (with_reducible exact ih1 _ _ _ _ _)
      | (with_reducible exact ih2 _ _ _ _ _ _)
      | (with_reducible exact ih3 _ _ _ _ _ _)
      | (with_reducible exact ih4 _ _ _ _ _ _ _)
      | (with_reducible exact LeO.refl _)
      | (with_reducible exact LeO.none _)
      | (with_reducible refine LeO.ite ?_ ?_)
      | (with_reducible refine LeO.bind ?_ (fun _ => ?_))
      | exact ih0 _ _ _ _ _
      | exact ih1 _ _ _ _ _
      | exact ih2 _ _ _ _ _ _
      | exact ih3 _ _ _ _ _ _
      | exact ih4 _ _ _ _ _ _ _
      | exact LeO.none _
      | refine LeO.ite ?_ ?_
      | refine LeO.bind ?_ (fun _ => ?_)
set_option maxHeartbeats 8000000 in
set_option maxRecDepth 100000 in
theorem hatstandlaw9_SlotStamps.calls (k : Nat) (a0 : Int) (A1 : Option Addr) (c1 : Nat) (l1 : List Bool) (A2 : Option Addr) (c2 : Nat) (l2 : List Int) (r : Bool) (w : World) (hr1 : Kd.C Kd.bool w A1 l1.length l1) (hc1 : l1.length ≤ c1) (hr2 : Kd.C (Kd.int .u32) w A2 l2.length l2) (hc2 : l2.length ≤ c2) (h : hatstandlaw9_SlotStamps.f k a0 l1 l2 = some r) (ht_ : r = true) :
    Calls Try.prog 8 #[.int .u64 a0, .slice A1 l1.length c1, .slice A2 l2.length c2] w fun e w' => e = .returned (.bool r) ∧ Below w.heap.size w w' := by
  have HR1 := Aside0.mk hr1
  have HC1 := Aside0.mk hc1
  clear hr1 hc1
  have HR2 := Aside0.mk hr2
  have HC2 := Aside0.mk hc2
  clear hr2 hc2
  have HB := Aside0.mk (Below.refl w.heap.size w)
  have HT0 := Aside0.mk ht_
  clear ht_
  have H : ((hatstandlaw9_shown.f).bind fun t160 => (if t160 = true then (hatstandlaw9_SlotStamps.j0 k a0 l1 l2 t160 (decide ((l1.length : Int) > 200))) else (hatstandlaw9_SlotStamps.j0 k a0 l1 l2 t160 true))) = some r := h
  clear h
  replace H := Option.bind_eq_some_iff.mp H
  obtain ⟨t160, A40, H⟩ := H
  replace H : (if t160 = true then (hatstandlaw9_SlotStamps.j0 k a0 l1 l2 t160 (decide ((l1.length : Int) > 200))) else (hatstandlaw9_SlotStamps.j0 k a0 l1 l2 t160 true)) = some r := H
  have A4 := Aside0.mk A40
  clear A40
  have HC5 := Aside0.mk H
  clear H
  go_enter Try.func8, Try.ntmps8
  go_upto_region 2 with (first | (go_at_call 9; (with_reducible refine (hatstandlaw9_shown.calls  t160 _ A4.out).mono ?_); rintro e w' ⟨rfl, ⟨nd, rfl⟩⟩; (try first | exact ⟨rfl, _, World.drewN_drewN _ _ _⟩ | exact ⟨rfl, _, Eq.trans (World.drewN_drewN _ _ _) (congrArg (World.drewN _) (Nat.add_assoc _ _ _))⟩)))
  repeat (go_quiet (first | (go_at_call 9; (with_reducible refine (hatstandlaw9_shown.calls  t160 _ A4.out).mono ?_); rintro e w' ⟨rfl, ⟨nd, rfl⟩⟩; (try first | exact ⟨rfl, _, World.drewN_drewN _ _ _⟩ | exact ⟨rfl, _, Eq.trans (World.drewN_drewN _ _ _) (congrArg (World.drewN _) (Nat.add_assoc _ _ _))⟩))); go_upto_region 2 with (first | (go_at_call 9; (with_reducible refine (hatstandlaw9_shown.calls  t160 _ A4.out).mono ?_); rintro e w' ⟨rfl, ⟨nd, rfl⟩⟩; (try first | exact ⟨rfl, _, World.drewN_drewN _ _ _⟩ | exact ⟨rfl, _, Eq.trans (World.drewN_drewN _ _ _) (congrArg (World.drewN _) (Nat.add_assoc _ _ _))⟩))))
  (try simp only [Act.put, List.setIfInBounds_toArray, List.set_cons_zero, List.set_cons_succ])
  go_cut [22] (fun v22 wc => ∃ (kq : Nat) (x22_4 : Bool), v22 = .bool x22_4 ∧ Aside0 (hatstandlaw9_SlotStamps.j0 kq a0 l1 l2 t160 x22_4 = some r) ∧ Aside0 (kq ≤ k) ∧ Aside0 (Below w.heap.size w wc))
  case first =>
    have H := HC5.out
    clear HC5
    by_cases c6 : t160 = true
    · subst c6
      have H1 : (hatstandlaw9_SlotStamps.j0 k a0 l1 l2 true (decide ((l1.length : Int) > 200))) = some r := by rw [if_pos rfl] at H; exact H
      clear H
      have H := H1
      clear H1
      have H' := Aside0.mk H
      clear H
      go_wp2
      repeat (go_quiet (fail); try go_wp2)
      go_meet
      case rel => exact ⟨_, (decide ((l1.length : Int) > 200)), (by first | rfl | (simp; done) | (simp [*]; done)), H', ⟨by first | omega | exact Nat.le_refl _⟩, ⟨by repeat (first | (with_reducible first | exact HB.out | apply below_alloc | apply pw_below_drewN | apply below_drew1) | exact HB.out)⟩⟩
    · replace c6 := Bool.eq_false_iff.mpr c6
      subst c6
      have H1 : (hatstandlaw9_SlotStamps.j0 k a0 l1 l2 false true) = some r := by rw [if_neg (show ¬ (false = true) by decide)] at H; exact H
      clear H
      have H := H1
      clear H1
      have H' := Aside0.mk H
      clear H
      go_wp2
      repeat (go_quiet (fail); try go_wp2)
      go_meet
      case rel => exact ⟨_, (true), (by first | rfl | (simp; done) | (simp [*]; done)), H', ⟨by first | omega | exact Nat.le_refl _⟩, ⟨by repeat (first | (with_reducible first | exact HB.out | apply below_alloc | apply pw_below_drewN | apply below_drew1) | exact HB.out)⟩⟩
  case rest =>
    clear HC5
    try clear c1
    try clear c2
    try clear p2
    try clear c6
    obtain ⟨kq, x22_4, rfl, HA, HJ4, HB⟩ := hcut
    cases kq with
    | zero => exact absurd HA.out (by simp [hatstandlaw9_SlotStamps.j0])
    | succ kj4 =>
      have H := HA.out
      clear HA
      simp only [hatstandlaw9_SlotStamps.j0] at H
      by_cases c7 : x22_4 = true
      · subst c7
        have H1 : (some t160) = some r := by rw [if_pos rfl] at H; exact H
        clear H
        have H := H1
        clear H1
        obtain rfl := Option.some.inj H
        go_wp2
        repeat (go_quiet (fail); try go_wp2)
        go_ret
        exact ⟨by first | rfl | (simp [errW_none, errW_some] <;> rfl) | (simp [*, errW_none, errW_some] <;> rfl), by repeat (first | (with_reducible first | exact HB.out | apply below_alloc | apply pw_below_drewN | apply below_drew1) | exact HB.out)⟩
      · replace c7 := Bool.eq_false_iff.mpr c7
        subst c7
        have H1 : (hatstandlaw9_SlotStamps.l0 kj4 a0 l1 l2 a0 0) = some r := by rw [if_neg (show ¬ (false = true) by decide)] at H; exact H
        clear H
        have H := H1
        clear H1
        have H' := Aside0.mk H
        clear H
        go_wp2
        repeat (go_quiet (fail); try go_wp2)
        go_loopg [8, 9] kj4 (fun kq v8 v9 w' => ∃ (x8_2 : Int) (x9_2 : Int), v8 = .int .u64 x8_2 ∧ v9 = .int .i64 x9_2 ∧ Aside0 (hatstandlaw9_SlotStamps.l0 kq a0 l1 l2 x8_2 x9_2 = some r) ∧ Aside0 (kq ≤ kj4) ∧ Aside0 (Below w.heap.size w w'))
        case atStart => exact ⟨(a0), (0), (by first | rfl | (simp; done) | (simp [*]; done)), (by first | rfl | (simp; done) | (simp [*]; done)), H', ⟨Nat.le_refl _⟩, ⟨by repeat (first | (with_reducible first | exact HB.out | apply below_alloc | apply pw_below_drewN | apply below_drew1) | exact HB.out)⟩⟩
        case round =>
          clear H'
          try clear c1
          try clear c2
          try clear p2
          try clear c6
          try clear c7
          try clear p2
          obtain ⟨x8_2, x9_2, rfl, rfl, HA, HK2, HB⟩ := hrel
          cases gk with
          | zero => exact absurd HA.out (by simp [hatstandlaw9_SlotStamps.l0])
          | succ k2 =>
            have H := HA.out
            clear HA
            simp only [hatstandlaw9_SlotStamps.l0] at H
            have HC8 := Aside0.mk H
            clear H
            go_upto_region 6 with (fail)
            repeat (go_quiet (fail); go_upto_region 6 with (fail))
            go_cut [34] (fun v34 wc => ∃ (kq : Nat) (x34_7 : Bool), v34 = .bool x34_7 ∧ Aside0 (hatstandlaw9_SlotStamps.j2 kq a0 l1 l2 x8_2 x9_2 x34_7 = some r) ∧ Aside0 (kq ≤ k2) ∧ Aside0 (Below w.heap.size w wc))
            case first =>
              have H := HC8.out
              clear HC8
              by_cases c9 : x9_2 < (l1.length : Int)
              · rw [if_pos c9] at H
                have c9b0 : decide (x9_2 < (l1.length : Int)) = true := decide_eq_true c9
                clear c9
                (first | rw [c9b0] | (simp only [i64_w, i32_w, Go.IntKind.wrap_u32]; rw [c9b0]) | skip)
                have H' := Aside0.mk H
                clear H
                go_wp2
                repeat (go_quiet (fail); try go_wp2)
                go_meet
                case rel => exact ⟨_, (decide (x9_2 < (l2.length : Int))), (by first | rfl | (simp; done) | (simp [*]; done)), H', ⟨by have := HJ4.out; have := HK2.out; first | omega | exact Nat.le_refl _⟩, ⟨by repeat (first | (with_reducible first | exact HB.out | apply below_alloc | apply pw_below_drewN | apply below_drew1) | exact HB.out)⟩⟩
              · rw [if_neg c9] at H
                have c9b0 : decide (x9_2 < (l1.length : Int)) = false := decide_eq_false c9
                clear c9
                (first | rw [c9b0] | (simp only [i64_w, i32_w, Go.IntKind.wrap_u32]; rw [c9b0]) | skip)
                have H' := Aside0.mk H
                clear H
                go_wp2
                repeat (go_quiet (fail); try go_wp2)
                go_meet
                case rel => exact ⟨_, (false), (by first | rfl | (simp; done) | (simp [*]; done)), H', ⟨by have := HJ4.out; have := HK2.out; first | omega | exact Nat.le_refl _⟩, ⟨by repeat (first | (with_reducible first | exact HB.out | apply below_alloc | apply pw_below_drewN | apply below_drew1) | exact HB.out)⟩⟩
            case rest =>
              clear HC8
              try clear c1
              try clear c2
              try clear p2
              try clear c6
              try clear c7
              try clear c8
              try clear c9
              try clear c9b0
              try clear p2
              obtain ⟨kq, x34_7, rfl, HA, HJ7, HB⟩ := hcut
              cases kq with
              | zero => exact absurd HA.out (by simp [hatstandlaw9_SlotStamps.j2])
              | succ kj7 =>
                have H := HA.out
                clear HA
                simp only [hatstandlaw9_SlotStamps.j2] at H
                by_cases c10 : x34_7 = true
                · subst c10
                  have H1 : ((slot_Stamp.f x8_2).bind fun t163 => ((slot_Clear.f x8_2).bind fun t164 => ((slot_Stamp.f t164).bind fun t165 => (if t165 = ((t163 + 1) % 4294967296) then ((slot_State.f t164).bind fun t166 => (if t166 = 0 then ((slot_Index.f t164).bind fun t167 => (hatstandlaw9_SlotStamps.j3 kj7 a0 l1 l2 t164 x9_2 (t167 != 0))) else (hatstandlaw9_SlotStamps.j3 kj7 a0 l1 l2 t164 x9_2 true))) else (hatstandlaw9_SlotStamps.j3 kj7 a0 l1 l2 t164 x9_2 true))))) = some r := by rw [if_pos rfl] at H; exact H
                  clear H
                  have H := H1
                  clear H1
                  replace H := Option.bind_eq_some_iff.mp H
                  obtain ⟨t163, A110, H⟩ := H
                  replace H : ((slot_Clear.f x8_2).bind fun t164 => ((slot_Stamp.f t164).bind fun t165 => (if t165 = ((t163 + 1) % 4294967296) then ((slot_State.f t164).bind fun t166 => (if t166 = 0 then ((slot_Index.f t164).bind fun t167 => (hatstandlaw9_SlotStamps.j3 kj7 a0 l1 l2 t164 x9_2 (t167 != 0))) else (hatstandlaw9_SlotStamps.j3 kj7 a0 l1 l2 t164 x9_2 true))) else (hatstandlaw9_SlotStamps.j3 kj7 a0 l1 l2 t164 x9_2 true)))) = some r := H
                  have A11 := Aside0.mk A110
                  clear A110
                  replace H := Option.bind_eq_some_iff.mp H
                  obtain ⟨t164, A120, H⟩ := H
                  replace H : ((slot_Stamp.f t164).bind fun t165 => (if t165 = ((t163 + 1) % 4294967296) then ((slot_State.f t164).bind fun t166 => (if t166 = 0 then ((slot_Index.f t164).bind fun t167 => (hatstandlaw9_SlotStamps.j3 kj7 a0 l1 l2 t164 x9_2 (t167 != 0))) else (hatstandlaw9_SlotStamps.j3 kj7 a0 l1 l2 t164 x9_2 true))) else (hatstandlaw9_SlotStamps.j3 kj7 a0 l1 l2 t164 x9_2 true))) = some r := H
                  have A12 := Aside0.mk A120
                  clear A120
                  have HC13 := Aside0.mk H
                  clear H
                  go_upto_region 10 with (first | (go_at_call 14; (with_reducible refine (slot_Stamp.calls x8_2 t163 _ A11.out).mono ?_); rintro e w' ⟨rfl, ⟨nd, rfl⟩⟩; (try first | exact ⟨rfl, _, World.drewN_drewN _ _ _⟩ | exact ⟨rfl, _, Eq.trans (World.drewN_drewN _ _ _) (congrArg (World.drewN _) (Nat.add_assoc _ _ _))⟩)) | (go_at_call 25; (with_reducible refine (slot_Clear.calls x8_2 t164 _ A12.out).mono ?_); rintro e w' ⟨rfl, ⟨nd, rfl⟩⟩; (try first | exact ⟨rfl, _, World.drewN_drewN _ _ _⟩ | exact ⟨rfl, _, Eq.trans (World.drewN_drewN _ _ _) (congrArg (World.drewN _) (Nat.add_assoc _ _ _))⟩)))
                  repeat (go_quiet (first | (go_at_call 14; (with_reducible refine (slot_Stamp.calls x8_2 t163 _ A11.out).mono ?_); rintro e w' ⟨rfl, ⟨nd, rfl⟩⟩; (try first | exact ⟨rfl, _, World.drewN_drewN _ _ _⟩ | exact ⟨rfl, _, Eq.trans (World.drewN_drewN _ _ _) (congrArg (World.drewN _) (Nat.add_assoc _ _ _))⟩)) | (go_at_call 25; (with_reducible refine (slot_Clear.calls x8_2 t164 _ A12.out).mono ?_); rintro e w' ⟨rfl, ⟨nd, rfl⟩⟩; (try first | exact ⟨rfl, _, World.drewN_drewN _ _ _⟩ | exact ⟨rfl, _, Eq.trans (World.drewN_drewN _ _ _) (congrArg (World.drewN _) (Nat.add_assoc _ _ _))⟩))); go_upto_region 10 with (first | (go_at_call 14; (with_reducible refine (slot_Stamp.calls x8_2 t163 _ A11.out).mono ?_); rintro e w' ⟨rfl, ⟨nd, rfl⟩⟩; (try first | exact ⟨rfl, _, World.drewN_drewN _ _ _⟩ | exact ⟨rfl, _, Eq.trans (World.drewN_drewN _ _ _) (congrArg (World.drewN _) (Nat.add_assoc _ _ _))⟩)) | (go_at_call 25; (with_reducible refine (slot_Clear.calls x8_2 t164 _ A12.out).mono ?_); rintro e w' ⟨rfl, ⟨nd, rfl⟩⟩; (try first | exact ⟨rfl, _, World.drewN_drewN _ _ _⟩ | exact ⟨rfl, _, Eq.trans (World.drewN_drewN _ _ _) (congrArg (World.drewN _) (Nat.add_assoc _ _ _))⟩))))
                  (try simp only [Act.put, List.setIfInBounds_toArray, List.set_cons_zero, List.set_cons_succ])
                  go_cut [55] (fun v55 wc => ∃ (kq : Nat) (x55_12 : Bool), v55 = .bool x55_12 ∧ Aside0 (hatstandlaw9_SlotStamps.j3 kq a0 l1 l2 t164 x9_2 x55_12 = some r) ∧ Aside0 (kq ≤ kj7) ∧ Aside0 (Below w.heap.size w wc))
                  case first =>
                    have H := HC13.out
                    clear HC13
                    replace H := Option.bind_eq_some_iff.mp H
                    obtain ⟨t165, A140, H⟩ := H
                    replace H : (if t165 = ((t163 + 1) % 4294967296) then ((slot_State.f t164).bind fun t166 => (if t166 = 0 then ((slot_Index.f t164).bind fun t167 => (hatstandlaw9_SlotStamps.j3 kj7 a0 l1 l2 t164 x9_2 (t167 != 0))) else (hatstandlaw9_SlotStamps.j3 kj7 a0 l1 l2 t164 x9_2 true))) else (hatstandlaw9_SlotStamps.j3 kj7 a0 l1 l2 t164 x9_2 true)) = some r := H
                    have A14 := Aside0.mk A140
                    clear A140
                    by_cases c15 : t165 = ((t163 + 1) % 4294967296)
                    · rw [if_pos c15] at H
                      have c15b0 : (t165 == ((t163 + 1) % 4294967296)) = true := beq_iff_eq.mpr c15
                      have c15b1 : (t165 != ((t163 + 1) % 4294967296)) = false := bne_eq_false_iff_eq.mpr c15
                      clear c15
                      (first | rw [c15b0] | (simp only [i64_w, i32_w, Go.IntKind.wrap_u32]; rw [c15b0]) | skip)
                      replace H := Option.bind_eq_some_iff.mp H
                      obtain ⟨t166, A160, H⟩ := H
                      replace H : (if t166 = 0 then ((slot_Index.f t164).bind fun t167 => (hatstandlaw9_SlotStamps.j3 kj7 a0 l1 l2 t164 x9_2 (t167 != 0))) else (hatstandlaw9_SlotStamps.j3 kj7 a0 l1 l2 t164 x9_2 true)) = some r := H
                      have A16 := Aside0.mk A160
                      clear A160
                      by_cases c17 : t166 = 0
                      · rw [if_pos c17] at H
                        have c17b0 : (t166 == 0) = true := beq_iff_eq.mpr c17
                        have c17b1 : (t166 != 0) = false := bne_eq_false_iff_eq.mpr c17
                        clear c17
                        replace H := Option.bind_eq_some_iff.mp H
                        obtain ⟨t167, A180, H⟩ := H
                        replace H : (hatstandlaw9_SlotStamps.j3 kj7 a0 l1 l2 t164 x9_2 (t167 != 0)) = some r := H
                        have A18 := Aside0.mk A180
                        clear A180
                        have H' := Aside0.mk H
                        clear H
                        go_wp2_with (first | (go_at_call 14; (with_reducible refine (slot_Stamp.calls t164 t165 _ A14.out).mono ?_); rintro e w' ⟨rfl, ⟨nd, rfl⟩⟩; (try first | exact ⟨rfl, _, World.drewN_drewN _ _ _⟩ | exact ⟨rfl, _, Eq.trans (World.drewN_drewN _ _ _) (congrArg (World.drewN _) (Nat.add_assoc _ _ _))⟩)) | (go_at_call 12; (with_reducible refine (slot_State.calls t164 t166 _ A16.out).mono ?_); rintro e w' ⟨rfl, ⟨nd, rfl⟩⟩; (try first | exact ⟨rfl, _, World.drewN_drewN _ _ _⟩ | exact ⟨rfl, _, Eq.trans (World.drewN_drewN _ _ _) (congrArg (World.drewN _) (Nat.add_assoc _ _ _))⟩)) | (go_at_call 13; (with_reducible refine (slot_Index.calls t164 t167 _ A18.out).mono ?_); rintro e w' ⟨rfl, ⟨nd, rfl⟩⟩; (try first | exact ⟨rfl, _, World.drewN_drewN _ _ _⟩ | exact ⟨rfl, _, Eq.trans (World.drewN_drewN _ _ _) (congrArg (World.drewN _) (Nat.add_assoc _ _ _))⟩)))
                        repeat (go_quiet (first | (go_at_call 14; (with_reducible refine (slot_Stamp.calls t164 t165 _ A14.out).mono ?_); rintro e w' ⟨rfl, ⟨nd, rfl⟩⟩; (try first | exact ⟨rfl, _, World.drewN_drewN _ _ _⟩ | exact ⟨rfl, _, Eq.trans (World.drewN_drewN _ _ _) (congrArg (World.drewN _) (Nat.add_assoc _ _ _))⟩)) | (go_at_call 12; (with_reducible refine (slot_State.calls t164 t166 _ A16.out).mono ?_); rintro e w' ⟨rfl, ⟨nd, rfl⟩⟩; (try first | exact ⟨rfl, _, World.drewN_drewN _ _ _⟩ | exact ⟨rfl, _, Eq.trans (World.drewN_drewN _ _ _) (congrArg (World.drewN _) (Nat.add_assoc _ _ _))⟩)) | (go_at_call 13; (with_reducible refine (slot_Index.calls t164 t167 _ A18.out).mono ?_); rintro e w' ⟨rfl, ⟨nd, rfl⟩⟩; (try first | exact ⟨rfl, _, World.drewN_drewN _ _ _⟩ | exact ⟨rfl, _, Eq.trans (World.drewN_drewN _ _ _) (congrArg (World.drewN _) (Nat.add_assoc _ _ _))⟩))); try go_wp2_with (first | (go_at_call 14; (with_reducible refine (slot_Stamp.calls t164 t165 _ A14.out).mono ?_); rintro e w' ⟨rfl, ⟨nd, rfl⟩⟩; (try first | exact ⟨rfl, _, World.drewN_drewN _ _ _⟩ | exact ⟨rfl, _, Eq.trans (World.drewN_drewN _ _ _) (congrArg (World.drewN _) (Nat.add_assoc _ _ _))⟩)) | (go_at_call 12; (with_reducible refine (slot_State.calls t164 t166 _ A16.out).mono ?_); rintro e w' ⟨rfl, ⟨nd, rfl⟩⟩; (try first | exact ⟨rfl, _, World.drewN_drewN _ _ _⟩ | exact ⟨rfl, _, Eq.trans (World.drewN_drewN _ _ _) (congrArg (World.drewN _) (Nat.add_assoc _ _ _))⟩)) | (go_at_call 13; (with_reducible refine (slot_Index.calls t164 t167 _ A18.out).mono ?_); rintro e w' ⟨rfl, ⟨nd, rfl⟩⟩; (try first | exact ⟨rfl, _, World.drewN_drewN _ _ _⟩ | exact ⟨rfl, _, Eq.trans (World.drewN_drewN _ _ _) (congrArg (World.drewN _) (Nat.add_assoc _ _ _))⟩))))
                        go_meet
                        case rel => exact ⟨_, ((t167 != 0)), (by first | rfl | (simp; done) | (simp [*]; done)), H', ⟨by have := HJ4.out; have := HK2.out; have := HJ7.out; first | omega | exact Nat.le_refl _⟩, ⟨by repeat (first | (with_reducible first | exact HB.out | apply below_alloc | apply pw_below_drewN | apply below_drew1) | exact HB.out)⟩⟩
                      · rw [if_neg c17] at H
                        have c17b0 : (t166 == 0) = false := beq_eq_false_iff_ne.mpr c17
                        have c17b1 : (t166 != 0) = true := bne_iff_ne.mpr c17
                        have H' := Aside0.mk H
                        clear H
                        go_wp2_with (first | (go_at_call 14; (with_reducible refine (slot_Stamp.calls t164 t165 _ A14.out).mono ?_); rintro e w' ⟨rfl, ⟨nd, rfl⟩⟩; (try first | exact ⟨rfl, _, World.drewN_drewN _ _ _⟩ | exact ⟨rfl, _, Eq.trans (World.drewN_drewN _ _ _) (congrArg (World.drewN _) (Nat.add_assoc _ _ _))⟩)) | (go_at_call 12; (with_reducible refine (slot_State.calls t164 t166 _ A16.out).mono ?_); rintro e w' ⟨rfl, ⟨nd, rfl⟩⟩; (try first | exact ⟨rfl, _, World.drewN_drewN _ _ _⟩ | exact ⟨rfl, _, Eq.trans (World.drewN_drewN _ _ _) (congrArg (World.drewN _) (Nat.add_assoc _ _ _))⟩)))
                        repeat (go_quiet (first | (go_at_call 14; (with_reducible refine (slot_Stamp.calls t164 t165 _ A14.out).mono ?_); rintro e w' ⟨rfl, ⟨nd, rfl⟩⟩; (try first | exact ⟨rfl, _, World.drewN_drewN _ _ _⟩ | exact ⟨rfl, _, Eq.trans (World.drewN_drewN _ _ _) (congrArg (World.drewN _) (Nat.add_assoc _ _ _))⟩)) | (go_at_call 12; (with_reducible refine (slot_State.calls t164 t166 _ A16.out).mono ?_); rintro e w' ⟨rfl, ⟨nd, rfl⟩⟩; (try first | exact ⟨rfl, _, World.drewN_drewN _ _ _⟩ | exact ⟨rfl, _, Eq.trans (World.drewN_drewN _ _ _) (congrArg (World.drewN _) (Nat.add_assoc _ _ _))⟩))); try go_wp2_with (first | (go_at_call 14; (with_reducible refine (slot_Stamp.calls t164 t165 _ A14.out).mono ?_); rintro e w' ⟨rfl, ⟨nd, rfl⟩⟩; (try first | exact ⟨rfl, _, World.drewN_drewN _ _ _⟩ | exact ⟨rfl, _, Eq.trans (World.drewN_drewN _ _ _) (congrArg (World.drewN _) (Nat.add_assoc _ _ _))⟩)) | (go_at_call 12; (with_reducible refine (slot_State.calls t164 t166 _ A16.out).mono ?_); rintro e w' ⟨rfl, ⟨nd, rfl⟩⟩; (try first | exact ⟨rfl, _, World.drewN_drewN _ _ _⟩ | exact ⟨rfl, _, Eq.trans (World.drewN_drewN _ _ _) (congrArg (World.drewN _) (Nat.add_assoc _ _ _))⟩))))
                        go_meet
                        case rel => exact ⟨_, (true), (by first | rfl | (simp; done) | (simp [*]; done)), H', ⟨by have := HJ4.out; have := HK2.out; have := HJ7.out; first | omega | exact Nat.le_refl _⟩, ⟨by repeat (first | (with_reducible first | exact HB.out | apply below_alloc | apply pw_below_drewN | apply below_drew1) | exact HB.out)⟩⟩
                    · rw [if_neg c15] at H
                      have c15b0 : (t165 == ((t163 + 1) % 4294967296)) = false := beq_eq_false_iff_ne.mpr c15
                      have c15b1 : (t165 != ((t163 + 1) % 4294967296)) = true := bne_iff_ne.mpr c15
                      (first | rw [c15b0] | (simp only [i64_w, i32_w, Go.IntKind.wrap_u32]; rw [c15b0]) | skip)
                      have H' := Aside0.mk H
                      clear H
                      go_wp2_with (first | (go_at_call 14; (with_reducible refine (slot_Stamp.calls t164 t165 _ A14.out).mono ?_); rintro e w' ⟨rfl, ⟨nd, rfl⟩⟩; (try first | exact ⟨rfl, _, World.drewN_drewN _ _ _⟩ | exact ⟨rfl, _, Eq.trans (World.drewN_drewN _ _ _) (congrArg (World.drewN _) (Nat.add_assoc _ _ _))⟩)))
                      repeat (go_quiet (first | (go_at_call 14; (with_reducible refine (slot_Stamp.calls t164 t165 _ A14.out).mono ?_); rintro e w' ⟨rfl, ⟨nd, rfl⟩⟩; (try first | exact ⟨rfl, _, World.drewN_drewN _ _ _⟩ | exact ⟨rfl, _, Eq.trans (World.drewN_drewN _ _ _) (congrArg (World.drewN _) (Nat.add_assoc _ _ _))⟩))); try go_wp2_with (first | (go_at_call 14; (with_reducible refine (slot_Stamp.calls t164 t165 _ A14.out).mono ?_); rintro e w' ⟨rfl, ⟨nd, rfl⟩⟩; (try first | exact ⟨rfl, _, World.drewN_drewN _ _ _⟩ | exact ⟨rfl, _, Eq.trans (World.drewN_drewN _ _ _) (congrArg (World.drewN _) (Nat.add_assoc _ _ _))⟩))))
                      go_meet
                      case rel => exact ⟨_, (true), (by first | rfl | (simp; done) | (simp [*]; done)), H', ⟨by have := HJ4.out; have := HK2.out; have := HJ7.out; first | omega | exact Nat.le_refl _⟩, ⟨by repeat (first | (with_reducible first | exact HB.out | apply below_alloc | apply pw_below_drewN | apply below_drew1) | exact HB.out)⟩⟩
                  case rest =>
                    clear HC13
                    try clear c1
                    try clear c2
                    try clear p2
                    try clear c6
                    try clear c7
                    try clear c8
                    try clear c9
                    try clear c9b0
                    try clear c10
                    try clear c15
                    try clear c15b0
                    try clear c15b1
                    try clear c17
                    try clear c17b0
                    try clear c17b1
                    try clear p2
                    obtain ⟨kq, x55_12, rfl, HA, HJ12, HB⟩ := hcut
                    cases kq with
                    | zero => exact absurd HA.out (by simp [hatstandlaw9_SlotStamps.j3])
                    | succ kj12 =>
                      have H := HA.out
                      clear HA
                      simp only [hatstandlaw9_SlotStamps.j3] at H
                      by_cases c19 : x55_12 = true
                      · subst c19
                        have H1 : (some false) = some r := by rw [if_pos rfl] at H; exact H
                        clear H
                        have H := H1
                        clear H1
                        exact absurd ((Option.some.inj H).trans HT0.out) (by decide)
                      · replace c19 := Bool.eq_false_iff.mpr c19
                        subst c19
                        have H1 : (if 0 ≤ x9_2 then (if x9_2 < (l1.length : Int) then (if x9_2 < (l2.length : Int) then ((slot_Offer.f t164 (rdOf false l1 x9_2) (rd l2 x9_2)).bind fun bt170 => ((slot_Claim.f bt170.1 (!(rdOf false l1 x9_2)) (rd l2 x9_2)).bind fun bt174 => (if bt170.2 = true then (if bt174.2 = true then ((slot_Stamp.f bt170.1).bind fun t176 => ((slot_Stamp.f t164).bind fun t177 => (if t176 = t177 then ((slot_Stamp.f bt174.1).bind fun t178 => (hatstandlaw9_SlotStamps.j4 kj12 a0 l1 l2 x9_2 bt170.1 bt174.1 (t178 != t177))) else (hatstandlaw9_SlotStamps.j4 kj12 a0 l1 l2 x9_2 bt170.1 bt174.1 true)))) else (hatstandlaw9_SlotStamps.j4 kj12 a0 l1 l2 x9_2 bt170.1 bt174.1 true)) else (hatstandlaw9_SlotStamps.j4 kj12 a0 l1 l2 x9_2 bt170.1 bt174.1 true)))) else (none)) else (none)) else (none)) = some r := by rw [if_neg (show ¬ (false = true) by decide)] at H; exact H
                        clear H
                        have H := H1
                        clear H1
                        by_cases c20 : 0 ≤ x9_2
                        · rw [if_pos c20] at H
                          have c20b0 : decide (0 ≤ x9_2) = true := decide_eq_true c20
                          clear c20
                          by_cases c21 : x9_2 < (l1.length : Int)
                          · rw [if_pos c21] at H
                            have c21b0 : decide (x9_2 < (l1.length : Int)) = true := decide_eq_true c21
                            clear c21
                            by_cases c22 : x9_2 < (l2.length : Int)
                            · rw [if_pos c22] at H
                              have c22b0 : decide (x9_2 < (l2.length : Int)) = true := decide_eq_true c22
                              clear c22
                              replace H := Option.bind_eq_some_iff.mp H
                              obtain ⟨⟨t170, t171⟩, A230, H⟩ := H
                              replace H : ((slot_Claim.f t170 (!(rdOf false l1 x9_2)) (rd l2 x9_2)).bind fun bt174 => (if t171 = true then (if bt174.2 = true then ((slot_Stamp.f t170).bind fun t176 => ((slot_Stamp.f t164).bind fun t177 => (if t176 = t177 then ((slot_Stamp.f bt174.1).bind fun t178 => (hatstandlaw9_SlotStamps.j4 kj12 a0 l1 l2 x9_2 t170 bt174.1 (t178 != t177))) else (hatstandlaw9_SlotStamps.j4 kj12 a0 l1 l2 x9_2 t170 bt174.1 true)))) else (hatstandlaw9_SlotStamps.j4 kj12 a0 l1 l2 x9_2 t170 bt174.1 true)) else (hatstandlaw9_SlotStamps.j4 kj12 a0 l1 l2 x9_2 t170 bt174.1 true))) = some r := H
                              have A23 := Aside0.mk A230
                              clear A230
                              replace H := Option.bind_eq_some_iff.mp H
                              obtain ⟨⟨t174, t175⟩, A240, H⟩ := H
                              replace H : (if t171 = true then (if t175 = true then ((slot_Stamp.f t170).bind fun t176 => ((slot_Stamp.f t164).bind fun t177 => (if t176 = t177 then ((slot_Stamp.f t174).bind fun t178 => (hatstandlaw9_SlotStamps.j4 kj12 a0 l1 l2 x9_2 t170 t174 (t178 != t177))) else (hatstandlaw9_SlotStamps.j4 kj12 a0 l1 l2 x9_2 t170 t174 true)))) else (hatstandlaw9_SlotStamps.j4 kj12 a0 l1 l2 x9_2 t170 t174 true)) else (hatstandlaw9_SlotStamps.j4 kj12 a0 l1 l2 x9_2 t170 t174 true)) = some r := H
                              have A24 := Aside0.mk A240
                              clear A240
                              have HC25 := Aside0.mk H
                              clear H
                              have p168 : 0 ≤ (x9_2 : Int) := of_decide_eq_true (by first | (with_reducible assumption) | assumption)
                              have q168 : x9_2 < (l1.length : Int) := of_decide_eq_true (by first | (with_reducible assumption) | assumption)
                              obtain ⟨ad168, e168, hx168_0⟩ := Kd.at_bool HR1.out x9_2 p168 q168
                              cases e168
                              replace hx168_0 := (HB.out.cell (World.block_lt_of_cell? w _ hx168_0)).trans hx168_0
                              replace p168 := eq_true p168
                              replace q168 := eq_true q168
                              have p169 : 0 ≤ (x9_2 : Int) := of_decide_eq_true (by first | (with_reducible assumption) | assumption)
                              have q169 : x9_2 < (l2.length : Int) := of_decide_eq_true (by first | (with_reducible assumption) | assumption)
                              obtain ⟨ad169, e169, hx169_0⟩ := Kd.at_int HR2.out x9_2 p169 q169
                              cases e169
                              replace hx169_0 := (HB.out.cell (World.block_lt_of_cell? w _ hx169_0)).trans hx169_0
                              replace p169 := eq_true p169
                              replace q169 := eq_true q169
                              go_upto_region 14 with (first | (go_at_call 15; (with_reducible refine (slot_Offer.calls t164 (rdOf false l1 x9_2) (rd l2 x9_2) t170 t171 _ A23.out).mono ?_); rintro e w' ⟨rfl, ⟨nd, rfl⟩⟩; (try first | exact ⟨rfl, _, World.drewN_drewN _ _ _⟩ | exact ⟨rfl, _, Eq.trans (World.drewN_drewN _ _ _) (congrArg (World.drewN _) (Nat.add_assoc _ _ _))⟩); have p172 : 0 ≤ (x9_2 : Int) := of_decide_eq_true (by first | (with_reducible assumption) | assumption); have q172 : x9_2 < (l1.length : Int) := of_decide_eq_true (by first | (with_reducible assumption) | assumption); obtain ⟨ad172, e172, hx172_0⟩ := Kd.at_bool HR1.out x9_2 p172 q172; obtain rfl : ad168 = ad172 := (by injection e172); replace hx172_0 := (HB.out.cell (World.block_lt_of_cell? w _ hx172_0)).trans hx172_0; replace p172 := eq_true p172; replace q172 := eq_true q172; have p173 : 0 ≤ (x9_2 : Int) := of_decide_eq_true (by first | (with_reducible assumption) | assumption); have q173 : x9_2 < (l2.length : Int) := of_decide_eq_true (by first | (with_reducible assumption) | assumption); obtain ⟨ad173, e173, hx173_0⟩ := Kd.at_int HR2.out x9_2 p173 q173; obtain rfl : ad169 = ad173 := (by injection e173); replace hx173_0 := (HB.out.cell (World.block_lt_of_cell? w _ hx173_0)).trans hx173_0; replace p173 := eq_true p173; replace q173 := eq_true q173) | (go_at_call 16; (with_reducible refine (slot_Claim.calls t170 (!(rdOf false l1 x9_2)) (rd l2 x9_2) t174 t175 _ A24.out).mono ?_); rintro e w' ⟨rfl, ⟨nd, rfl⟩⟩; (try first | exact ⟨rfl, _, World.drewN_drewN _ _ _⟩ | exact ⟨rfl, _, Eq.trans (World.drewN_drewN _ _ _) (congrArg (World.drewN _) (Nat.add_assoc _ _ _))⟩)))
                              repeat (go_quiet (first | (go_at_call 15; (with_reducible refine (slot_Offer.calls t164 (rdOf false l1 x9_2) (rd l2 x9_2) t170 t171 _ A23.out).mono ?_); rintro e w' ⟨rfl, ⟨nd, rfl⟩⟩; (try first | exact ⟨rfl, _, World.drewN_drewN _ _ _⟩ | exact ⟨rfl, _, Eq.trans (World.drewN_drewN _ _ _) (congrArg (World.drewN _) (Nat.add_assoc _ _ _))⟩); have p172 : 0 ≤ (x9_2 : Int) := of_decide_eq_true (by first | (with_reducible assumption) | assumption); have q172 : x9_2 < (l1.length : Int) := of_decide_eq_true (by first | (with_reducible assumption) | assumption); obtain ⟨ad172, e172, hx172_0⟩ := Kd.at_bool HR1.out x9_2 p172 q172; obtain rfl : ad168 = ad172 := (by injection e172); replace hx172_0 := (HB.out.cell (World.block_lt_of_cell? w _ hx172_0)).trans hx172_0; replace p172 := eq_true p172; replace q172 := eq_true q172; have p173 : 0 ≤ (x9_2 : Int) := of_decide_eq_true (by first | (with_reducible assumption) | assumption); have q173 : x9_2 < (l2.length : Int) := of_decide_eq_true (by first | (with_reducible assumption) | assumption); obtain ⟨ad173, e173, hx173_0⟩ := Kd.at_int HR2.out x9_2 p173 q173; obtain rfl : ad169 = ad173 := (by injection e173); replace hx173_0 := (HB.out.cell (World.block_lt_of_cell? w _ hx173_0)).trans hx173_0; replace p173 := eq_true p173; replace q173 := eq_true q173) | (go_at_call 16; (with_reducible refine (slot_Claim.calls t170 (!(rdOf false l1 x9_2)) (rd l2 x9_2) t174 t175 _ A24.out).mono ?_); rintro e w' ⟨rfl, ⟨nd, rfl⟩⟩; (try first | exact ⟨rfl, _, World.drewN_drewN _ _ _⟩ | exact ⟨rfl, _, Eq.trans (World.drewN_drewN _ _ _) (congrArg (World.drewN _) (Nat.add_assoc _ _ _))⟩))); go_upto_region 14 with (first | (go_at_call 15; (with_reducible refine (slot_Offer.calls t164 (rdOf false l1 x9_2) (rd l2 x9_2) t170 t171 _ A23.out).mono ?_); rintro e w' ⟨rfl, ⟨nd, rfl⟩⟩; (try first | exact ⟨rfl, _, World.drewN_drewN _ _ _⟩ | exact ⟨rfl, _, Eq.trans (World.drewN_drewN _ _ _) (congrArg (World.drewN _) (Nat.add_assoc _ _ _))⟩); have p172 : 0 ≤ (x9_2 : Int) := of_decide_eq_true (by first | (with_reducible assumption) | assumption); have q172 : x9_2 < (l1.length : Int) := of_decide_eq_true (by first | (with_reducible assumption) | assumption); obtain ⟨ad172, e172, hx172_0⟩ := Kd.at_bool HR1.out x9_2 p172 q172; obtain rfl : ad168 = ad172 := (by injection e172); replace hx172_0 := (HB.out.cell (World.block_lt_of_cell? w _ hx172_0)).trans hx172_0; replace p172 := eq_true p172; replace q172 := eq_true q172; have p173 : 0 ≤ (x9_2 : Int) := of_decide_eq_true (by first | (with_reducible assumption) | assumption); have q173 : x9_2 < (l2.length : Int) := of_decide_eq_true (by first | (with_reducible assumption) | assumption); obtain ⟨ad173, e173, hx173_0⟩ := Kd.at_int HR2.out x9_2 p173 q173; obtain rfl : ad169 = ad173 := (by injection e173); replace hx173_0 := (HB.out.cell (World.block_lt_of_cell? w _ hx173_0)).trans hx173_0; replace p173 := eq_true p173; replace q173 := eq_true q173) | (go_at_call 16; (with_reducible refine (slot_Claim.calls t170 (!(rdOf false l1 x9_2)) (rd l2 x9_2) t174 t175 _ A24.out).mono ?_); rintro e w' ⟨rfl, ⟨nd, rfl⟩⟩; (try first | exact ⟨rfl, _, World.drewN_drewN _ _ _⟩ | exact ⟨rfl, _, Eq.trans (World.drewN_drewN _ _ _) (congrArg (World.drewN _) (Nat.add_assoc _ _ _))⟩))))
                              (try simp only [Act.put, List.setIfInBounds_toArray, List.set_cons_zero, List.set_cons_succ])
                              go_cut [102] (fun v102 wc => ∃ (kq : Nat) (x102_24 : Bool), v102 = .bool x102_24 ∧ Aside0 (hatstandlaw9_SlotStamps.j4 kq a0 l1 l2 x9_2 t170 t174 x102_24 = some r) ∧ Aside0 (kq ≤ kj12) ∧ Aside0 (Below w.heap.size w wc))
                              case first =>
                                have H := HC25.out
                                clear HC25
                                by_cases c26 : t171 = true
                                · subst c26
                                  have H1 : (if t175 = true then ((slot_Stamp.f t170).bind fun t176 => ((slot_Stamp.f t164).bind fun t177 => (if t176 = t177 then ((slot_Stamp.f t174).bind fun t178 => (hatstandlaw9_SlotStamps.j4 kj12 a0 l1 l2 x9_2 t170 t174 (t178 != t177))) else (hatstandlaw9_SlotStamps.j4 kj12 a0 l1 l2 x9_2 t170 t174 true)))) else (hatstandlaw9_SlotStamps.j4 kj12 a0 l1 l2 x9_2 t170 t174 true)) = some r := by rw [if_pos rfl] at H; exact H
                                  clear H
                                  have H := H1
                                  clear H1
                                  by_cases c27 : t175 = true
                                  · subst c27
                                    have H1 : ((slot_Stamp.f t170).bind fun t176 => ((slot_Stamp.f t164).bind fun t177 => (if t176 = t177 then ((slot_Stamp.f t174).bind fun t178 => (hatstandlaw9_SlotStamps.j4 kj12 a0 l1 l2 x9_2 t170 t174 (t178 != t177))) else (hatstandlaw9_SlotStamps.j4 kj12 a0 l1 l2 x9_2 t170 t174 true)))) = some r := by rw [if_pos rfl] at H; exact H
                                    clear H
                                    have H := H1
                                    clear H1
                                    replace H := Option.bind_eq_some_iff.mp H
                                    obtain ⟨t176, A280, H⟩ := H
                                    replace H : ((slot_Stamp.f t164).bind fun t177 => (if t176 = t177 then ((slot_Stamp.f t174).bind fun t178 => (hatstandlaw9_SlotStamps.j4 kj12 a0 l1 l2 x9_2 t170 t174 (t178 != t177))) else (hatstandlaw9_SlotStamps.j4 kj12 a0 l1 l2 x9_2 t170 t174 true))) = some r := H
                                    have A28 := Aside0.mk A280
                                    clear A280
                                    replace H := Option.bind_eq_some_iff.mp H
                                    obtain ⟨t177, A290, H⟩ := H
                                    replace H : (if t176 = t177 then ((slot_Stamp.f t174).bind fun t178 => (hatstandlaw9_SlotStamps.j4 kj12 a0 l1 l2 x9_2 t170 t174 (t178 != t177))) else (hatstandlaw9_SlotStamps.j4 kj12 a0 l1 l2 x9_2 t170 t174 true)) = some r := H
                                    have A29 := Aside0.mk A290
                                    clear A290
                                    by_cases c30 : t176 = t177
                                    · rw [if_pos c30] at H
                                      have c30b0 : (t176 == t177) = true := beq_iff_eq.mpr c30
                                      have c30b1 : (t176 != t177) = false := bne_eq_false_iff_eq.mpr c30
                                      clear c30
                                      (first | rw [c30b0] | (simp only [i64_w, i32_w, Go.IntKind.wrap_u32]; rw [c30b0]) | skip)
                                      replace H := Option.bind_eq_some_iff.mp H
                                      obtain ⟨t178, A310, H⟩ := H
                                      replace H : (hatstandlaw9_SlotStamps.j4 kj12 a0 l1 l2 x9_2 t170 t174 (t178 != t177)) = some r := H
                                      have A31 := Aside0.mk A310
                                      clear A310
                                      have A32 := A29
                                      have H' := Aside0.mk H
                                      clear H
                                      go_wp2_with (first | (go_at_call 14; (with_reducible refine (slot_Stamp.calls t170 t176 _ A28.out).mono ?_); rintro e w' ⟨rfl, ⟨nd, rfl⟩⟩; (try first | exact ⟨rfl, _, World.drewN_drewN _ _ _⟩ | exact ⟨rfl, _, Eq.trans (World.drewN_drewN _ _ _) (congrArg (World.drewN _) (Nat.add_assoc _ _ _))⟩)) | (go_at_call 14; (with_reducible refine (slot_Stamp.calls t164 t177 _ A29.out).mono ?_); rintro e w' ⟨rfl, ⟨nd, rfl⟩⟩; (try first | exact ⟨rfl, _, World.drewN_drewN _ _ _⟩ | exact ⟨rfl, _, Eq.trans (World.drewN_drewN _ _ _) (congrArg (World.drewN _) (Nat.add_assoc _ _ _))⟩)) | (go_at_call 14; (with_reducible refine (slot_Stamp.calls t174 t178 _ A31.out).mono ?_); rintro e w' ⟨rfl, ⟨nd, rfl⟩⟩; (try first | exact ⟨rfl, _, World.drewN_drewN _ _ _⟩ | exact ⟨rfl, _, Eq.trans (World.drewN_drewN _ _ _) (congrArg (World.drewN _) (Nat.add_assoc _ _ _))⟩)) | (go_at_call 14; (with_reducible refine (slot_Stamp.calls t164 t177 _ A32.out).mono ?_); rintro e w' ⟨rfl, ⟨nd, rfl⟩⟩; (try first | exact ⟨rfl, _, World.drewN_drewN _ _ _⟩ | exact ⟨rfl, _, Eq.trans (World.drewN_drewN _ _ _) (congrArg (World.drewN _) (Nat.add_assoc _ _ _))⟩)))
                                      repeat (go_quiet (first | (go_at_call 14; (with_reducible refine (slot_Stamp.calls t170 t176 _ A28.out).mono ?_); rintro e w' ⟨rfl, ⟨nd, rfl⟩⟩; (try first | exact ⟨rfl, _, World.drewN_drewN _ _ _⟩ | exact ⟨rfl, _, Eq.trans (World.drewN_drewN _ _ _) (congrArg (World.drewN _) (Nat.add_assoc _ _ _))⟩)) | (go_at_call 14; (with_reducible refine (slot_Stamp.calls t164 t177 _ A29.out).mono ?_); rintro e w' ⟨rfl, ⟨nd, rfl⟩⟩; (try first | exact ⟨rfl, _, World.drewN_drewN _ _ _⟩ | exact ⟨rfl, _, Eq.trans (World.drewN_drewN _ _ _) (congrArg (World.drewN _) (Nat.add_assoc _ _ _))⟩)) | (go_at_call 14; (with_reducible refine (slot_Stamp.calls t174 t178 _ A31.out).mono ?_); rintro e w' ⟨rfl, ⟨nd, rfl⟩⟩; (try first | exact ⟨rfl, _, World.drewN_drewN _ _ _⟩ | exact ⟨rfl, _, Eq.trans (World.drewN_drewN _ _ _) (congrArg (World.drewN _) (Nat.add_assoc _ _ _))⟩)) | (go_at_call 14; (with_reducible refine (slot_Stamp.calls t164 t177 _ A32.out).mono ?_); rintro e w' ⟨rfl, ⟨nd, rfl⟩⟩; (try first | exact ⟨rfl, _, World.drewN_drewN _ _ _⟩ | exact ⟨rfl, _, Eq.trans (World.drewN_drewN _ _ _) (congrArg (World.drewN _) (Nat.add_assoc _ _ _))⟩))); try go_wp2_with (first | (go_at_call 14; (with_reducible refine (slot_Stamp.calls t170 t176 _ A28.out).mono ?_); rintro e w' ⟨rfl, ⟨nd, rfl⟩⟩; (try first | exact ⟨rfl, _, World.drewN_drewN _ _ _⟩ | exact ⟨rfl, _, Eq.trans (World.drewN_drewN _ _ _) (congrArg (World.drewN _) (Nat.add_assoc _ _ _))⟩)) | (go_at_call 14; (with_reducible refine (slot_Stamp.calls t164 t177 _ A29.out).mono ?_); rintro e w' ⟨rfl, ⟨nd, rfl⟩⟩; (try first | exact ⟨rfl, _, World.drewN_drewN _ _ _⟩ | exact ⟨rfl, _, Eq.trans (World.drewN_drewN _ _ _) (congrArg (World.drewN _) (Nat.add_assoc _ _ _))⟩)) | (go_at_call 14; (with_reducible refine (slot_Stamp.calls t174 t178 _ A31.out).mono ?_); rintro e w' ⟨rfl, ⟨nd, rfl⟩⟩; (try first | exact ⟨rfl, _, World.drewN_drewN _ _ _⟩ | exact ⟨rfl, _, Eq.trans (World.drewN_drewN _ _ _) (congrArg (World.drewN _) (Nat.add_assoc _ _ _))⟩)) | (go_at_call 14; (with_reducible refine (slot_Stamp.calls t164 t177 _ A32.out).mono ?_); rintro e w' ⟨rfl, ⟨nd, rfl⟩⟩; (try first | exact ⟨rfl, _, World.drewN_drewN _ _ _⟩ | exact ⟨rfl, _, Eq.trans (World.drewN_drewN _ _ _) (congrArg (World.drewN _) (Nat.add_assoc _ _ _))⟩))))
                                      go_meet
                                      case rel => exact ⟨_, ((t178 != t177)), (by first | rfl | (simp; done) | (simp [*]; done)), H', ⟨by have := HJ4.out; have := HK2.out; have := HJ7.out; have := HJ12.out; first | omega | exact Nat.le_refl _⟩, ⟨by repeat (first | (with_reducible first | exact HB.out | apply below_alloc | apply pw_below_drewN | apply below_drew1) | exact HB.out)⟩⟩
                                    · rw [if_neg c30] at H
                                      have c30b0 : (t176 == t177) = false := beq_eq_false_iff_ne.mpr c30
                                      have c30b1 : (t176 != t177) = true := bne_iff_ne.mpr c30
                                      (first | rw [c30b0] | (simp only [i64_w, i32_w, Go.IntKind.wrap_u32]; rw [c30b0]) | skip)
                                      have H' := Aside0.mk H
                                      clear H
                                      go_wp2_with (first | (go_at_call 14; (with_reducible refine (slot_Stamp.calls t170 t176 _ A28.out).mono ?_); rintro e w' ⟨rfl, ⟨nd, rfl⟩⟩; (try first | exact ⟨rfl, _, World.drewN_drewN _ _ _⟩ | exact ⟨rfl, _, Eq.trans (World.drewN_drewN _ _ _) (congrArg (World.drewN _) (Nat.add_assoc _ _ _))⟩)) | (go_at_call 14; (with_reducible refine (slot_Stamp.calls t164 t177 _ A29.out).mono ?_); rintro e w' ⟨rfl, ⟨nd, rfl⟩⟩; (try first | exact ⟨rfl, _, World.drewN_drewN _ _ _⟩ | exact ⟨rfl, _, Eq.trans (World.drewN_drewN _ _ _) (congrArg (World.drewN _) (Nat.add_assoc _ _ _))⟩)))
                                      repeat (go_quiet (first | (go_at_call 14; (with_reducible refine (slot_Stamp.calls t170 t176 _ A28.out).mono ?_); rintro e w' ⟨rfl, ⟨nd, rfl⟩⟩; (try first | exact ⟨rfl, _, World.drewN_drewN _ _ _⟩ | exact ⟨rfl, _, Eq.trans (World.drewN_drewN _ _ _) (congrArg (World.drewN _) (Nat.add_assoc _ _ _))⟩)) | (go_at_call 14; (with_reducible refine (slot_Stamp.calls t164 t177 _ A29.out).mono ?_); rintro e w' ⟨rfl, ⟨nd, rfl⟩⟩; (try first | exact ⟨rfl, _, World.drewN_drewN _ _ _⟩ | exact ⟨rfl, _, Eq.trans (World.drewN_drewN _ _ _) (congrArg (World.drewN _) (Nat.add_assoc _ _ _))⟩))); try go_wp2_with (first | (go_at_call 14; (with_reducible refine (slot_Stamp.calls t170 t176 _ A28.out).mono ?_); rintro e w' ⟨rfl, ⟨nd, rfl⟩⟩; (try first | exact ⟨rfl, _, World.drewN_drewN _ _ _⟩ | exact ⟨rfl, _, Eq.trans (World.drewN_drewN _ _ _) (congrArg (World.drewN _) (Nat.add_assoc _ _ _))⟩)) | (go_at_call 14; (with_reducible refine (slot_Stamp.calls t164 t177 _ A29.out).mono ?_); rintro e w' ⟨rfl, ⟨nd, rfl⟩⟩; (try first | exact ⟨rfl, _, World.drewN_drewN _ _ _⟩ | exact ⟨rfl, _, Eq.trans (World.drewN_drewN _ _ _) (congrArg (World.drewN _) (Nat.add_assoc _ _ _))⟩))))
                                      go_meet
                                      case rel => exact ⟨_, (true), (by first | rfl | (simp; done) | (simp [*]; done)), H', ⟨by have := HJ4.out; have := HK2.out; have := HJ7.out; have := HJ12.out; first | omega | exact Nat.le_refl _⟩, ⟨by repeat (first | (with_reducible first | exact HB.out | apply below_alloc | apply pw_below_drewN | apply below_drew1) | exact HB.out)⟩⟩
                                  · replace c27 := Bool.eq_false_iff.mpr c27
                                    subst c27
                                    have H1 : (hatstandlaw9_SlotStamps.j4 kj12 a0 l1 l2 x9_2 t170 t174 true) = some r := by rw [if_neg (show ¬ (false = true) by decide)] at H; exact H
                                    clear H
                                    have H := H1
                                    clear H1
                                    have H' := Aside0.mk H
                                    clear H
                                    go_wp2
                                    repeat (go_quiet (fail); try go_wp2)
                                    go_meet
                                    case rel => exact ⟨_, (true), (by first | rfl | (simp; done) | (simp [*]; done)), H', ⟨by have := HJ4.out; have := HK2.out; have := HJ7.out; have := HJ12.out; first | omega | exact Nat.le_refl _⟩, ⟨by repeat (first | (with_reducible first | exact HB.out | apply below_alloc | apply pw_below_drewN | apply below_drew1) | exact HB.out)⟩⟩
                                · replace c26 := Bool.eq_false_iff.mpr c26
                                  subst c26
                                  have H1 : (hatstandlaw9_SlotStamps.j4 kj12 a0 l1 l2 x9_2 t170 t174 true) = some r := by rw [if_neg (show ¬ (false = true) by decide)] at H; exact H
                                  clear H
                                  have H := H1
                                  clear H1
                                  have H' := Aside0.mk H
                                  clear H
                                  go_wp2
                                  repeat (go_quiet (fail); try go_wp2)
                                  go_meet
                                  case rel => exact ⟨_, (true), (by first | rfl | (simp; done) | (simp [*]; done)), H', ⟨by have := HJ4.out; have := HK2.out; have := HJ7.out; have := HJ12.out; first | omega | exact Nat.le_refl _⟩, ⟨by repeat (first | (with_reducible first | exact HB.out | apply below_alloc | apply pw_below_drewN | apply below_drew1) | exact HB.out)⟩⟩
                              case rest =>
                                clear HC25
                                try clear c1
                                try clear p1
                                try clear q1
                                try clear hx1
                                try clear c2
                                try clear p2
                                try clear c3
                                try clear c6
                                try clear c7
                                try clear c8
                                try clear c9
                                try clear c9b0
                                try clear c10
                                try clear c15
                                try clear c15b0
                                try clear c15b1
                                try clear p16
                                try clear q16
                                try clear hx16
                                try clear c17
                                try clear c17b0
                                try clear c17b1
                                try clear p17
                                try clear q17
                                try clear hx17
                                try clear c19
                                try clear c20
                                try clear c20b0
                                try clear c21
                                try clear c21b0
                                try clear c22
                                try clear c22b0
                                try clear c26
                                try clear c27
                                try clear c30
                                try clear c30b0
                                try clear c30b1
                                try clear hx168_0
                                try clear hx169_0
                                try clear hx172_0
                                try clear hx173_0
                                try clear p168
                                try clear p169
                                try clear p172
                                try clear p173
                                try clear p2
                                try clear q168
                                try clear q169
                                try clear q172
                                try clear q173
                                obtain ⟨kq, x102_24, rfl, HA, HJ24, HB⟩ := hcut
                                cases kq with
                                | zero => exact absurd HA.out (by simp [hatstandlaw9_SlotStamps.j4])
                                | succ kj24 =>
                                  have H := HA.out
                                  clear HA
                                  simp only [hatstandlaw9_SlotStamps.j4] at H
                                  by_cases c33 : x102_24 = true
                                  · subst c33
                                    have H1 : (some false) = some r := by rw [if_pos rfl] at H; exact H
                                    clear H
                                    have H := H1
                                    clear H1
                                    exact absurd ((Option.some.inj H).trans HT0.out) (by decide)
                                  · replace c33 := Bool.eq_false_iff.mpr c33
                                    subst c33
                                    have H1 : (if 0 ≤ x9_2 then (if x9_2 < (l2.length : Int) then (if (Int.tmod (rd l2 x9_2) 2) = 0 then (hatstandlaw9_SlotStamps.l0 kj24 a0 l1 l2 t174 (wrap64 (x9_2 + 1))) else (hatstandlaw9_SlotStamps.l0 kj24 a0 l1 l2 t170 (wrap64 (x9_2 + 1)))) else (none)) else (none)) = some r := by rw [if_neg (show ¬ (false = true) by decide)] at H; exact H
                                    clear H
                                    have H := H1
                                    clear H1
                                    by_cases c34 : 0 ≤ x9_2
                                    · rw [if_pos c34] at H
                                      have c34b0 : decide (0 ≤ x9_2) = true := decide_eq_true c34
                                      clear c34
                                      by_cases c35 : x9_2 < (l2.length : Int)
                                      · rw [if_pos c35] at H
                                        have c35b0 : decide (x9_2 < (l2.length : Int)) = true := decide_eq_true c35
                                        clear c35
                                        by_cases c36 : (Int.tmod (rd l2 x9_2) 2) = 0
                                        · rw [if_pos c36] at H
                                          have c36b0 : ((Int.tmod (rd l2 x9_2) 2) == 0) = true := beq_iff_eq.mpr c36
                                          have c36b1 : ((Int.tmod (rd l2 x9_2) 2) != 0) = false := bne_eq_false_iff_eq.mpr c36
                                          clear c36
                                          have H' := Aside0.mk H
                                          clear H
                                          have p179 : 0 ≤ (x9_2 : Int) := of_decide_eq_true (by first | (with_reducible assumption) | assumption)
                                          have q179 : x9_2 < (l2.length : Int) := of_decide_eq_true (by first | (with_reducible assumption) | assumption)
                                          obtain ⟨ad179, e179, hx179_0⟩ := Kd.at_int HR2.out x9_2 p179 q179
                                          obtain rfl : ad169 = ad179 := (by injection e179)
                                          replace hx179_0 := (HB.out.cell (World.block_lt_of_cell? w _ hx179_0)).trans hx179_0
                                          replace p179 := eq_true p179
                                          replace q179 := eq_true q179
                                          go_wp2
                                          repeat (go_quiet (fail); try go_wp2)
                                          go_roundg kj24
                                          case measure => have := HJ4.out; have := HK2.out; have := HJ7.out; have := HJ12.out; have := HJ24.out; omega
                                          case rel => exact ⟨(t174), (wrap64 (x9_2 + 1)), (by first | rfl | (simp; done) | (simp [*]; done)), (by first | rfl | (simp; done) | (simp [*]; done)), H', ⟨by have := HJ4.out; have := HK2.out; have := HJ7.out; have := HJ12.out; have := HJ24.out; omega⟩, ⟨by repeat (first | (with_reducible first | exact HB.out | apply below_alloc | apply pw_below_drewN | apply below_drew1) | exact HB.out)⟩⟩
                                        · rw [if_neg c36] at H
                                          have c36b0 : ((Int.tmod (rd l2 x9_2) 2) == 0) = false := beq_eq_false_iff_ne.mpr c36
                                          have c36b1 : ((Int.tmod (rd l2 x9_2) 2) != 0) = true := bne_iff_ne.mpr c36
                                          have H' := Aside0.mk H
                                          clear H
                                          have p179 : 0 ≤ (x9_2 : Int) := of_decide_eq_true (by first | (with_reducible assumption) | assumption)
                                          have q179 : x9_2 < (l2.length : Int) := of_decide_eq_true (by first | (with_reducible assumption) | assumption)
                                          obtain ⟨ad179, e179, hx179_0⟩ := Kd.at_int HR2.out x9_2 p179 q179
                                          obtain rfl : ad169 = ad179 := (by injection e179)
                                          replace hx179_0 := (HB.out.cell (World.block_lt_of_cell? w _ hx179_0)).trans hx179_0
                                          replace p179 := eq_true p179
                                          replace q179 := eq_true q179
                                          go_wp2
                                          repeat (go_quiet (fail); try go_wp2)
                                          go_roundg kj24
                                          case measure => have := HJ4.out; have := HK2.out; have := HJ7.out; have := HJ12.out; have := HJ24.out; omega
                                          case rel => exact ⟨(t170), (wrap64 (x9_2 + 1)), (by first | rfl | (simp; done) | (simp [*]; done)), (by first | rfl | (simp; done) | (simp [*]; done)), H', ⟨by have := HJ4.out; have := HK2.out; have := HJ7.out; have := HJ12.out; have := HJ24.out; omega⟩, ⟨by repeat (first | (with_reducible first | exact HB.out | apply below_alloc | apply pw_below_drewN | apply below_drew1) | exact HB.out)⟩⟩
                                      · rw [if_neg c35] at H
                                        exact absurd H (by simp)
                                    · rw [if_neg c34] at H
                                      exact absurd H (by simp)
                            · rw [if_neg c22] at H
                              exact absurd H (by simp)
                          · rw [if_neg c21] at H
                            exact absurd H (by simp)
                        · rw [if_neg c20] at H
                          exact absurd H (by simp)
                · replace c10 := Bool.eq_false_iff.mpr c10
                  subst c10
                  have H1 : ((slot_Stamp.f x8_2).bind fun t161 => ((slot_Stamp.f a0).bind fun t162 => (some (((t161 - t162) % 4294967296) == ((mn (l1.length : Int) (l2.length : Int)) % 4294967296))))) = some r := by rw [if_neg (show ¬ (false = true) by decide)] at H; exact H
                  clear H
                  have H := H1
                  clear H1
                  replace H := Option.bind_eq_some_iff.mp H
                  obtain ⟨t161, A370, H⟩ := H
                  replace H : ((slot_Stamp.f a0).bind fun t162 => (some (((t161 - t162) % 4294967296) == ((mn (l1.length : Int) (l2.length : Int)) % 4294967296)))) = some r := H
                  have A37 := Aside0.mk A370
                  clear A370
                  replace H := Option.bind_eq_some_iff.mp H
                  obtain ⟨t162, A380, H⟩ := H
                  replace H : (some (((t161 - t162) % 4294967296) == ((mn (l1.length : Int) (l2.length : Int)) % 4294967296))) = some r := H
                  have A38 := Aside0.mk A380
                  clear A380
                  obtain ⟨ji39, hji39⟩ : ∃ j_ : Int, (mn (l1.length : Int) (l2.length : Int)) = j_ := ⟨_, rfl⟩
                  replace H : (some (((t161 - t162) % 4294967296) == ((ji39) % 4294967296))) = some r := by first | (rw [hji39] at H; exact H) | (simp only [hji39] at H ⊢; exact H)
                  (try rw [hji39] at A37)
                  (try rw [hji39] at A38)
                  have hji39_ : (if (l2.length : Int) < (l1.length : Int) then (l2.length : Int) else (l1.length : Int)) = ji39 := hji39
                  obtain rfl := Option.some.inj H
                  go_wp2_with (first | (go_at_call 14; (with_reducible refine (slot_Stamp.calls x8_2 t161 _ A37.out).mono ?_); rintro e w' ⟨rfl, ⟨nd, rfl⟩⟩; (try first | exact ⟨rfl, _, World.drewN_drewN _ _ _⟩ | exact ⟨rfl, _, Eq.trans (World.drewN_drewN _ _ _) (congrArg (World.drewN _) (Nat.add_assoc _ _ _))⟩)) | (go_at_call 14; (with_reducible refine (slot_Stamp.calls a0 t162 _ A38.out).mono ?_); rintro e w' ⟨rfl, ⟨nd, rfl⟩⟩; (try first | exact ⟨rfl, _, World.drewN_drewN _ _ _⟩ | exact ⟨rfl, _, Eq.trans (World.drewN_drewN _ _ _) (congrArg (World.drewN _) (Nat.add_assoc _ _ _))⟩)))
                  repeat (go_quiet (first | (go_at_call 14; (with_reducible refine (slot_Stamp.calls x8_2 t161 _ A37.out).mono ?_); rintro e w' ⟨rfl, ⟨nd, rfl⟩⟩; (try first | exact ⟨rfl, _, World.drewN_drewN _ _ _⟩ | exact ⟨rfl, _, Eq.trans (World.drewN_drewN _ _ _) (congrArg (World.drewN _) (Nat.add_assoc _ _ _))⟩)) | (go_at_call 14; (with_reducible refine (slot_Stamp.calls a0 t162 _ A38.out).mono ?_); rintro e w' ⟨rfl, ⟨nd, rfl⟩⟩; (try first | exact ⟨rfl, _, World.drewN_drewN _ _ _⟩ | exact ⟨rfl, _, Eq.trans (World.drewN_drewN _ _ _) (congrArg (World.drewN _) (Nat.add_assoc _ _ _))⟩))); try go_wp2_with (first | (go_at_call 14; (with_reducible refine (slot_Stamp.calls x8_2 t161 _ A37.out).mono ?_); rintro e w' ⟨rfl, ⟨nd, rfl⟩⟩; (try first | exact ⟨rfl, _, World.drewN_drewN _ _ _⟩ | exact ⟨rfl, _, Eq.trans (World.drewN_drewN _ _ _) (congrArg (World.drewN _) (Nat.add_assoc _ _ _))⟩)) | (go_at_call 14; (with_reducible refine (slot_Stamp.calls a0 t162 _ A38.out).mono ?_); rintro e w' ⟨rfl, ⟨nd, rfl⟩⟩; (try first | exact ⟨rfl, _, World.drewN_drewN _ _ _⟩ | exact ⟨rfl, _, Eq.trans (World.drewN_drewN _ _ _) (congrArg (World.drewN _) (Nat.add_assoc _ _ _))⟩))))
                  all_goals go_ret
                  all_goals exact ⟨by first | rfl | (simp [errW_none, errW_some] <;> rfl) | (simp only [← hji39_]; split <;> first | rfl | omega | (congr 1; congr 1; congr 1; omega)) | (simp [*, errW_none, errW_some] <;> rfl), by repeat (first | (with_reducible first | exact HB.out | apply below_alloc | apply pw_below_drewN | apply below_drew1) | exact HB.out)⟩

/-- THE ONE PURE STATEMENT of hatstandlaw9_SlotStamps. -/
def hatstandlaw9_SlotStamps.Pure : Prop := ∀ (a0 : Int) (l1 : List Bool) (l2 : List Int), (Lit.int .u64 a0).wf = true → l1.length ≤ maxLen → l1.length * 1 ≤ 140737488351232 → l2.length ≤ maxLen → l2.length * 4 ≤ 140737488351232 → (∀ x ∈ l2, (Lit.int .u32 x).wf = true) → ∃ k, hatstandlaw9_SlotStamps.f k a0 l1 l2 = some true
theorem hatstandlaw9_SlotStamps.walk (P : hatstandlaw9_SlotStamps.Pure) (a0 : Int) (A1 : Option Addr) (c1 : Nat) (l1 : List Bool) (A2 : Option Addr) (c2 : Nat) (l2 : List Int) (w : World) (hr1 : Kd.C Kd.bool w A1 l1.length l1) (hc1 : l1.length ≤ c1) (hr2 : Kd.C (Kd.int .u32) w A2 l2.length l2) (hc2 : l2.length ≤ c2) (hw0 : (Lit.int .u64 a0).wf = true) (hm1 : l1.length ≤ maxLen) (y1 : l1.length * 1 ≤ 140737488351232) (hm2 : l2.length ≤ maxLen) (y2 : l2.length * 4 ≤ 140737488351232) (hw2 : (∀ x ∈ l2, (Lit.int .u32 x).wf = true)) :
    Calls Try.prog 8 #[.int .u64 a0, .slice A1 l1.length c1, .slice A2 l2.length c2] w fun e w' => e = .returned (.bool true) ∧ Below w.heap.size w w' := by
  obtain ⟨k, h⟩ := P a0 l1 l2 hw0 hm1 y1 hm2 y2 hw2
  refine (hatstandlaw9_SlotStamps.calls k a0 A1 c1 l1 A2 c2 l2 true w hr1 hc1 hr2 hc2 h rfl).mono ?_
  rintro e w' ⟨rfl, hd⟩
  exact ⟨rfl, hd⟩

end Go.Proofs.Ytijkmjhfhnhjeaa.P
