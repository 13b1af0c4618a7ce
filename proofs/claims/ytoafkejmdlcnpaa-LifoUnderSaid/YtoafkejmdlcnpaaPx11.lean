/- Walks, written by a program for this claim: each Go function that the laws reach comes to what its Lean function says. -/
import Derived.Test.YtoafkejmdlcnpaaPx0
import Derived.Test.YtoafkejmdlcnpaaPx1
import Derived.Test.YtoafkejmdlcnpaaPx2
import Derived.Test.YtoafkejmdlcnpaaPx4
namespace Go.Proofs.Ytoafkejmdlcnpaa.P
open Go.RowKit Go.Proofs.YtoafkejmdlcnpaaW.PrintWords Go.Proofs.YtoafkejmdlcnpaaW.PrintLast Go.Proofs.YtoafkejmdlcnpaaW.PrintMore
attribute [local go_sem] max2_int min2_int max_two min_two max_three min_three max_four min_four   -- for this text's walks alone
set_option linter.unusedVariables false
set_option linter.unusedSimpArgs false

/-! ### hatstandlaw5_LifoUnder: function 9 -/
mutual
def hatstandlaw5_LifoUnder.j0 : Nat → List Int → List Int → Bool → Bool → Option (Bool)
  | 0, _, _, _, _ => none
  | k + 1, x0, x1, x5, x25 => if x25 = true then (some x5) else ((some (([] : List Int) : List Int)).bind fun y366 => (if y366.length + x0.length < 17592186044416 then (hatstandlaw5_LifoUnder.l0 k x0 x1 (y366 ++ x0) 0) else (none)))
def hatstandlaw5_LifoUnder.l0 : Nat → List Int → List Int → List Int → Int → Option (Bool)
  | 0, _, _, _, _ => none
  | k + 1, x0, x1, x6, x7 => if x7 < (x1.length : Int) then (if 0 ≤ x7 then ((lifo_Push.f x6 (wrap64 ((x0.length : Int) + (x1.length : Int))) (rd x1 x7)).bind fun bt378 => (if bt378.2 = 1 then (if 0 ≤ (x6.length : Int) then (if (x6.length : Int) ≤ (bt378.1.length : Int) then ((hatstandref5_Same.f k (bt378.1.take ((x6.length : Int) : Int).toNat) x6).bind fun t386 => (hatstandlaw5_LifoUnder.j2 k x0 x1 x6 x7 bt378.1 (!t386))) else (none)) else (none)) else (hatstandlaw5_LifoUnder.j2 k x0 x1 x6 x7 bt378.1 true))) else (none)) else (if (x6.length : Int) ≥ (x0.length : Int) then (if 0 ≤ (x0.length : Int) then (if (x0.length : Int) ≤ (x6.length : Int) then ((hatstandref5_Same.f k (x6.take ((x0.length : Int) : Int).toNat) x0).bind fun t376 => (some t376)) else (none)) else (none)) else (some false))
def hatstandlaw5_LifoUnder.j2 : Nat → List Int → List Int → List Int → Int → List Int → Bool → Option (Bool)
  | 0, _, _, _, _, _, _ => none
  | k + 1, x0, x1, x6, x7, x8, x60 => if x60 = true then (some false) else (if 0 ≤ x7 then (if x7 < (x1.length : Int) then (if (Int.tmod (rd x1 x7) 2) = 0 then ((lifo_Pop.f x8).bind fun bt388 => (if bt388.2.2 = 1 then (if bt388.2.1 = (rd x1 x7) then ((hatstandref5_Same.f k bt388.1 x6).bind fun t394 => (if t394 = true then (hatstandlaw5_LifoUnder.l0 k x0 x1 bt388.1 (wrap64 (x7 + 1))) else (some false))) else (some false)) else (some false))) else (hatstandlaw5_LifoUnder.l0 k x0 x1 x8 (wrap64 (x7 + 1)))) else (none)) else (none))
end
def hatstandlaw5_LifoUnder.f (k : Nat) (l0 : List Int) (l1 : List Int) : Option (Bool) := (hatstandlaw5_shown.f k).bind fun t365 => (if t365 = true then (if (l0.length : Int) > 100 then (hatstandlaw5_LifoUnder.j0 k l0 l1 t365 true) else (hatstandlaw5_LifoUnder.j0 k l0 l1 t365 (decide ((l1.length : Int) > 100)))) else (hatstandlaw5_LifoUnder.j0 k l0 l1 t365 true))
theorem hatstandlaw5_LifoUnder.mono_l : ∀ k, (∀ y0 y1 y2 y3, LeO (hatstandlaw5_LifoUnder.j0 k y0 y1 y2 y3) (hatstandlaw5_LifoUnder.j0 (k + 1) y0 y1 y2 y3)) ∧ (∀ y0 y1 y2 y3, LeO (hatstandlaw5_LifoUnder.l0 k y0 y1 y2 y3) (hatstandlaw5_LifoUnder.l0 (k + 1) y0 y1 y2 y3)) ∧ (∀ y0 y1 y2 y3 y4 y5, LeO (hatstandlaw5_LifoUnder.j2 k y0 y1 y2 y3 y4 y5) (hatstandlaw5_LifoUnder.j2 (k + 1) y0 y1 y2 y3 y4 y5))
  | 0 => ⟨fun _ _ _ _ r h => by simp [hatstandlaw5_LifoUnder.j0] at h, fun _ _ _ _ r h => by simp [hatstandlaw5_LifoUnder.l0] at h, fun _ _ _ _ _ _ r h => by simp [hatstandlaw5_LifoUnder.j2] at h⟩
  | k + 1 => by
    obtain ⟨ih0, ih1, ih2⟩ := hatstandlaw5_LifoUnder.mono_l k
    refine ⟨?_, ?_, ?_⟩
    · intro y0 y1 y2 y3
      unfold hatstandlaw5_LifoUnder.j0
      repeat' first
      | (with_reducible exact ih0 _ _ _ _)
      | (with_reducible exact ih1 _ _ _ _)
      | (with_reducible exact ih2 _ _ _ _ _ _)
      | (with_reducible exact hatstandlaw5_shown.mono _)
      | (with_reducible exact hatstandref5_Same.mono _ _ _)
      | (with_reducible exact LeO.refl _)
      | (with_reducible exact LeO.none _)
      | (with_reducible refine LeO.ite ?_ ?_)
      | (with_reducible refine LeO.bind ?_ (fun _ => ?_))
      | exact ih0 _ _ _ _
      | exact ih1 _ _ _ _
      | exact ih2 _ _ _ _ _ _
      | exact hatstandlaw5_shown.mono _
      | exact hatstandref5_Same.mono _ _ _
      | exact LeO.none _
      | refine LeO.ite ?_ ?_
      | refine LeO.bind ?_ (fun _ => ?_)
    · intro y0 y1 y2 y3
      unfold hatstandlaw5_LifoUnder.l0
      repeat' first
      | (with_reducible exact ih0 _ _ _ _)
      | (with_reducible exact ih1 _ _ _ _)
      | (with_reducible exact ih2 _ _ _ _ _ _)
      | (with_reducible exact hatstandlaw5_shown.mono _)
      | (with_reducible exact hatstandref5_Same.mono _ _ _)
      | (with_reducible exact LeO.refl _)
      | (with_reducible exact LeO.none _)
      | (with_reducible refine LeO.ite ?_ ?_)
      | (with_reducible refine LeO.bind ?_ (fun _ => ?_))
      | exact ih0 _ _ _ _
      | exact ih1 _ _ _ _
      | exact ih2 _ _ _ _ _ _
      | exact hatstandlaw5_shown.mono _
      | exact hatstandref5_Same.mono _ _ _
      | exact LeO.none _
      | refine LeO.ite ?_ ?_
      | refine LeO.bind ?_ (fun _ => ?_)
    · intro y0 y1 y2 y3 y4 y5
      unfold hatstandlaw5_LifoUnder.j2
      repeat' first
      | (with_reducible exact ih0 _ _ _ _)
      | (with_reducible exact ih1 _ _ _ _)
      | (with_reducible exact ih2 _ _ _ _ _ _)
      | (with_reducible exact hatstandlaw5_shown.mono _)
      | (with_reducible exact hatstandref5_Same.mono _ _ _)
      | (with_reducible exact LeO.refl _)
      | (with_reducible exact LeO.none _)
      | (with_reducible refine LeO.ite ?_ ?_)
      | (with_reducible refine LeO.bind ?_ (fun _ => ?_))
      | exact ih0 _ _ _ _
      | exact ih1 _ _ _ _
      | exact ih2 _ _ _ _ _ _
      | exact hatstandlaw5_shown.mono _
      | exact hatstandref5_Same.mono _ _ _
      | exact LeO.none _
      | refine LeO.ite ?_ ?_
      | refine LeO.bind ?_ (fun _ => ?_)
theorem hatstandlaw5_LifoUnder.mono : ∀ a0 a1 k, LeO (hatstandlaw5_LifoUnder.f k a0 a1) (hatstandlaw5_LifoUnder.f (k + 1) a0 a1) := by
  intro a0 a1 k
  obtain ⟨ih0, ih1, ih2⟩ := hatstandlaw5_LifoUnder.mono_l k
  unfold hatstandlaw5_LifoUnder.f
  repeat' first
      | (with_reducible exact ih0 _ _ _ _)
      | (with_reducible exact ih1 _ _ _ _)
      | (with_reducible exact ih2 _ _ _ _ _ _)
      | (with_reducible exact hatstandlaw5_shown.mono _)
      | (with_reducible exact hatstandref5_Same.mono _ _ _)
      | (with_reducible exact LeO.refl _)
      | (with_reducible exact LeO.none _)
      | (with_reducible refine LeO.ite ?_ ?_)
      | (with_reducible refine LeO.bind ?_ (fun _ => ?_))
      | exact ih0 _ _ _ _
      | exact ih1 _ _ _ _
      | exact ih2 _ _ _ _ _ _
      | exact hatstandlaw5_shown.mono _
      | exact hatstandref5_Same.mono _ _ _
      | exact LeO.none _
      | refine LeO.ite ?_ ?_
      | refine LeO.bind ?_ (fun _ => ?_)
set_option maxHeartbeats 8000000 in
set_option maxRecDepth 100000 in
theorem hatstandlaw5_LifoUnder.calls (k : Nat) (A0 : Option Addr) (c0 : Nat) (l0 : List Int) (A1 : Option Addr) (c1 : Nat) (l1 : List Int) (r : Bool) (w : World) (hr0 : Kd.C (Kd.int .u64) w A0 l0.length l0) (hc0 : l0.length ≤ c0) (hr1 : Kd.C (Kd.int .u64) w A1 l1.length l1) (hc1 : l1.length ≤ c1) (h : hatstandlaw5_LifoUnder.f k l0 l1 = some r) (ht_ : r = true) :
    Calls Try.prog 9 #[.slice A0 l0.length c0, .slice A1 l1.length c1] w fun e w' => e = .returned (.bool r) ∧ Below w.heap.size w w' := by
  have HR0 := Aside0.mk hr0
  have HC0 := Aside0.mk hc0
  clear hr0 hc0
  have HR1 := Aside0.mk hr1
  have HC1 := Aside0.mk hc1
  clear hr1 hc1
  have HB := Aside0.mk (Below.refl w.heap.size w)
  have HT0 := Aside0.mk ht_
  clear ht_
  have H : ((hatstandlaw5_shown.f k).bind fun t365 => (if t365 = true then (if (l0.length : Int) > 100 then (hatstandlaw5_LifoUnder.j0 k l0 l1 t365 true) else (hatstandlaw5_LifoUnder.j0 k l0 l1 t365 (decide ((l1.length : Int) > 100)))) else (hatstandlaw5_LifoUnder.j0 k l0 l1 t365 true))) = some r := h
  clear h
  replace H := Option.bind_eq_some_iff.mp H
  obtain ⟨t365, A30, H⟩ := H
  replace H : (if t365 = true then (if (l0.length : Int) > 100 then (hatstandlaw5_LifoUnder.j0 k l0 l1 t365 true) else (hatstandlaw5_LifoUnder.j0 k l0 l1 t365 (decide ((l1.length : Int) > 100)))) else (hatstandlaw5_LifoUnder.j0 k l0 l1 t365 true)) = some r := H
  have A3 := Aside0.mk A30
  clear A30
  have HC4 := Aside0.mk H
  clear H
  go_enter Try.func9, Try.ntmps9
  go_upto_region 2 with (first | ((with_reducible refine gate_callee (f := 10) rfl ?_); refine goesL_ (some 13) rfl rfl Try.func10 (by kernel_rfl) rfl #[] rfl (by (try simp only [List.map_toArray, List.map_cons, List.map_nil]); first | done | rfl | (simp only [List.length_drop, List.length_take]; rfl)) ?_; (with_reducible refine (hatstandlaw5_shown.calls k  t365 _ A3.out).mono ?_); rintro e w5 ⟨rfl, hb⟩; refine ⟨_, rfl, ?_⟩; have n0_ := Aside0.mk (below_step (by repeat (first | (with_reducible first | exact HB.out | apply below_alloc | apply pw_below_drewN | apply below_drew1) | exact HB.out)) hb); clear HB; have HB := n0_; clear n0_; (try clear hb); (try clear hb2); (try clear hk); (try clear hi)))
  (try simp only [Act.put, List.setIfInBounds_toArray, List.set_cons_zero, List.set_cons_succ])
  go_cut [25] (fun v25 wc => ∃ (kq : Nat) (x25_3 : Bool), v25 = .bool x25_3 ∧ Aside0 (hatstandlaw5_LifoUnder.j0 kq l0 l1 t365 x25_3 = some r) ∧ Aside0 (kq ≤ k) ∧ Aside0 (Below w.heap.size w wc))
  case first =>
    have H := HC4.out
    clear HC4
    by_cases c6 : t365 = true
    · subst c6
      have H1 : (if (l0.length : Int) > 100 then (hatstandlaw5_LifoUnder.j0 k l0 l1 true true) else (hatstandlaw5_LifoUnder.j0 k l0 l1 true (decide ((l1.length : Int) > 100)))) = some r := by rw [if_pos rfl] at H; exact H
      clear H
      have H := H1
      clear H1
      by_cases c7 : (l0.length : Int) > 100
      · rw [if_pos c7] at H
        have c7b0 : decide (100 < (l0.length : Int)) = true := decide_eq_true c7
        have c7b1 : decide (100 < l0.length) = true := decide_eq_true (by omega)
        clear c7
        (first | rw [c7b0] | (simp only [i64_w, i32_w, Go.IntKind.wrap_u32]; rw [c7b0]) | skip)
        have H' := Aside0.mk H
        clear H
        go_wp2
        go_meet
        case rel => exact ⟨_, (true), (by first | rfl | (simp; done) | (simp [*]; done)), H', ⟨by first | omega | exact Nat.le_refl _⟩, ⟨by repeat (first | (with_reducible first | exact HB.out | apply below_alloc | apply pw_below_drewN | apply below_drew1) | exact HB.out)⟩⟩
      · rw [if_neg c7] at H
        have c7b0 : decide (100 < (l0.length : Int)) = false := decide_eq_false c7
        have c7b1 : decide (100 < l0.length) = false := decide_eq_false (by omega)
        clear c7
        (first | rw [c7b0] | (simp only [i64_w, i32_w, Go.IntKind.wrap_u32]; rw [c7b0]) | skip)
        have H' := Aside0.mk H
        clear H
        go_wp2
        go_meet
        case rel => exact ⟨_, (decide ((l1.length : Int) > 100)), (by first | rfl | (simp; done) | (simp [*]; done)), H', ⟨by first | omega | exact Nat.le_refl _⟩, ⟨by repeat (first | (with_reducible first | exact HB.out | apply below_alloc | apply pw_below_drewN | apply below_drew1) | exact HB.out)⟩⟩
    · replace c6 := Bool.eq_false_iff.mpr c6
      subst c6
      have H1 : (hatstandlaw5_LifoUnder.j0 k l0 l1 false true) = some r := by rw [if_neg (show ¬ (false = true) by decide)] at H; exact H
      clear H
      have H := H1
      clear H1
      have H' := Aside0.mk H
      clear H
      go_wp2
      go_meet
      case rel => exact ⟨_, (true), (by first | rfl | (simp; done) | (simp [*]; done)), H', ⟨by first | omega | exact Nat.le_refl _⟩, ⟨by repeat (first | (with_reducible first | exact HB.out | apply below_alloc | apply pw_below_drewN | apply below_drew1) | exact HB.out)⟩⟩
  case rest =>
    clear HC4
    try clear c1
    try clear p2
    try clear c6
    try clear c7
    try clear c7b0
    try clear c7b1
    obtain ⟨kq, x25_3, rfl, HA, HJ3, HB⟩ := hcut
    cases kq with
    | zero => exact absurd HA.out (by simp [hatstandlaw5_LifoUnder.j0])
    | succ kj3 =>
      have H := HA.out
      clear HA
      simp only [hatstandlaw5_LifoUnder.j0] at H
      by_cases c8 : x25_3 = true
      · subst c8
        have H1 : (some t365) = some r := by rw [if_pos rfl] at H; exact H
        clear H
        have H := H1
        clear H1
        obtain rfl := Option.some.inj H
        go_wp2
        go_ret
        exact ⟨by first | rfl | (simp [errW_none, errW_some] <;> rfl) | (simp [*, errW_none, errW_some] <;> rfl), by repeat (first | (with_reducible first | exact HB.out | apply below_alloc | apply pw_below_drewN | apply below_drew1) | exact HB.out)⟩
      · replace c8 := Bool.eq_false_iff.mpr c8
        subst c8
        have H1 : ((some (([] : List Int) : List Int)).bind fun y366 => (if y366.length + l0.length < 17592186044416 then (hatstandlaw5_LifoUnder.l0 kj3 l0 l1 (y366 ++ l0) 0) else (none))) = some r := by rw [if_neg (show ¬ (false = true) by decide)] at H; exact H
        clear H
        have H := H1
        clear H1
        obtain ⟨y366, hy366⟩ : ∃ y_ : List Int, y_ = (([] : List Int)) := ⟨_, rfl⟩
        replace H : (if y366.length + l0.length < 17592186044416 then (hatstandlaw5_LifoUnder.l0 kj3 l0 l1 (y366 ++ l0) 0) else (none)) = some r := by first | (rw [hy366]; with_reducible exact H) | (have H2_ := (Option.bind_some _ _).symm.trans H; rw [hy366]; with_reducible exact H2_) | (have H2_ := (Option.bind_some _ _).symm.trans H; with_reducible exact H2_) | with_reducible exact H | (rw [hy366]; exact H) | exact H
        have Ny366 := Aside0.mk hy366
        clear hy366
        by_cases c9 : y366.length + l0.length < 17592186044416
        · rw [if_pos c9] at H
          have LMc9 := Aside0.mk c9
          clear c9
          obtain ⟨y369, hy369⟩ : ∃ y_ : List Int, y_ = (y366 ++ l0) := ⟨_, rfl⟩
          replace H : (hatstandlaw5_LifoUnder.l0 kj3 l0 l1 y369 0) = some r := by first | (rw [hy369]; with_reducible exact H) | (have H2_ := (Option.bind_some _ _).symm.trans H; rw [hy369]; with_reducible exact H2_) | (have H2_ := (Option.bind_some _ _).symm.trans H; with_reducible exact H2_) | with_reducible exact H | (rw [hy369]; exact H) | exact H
          have Ny369 := Aside0.mk hy369
          clear hy369
          have H' := Aside0.mk H
          clear H
          go_wp2_with (first | ((with_reducible refine gate_dst (N := 27) rfl ?_); (try (refine gate_guard (by rfl) ?_; dsimp only)); refine Kd.R_lit (Kd.int .u64) _ 28 ?hg (N := 27) ?hd (xs := ([] : List Int)) (inner := []) (ok := fun _ => True) (okp := fun _ => True) ?hr ?hp (fun _ hk => hk) trivial (Below.refl _ _) (Nat.le_refl _) (by simp) ?_; (case hd => rfl); (case hg => rfl); (case hr => first | (go_simp; done) | (go_simp; rfl)); (case hp => exact (Reps.none _ _)); intro v367 w10 ho11 hb hg_ hnew_; clear hg_ hnew_; (first | rw [← Ny366.out] at ho11 | (simp only [Int.reduceToNat] at ho11; rw [← Ny366.out] at ho11)); have n0_ := Aside0.mk (Kd.R_lower ho11 (below_size (by repeat (first | (with_reducible first | exact HB.out | apply below_alloc | apply pw_below_drewN | apply below_drew1) | exact HB.out)))); have n1_ := Aside0.mk (below_step (by repeat (first | (with_reducible first | exact HB.out | apply below_alloc | apply pw_below_drewN | apply below_drew1) | exact HB.out)) hb); clear HB; have HO368 := n0_; have HB := n1_; clear n0_ n1_; clear hb ho11) | ((with_reducible refine gate_builtin (b := .append) (xs := #[.tmp 27, .tmp 28]) rfl ?_); (try (refine gate_guard (by rfl) ?_; dsimp only)); at_builtin; refine Kd.R_append_rows (Kd.int .u64) (w0 := w) w.heap.size rfl (.tmp 27) (.tmp 28) 22 28 (.int .u64 0) 8 rfl Try.underlying22 info28 rfl (by decide) (by omega) v367 y366 l0 _ _ _ (fun _ => True) (fun _ => False) rfl rfl ?aO ?aR (fun _ _ h => h) (fun _ h => h.elim) ?aF ?aB ?aS ?aL ?_; (case aR => repeat (first | exact (Kd.C_below HR0.out HB.out) | (with_reducible refine Kd.C_alloc ?_ _) | (with_reducible refine Kd.C_drewN ?_ _) | (with_reducible refine Kd.C_drew ?_))); (case aB => exact (by repeat (first | (with_reducible first | exact HB.out | apply below_alloc | apply pw_below_drewN | apply below_drew1) | exact HB.out))); (case aF => exact (fun _ _ => trivial)); (case aO => exact (by (with_reducible repeat (first | apply Kd.R_alloc | apply Kd.R_drewN | apply Kd.R_drew)); exact HO368.out)); (case aS => exact (below_size (by repeat (first | (with_reducible first | exact HB.out | apply below_alloc | apply pw_below_drewN | apply below_drew1) | exact HB.out)))); (case aL => have := LMc9.out; omega); intro v370 w12 ho hb hg hat; rw [← Ny369.out] at ho; have n0_ := Aside0.mk (hb); have n1_ := Aside0.mk (ho); clear HB; clear HO368; have HB := n0_; have HO371 := n1_; clear n0_ n1_; clear ho hb hg hat))
          go_loopg [6, 7] kj3 (fun kq v6 v7 w' => ∃ (x6_2 : List Int) (x7_2 : Int), v7 = .int .i64 x7_2 ∧ Aside0 (hatstandlaw5_LifoUnder.l0 kq l0 l1 x6_2 x7_2 = some r) ∧ Aside0 (kq ≤ kj3) ∧ Aside0 (Kd.R (Kd.int .u64) 28 w' w.heap.size (fun _ => True) v6 x6_2) ∧ Aside0 (Below w.heap.size w w'))
          case atStart => exact ⟨(y369), (0), (by first | rfl | (simp; done) | (simp [*]; done)), H', ⟨Nat.le_refl _⟩, ⟨by (with_reducible repeat (first | apply Kd.R_alloc | apply Kd.R_drewN | apply Kd.R_drew)); exact HO371.out⟩, ⟨by repeat (first | (with_reducible first | exact HB.out | apply below_alloc | apply pw_below_drewN | apply below_drew1) | exact HB.out)⟩⟩
          case round =>
            clear H'
            try clear c1
            try clear p2
            try clear c6
            try clear c7
            try clear c7b0
            try clear c7b1
            try clear c8
            try clear c9
            try clear c10
            try clear p2
            obtain ⟨x6_2, x7_2, rfl, HA, HK2, HO_6, HB⟩ := hrel
            cases gk with
            | zero => exact absurd HA.out (by simp [hatstandlaw5_LifoUnder.l0])
            | succ k2 =>
              have H := HA.out
              clear HA
              simp only [hatstandlaw5_LifoUnder.l0] at H
              by_cases c13 : x7_2 < (l1.length : Int)
              · rw [if_pos c13] at H
                have c13b0 : decide (x7_2 < (l1.length : Int)) = true := decide_eq_true c13
                clear c13
                by_cases c14 : 0 ≤ x7_2
                · rw [if_pos c14] at H
                  have c14b0 : decide (0 ≤ x7_2) = true := decide_eq_true c14
                  clear c14
                  replace H := Option.bind_eq_some_iff.mp H
                  obtain ⟨⟨t378, t379⟩, A150, H⟩ := H
                  replace H : (if t379 = 1 then (if 0 ≤ (x6_2.length : Int) then (if (x6_2.length : Int) ≤ (t378.length : Int) then ((hatstandref5_Same.f k2 (t378.take ((x6_2.length : Int) : Int).toNat) x6_2).bind fun t386 => (hatstandlaw5_LifoUnder.j2 k2 l0 l1 x6_2 x7_2 t378 (!t386))) else (none)) else (none)) else (hatstandlaw5_LifoUnder.j2 k2 l0 l1 x6_2 x7_2 t378 true)) = some r := H
                  have A15 := Aside0.mk A150
                  clear A150
                  have HC16 := Aside0.mk H
                  clear H
                  have p377 : 0 ≤ (x7_2 : Int) := of_decide_eq_true (by first | (with_reducible assumption) | assumption)
                  have q377 : x7_2 < (l1.length : Int) := of_decide_eq_true (by first | (with_reducible assumption) | assumption)
                  obtain ⟨ad377, e377, hx377_0⟩ := Kd.at_int HR1.out x7_2 p377 q377
                  cases e377
                  replace hx377_0 := (HB.out.cell (World.block_lt_of_cell? w _ hx377_0)).trans hx377_0
                  replace p377 := eq_true p377
                  replace q377 := eq_true q377
                  obtain ⟨Ao17, co17, eo17⟩ := Kd.R_slice HO_6.out
                  subst eo17
                  go_upto_region 9 with (first | ((with_reducible refine gate_callee (f := 11) rfl ?_); refine goesL_ (some 47) rfl rfl Try.func11 (by kernel_rfl) rfl #[.slice Ao17 x6_2.length co17, .int .i64 (wrap64 ((l0.length : Int) + (l1.length : Int))), .int .u64 (rd l1 x7_2)] rfl (by (try simp only [List.map_toArray, List.map_cons, List.map_nil]); first | done | rfl | (simp only [List.length_drop, List.length_take]; rfl)) ?_; (with_reducible refine (lifo_Push.calls _ _ x6_2 (wrap64 ((l0.length : Int) + (l1.length : Int))) (rd l1 x7_2) t378 t379 _ ?side1 ?side2 A15.out).mono ?_); (case side1 => repeat (first | exact (Kd.R_reads' HO_6.out).2.2 | (with_reducible refine Kd.C_alloc ?_ _) | (with_reducible refine Kd.C_drewN ?_ _) | (with_reducible refine Kd.C_drew ?_))); (case side2 => exact (Kd.R_reads' HO_6.out).2.1); rintro e w18 ⟨v380, rfl, ho0, hb⟩; refine ⟨_, rfl, ?_⟩; have n0_ := Aside0.mk (Kd.R_elder' (by (with_reducible repeat (first | apply Kd.R_alloc | apply Kd.R_drewN | apply Kd.R_drew)); exact HO_6.out) (Kd.R_base ho0) hb); have n1_ := Aside0.mk (Kd.R_lower (Kd.R_new' ho0 (Kd.R_lt (by (with_reducible repeat (first | apply Kd.R_alloc | apply Kd.R_drewN | apply Kd.R_drew)); exact HO_6.out))) (below_size (by repeat (first | (with_reducible first | exact HB.out | apply below_alloc | apply pw_below_drewN | apply below_drew1) | exact HB.out)))); have n2_ := Aside0.mk (below_step (by repeat (first | (with_reducible first | exact HB.out | apply below_alloc | apply pw_below_drewN | apply below_drew1) | exact HB.out)) hb); clear HO_6; clear HB; have HO_6 := n0_; have HO381 := n1_; have HB := n2_; clear n0_ n1_ n2_; (try clear hb); (try clear hb2); (try clear hk); (try clear hi); (try clear ho0)))
                  (try simp only [Act.put, List.setIfInBounds_toArray, List.set_cons_zero, List.set_cons_succ])
                  go_cut [60] (fun v60 wc => ∃ (kq : Nat) (x60_15 : Bool), v60 = .bool x60_15 ∧ Aside0 (hatstandlaw5_LifoUnder.j2 kq l0 l1 x6_2 x7_2 t378 x60_15 = some r) ∧ Aside0 (kq ≤ k2) ∧ Aside0 (Kd.R (Kd.int .u64) 28 wc w.heap.size (fun k_ => some k_ ≠ (v380 : Value).ownBlock) (.slice Ao17 x6_2.length co17) x6_2) ∧ Aside0 (Kd.R (Kd.int .u64) 28 wc w.heap.size (fun k_ => some k_ ≠ ((.slice Ao17 x6_2.length co17) : Value).ownBlock) v380 t378) ∧ Aside0 (Below w.heap.size w wc))
                  case first =>
                    have H := HC16.out
                    clear HC16
                    by_cases c19 : t379 = 1
                    · rw [if_pos c19] at H
                      have c19b0 : (t379 == 1) = true := beq_iff_eq.mpr c19
                      have c19b1 : (t379 != 1) = false := bne_eq_false_iff_eq.mpr c19
                      clear c19
                      (first | rw [c19b0] | (simp only [i64_w, i32_w, Go.IntKind.wrap_u32]; rw [c19b0]) | skip)
                      by_cases c20 : 0 ≤ (x6_2.length : Int)
                      · rw [if_pos c20] at H
                        have c20b0 := eq_true c20
                        have c20b1 : decide (0 ≤ (x6_2.length : Int)) = true := decide_eq_true c20
                        clear c20
                        by_cases c21 : (x6_2.length : Int) ≤ (t378.length : Int)
                        · rw [if_pos c21] at H
                          have c21b0 := eq_true c21
                          have c21b1 : decide ((x6_2.length : Int) ≤ (t378.length : Int)) = true := decide_eq_true c21
                          clear c21
                          obtain ⟨y382, hy382⟩ : ∃ y_ : List Int, y_ = (t378.take ((x6_2.length : Int) : Int).toNat) := ⟨_, rfl⟩
                          replace H : ((hatstandref5_Same.f k2 y382 x6_2).bind fun t386 => (hatstandlaw5_LifoUnder.j2 k2 l0 l1 x6_2 x7_2 t378 (!t386))) = some r := by first | (rw [hy382]; with_reducible exact H) | (have H2_ := (Option.bind_some _ _).symm.trans H; rw [hy382]; with_reducible exact H2_) | (have H2_ := (Option.bind_some _ _).symm.trans H; with_reducible exact H2_) | with_reducible exact H | (rw [hy382]; exact H) | exact H
                          have Ny382 := Aside0.mk hy382
                          clear hy382
                          replace H := Option.bind_eq_some_iff.mp H
                          obtain ⟨t386, A220, H⟩ := H
                          replace H : (hatstandlaw5_LifoUnder.j2 k2 l0 l1 x6_2 x7_2 t378 (!t386)) = some r := H
                          have A22 := Aside0.mk A220
                          clear A220
                          have H' := Aside0.mk H
                          clear H
                          obtain ⟨Ao24, co24, eo24⟩ := Kd.R_slice HO381.out
                          subst eo24
                          have q23 : ((x6_2.length : Int) : Int) ≤ ((t378.length : Int) : Int) := of_decide_eq_true (by first | (with_reducible assumption) | assumption)
                          obtain ⟨i023, hi023, _, hsz23, _⟩ := info_parts info28
                          have hroom23 : t378.length ≤ co24 := (Kd.R_reads' HO381.out).2.1
                          have hC23 : Kd.C (Kd.int .u64) _ Ao24 t378.length t378 := (Kd.R_reads' HO381.out).2.2
                          have hcut23 := cut_to (P := Try.prog) 22 28 .i64 Try.underlying22 hi023 Ao24 t378.length co24 (x6_2.length : Int) (of_decide_eq_true (by first | (with_reducible assumption) | assumption)) q23 hroom23
                          have hr23 := Kd.C_take (m := ((x6_2.length : Int) : Int).toNat) hC23 (by omega)
                          have hy23 : y382.length = ((x6_2.length : Int) : Int).toNat := (by rw [Ny382.out, List.length_take]; omega)
                          rw [← Ny382.out] at hr23
                          rw [← hy23] at hcut23
                          have HR385 := Aside0.mk hr23
                          have HC385 := Aside0.mk (show y382.length ≤ co24 from by omega)
                          clear hr23 hC23 hroom23 hi023 hsz23
                          have KY23 := Aside0.mk hy23
                          clear hy23
                          have KL23 := Aside0.mk (show ((x6_2.length : Int) : Int).toNat ≤ t378.length from by omega)
                          replace q23 := eq_true q23
                          go_wp2_with (first | (go_at_call 16; (with_reducible refine (hatstandref5_Same.calls k2 _ _ y382 _ _ x6_2 t386 _ ?side1 ?side2 ?side3 ?side4 A22.out).mono ?_); (case side1 => repeat (first | exact (by repeat (first | (with_reducible exact HR385.out) | (with_reducible refine Kd.C_alloc ?_ _) | (with_reducible refine Kd.C_drewN ?_ _) | (with_reducible refine Kd.C_drew ?_) | exact HR385.out)) | (with_reducible refine Kd.C_alloc ?_ _) | (with_reducible refine Kd.C_drewN ?_ _) | (with_reducible refine Kd.C_drew ?_))); (case side2 => exact HC385.out); (case side3 => repeat (first | exact (Kd.R_reads' HO_6.out).2.2 | (with_reducible refine Kd.C_alloc ?_ _) | (with_reducible refine Kd.C_drewN ?_ _) | (with_reducible refine Kd.C_drew ?_))); (case side4 => exact (Kd.R_reads' HO_6.out).2.1); rintro e w' ⟨rfl, ⟨nd, rfl⟩⟩))
                          go_meet
                          case rel => exact ⟨_, (!t386), (by first | rfl | (simp; done) | (simp [*]; done)), H', ⟨by have := HJ3.out; have := HK2.out; first | omega | exact Nat.le_refl _⟩, ⟨by (with_reducible repeat (first | apply Kd.R_alloc | apply Kd.R_drewN | apply Kd.R_drew)); exact Kd.R_mono HO_6.out (fun _ hk => hk.2)⟩, ⟨by (with_reducible repeat (first | apply Kd.R_alloc | apply Kd.R_drewN | apply Kd.R_drew)); exact Kd.R_mono HO381.out (fun _ hk => hk.2)⟩, ⟨by repeat (first | (with_reducible first | exact HB.out | apply below_alloc | apply pw_below_drewN | apply below_drew1) | exact HB.out)⟩⟩
                        · rw [if_neg c21] at H
                          exact absurd H (by simp)
                      · rw [if_neg c20] at H
                        exact absurd H (by simp)
                    · rw [if_neg c19] at H
                      have c19b0 : (t379 == 1) = false := beq_eq_false_iff_ne.mpr c19
                      have c19b1 : (t379 != 1) = true := bne_iff_ne.mpr c19
                      (first | rw [c19b0] | (simp only [i64_w, i32_w, Go.IntKind.wrap_u32]; rw [c19b0]) | skip)
                      have H' := Aside0.mk H
                      clear H
                      go_wp2
                      go_meet
                      case rel => exact ⟨_, (true), (by first | rfl | (simp; done) | (simp [*]; done)), H', ⟨by have := HJ3.out; have := HK2.out; first | omega | exact Nat.le_refl _⟩, ⟨by (with_reducible repeat (first | apply Kd.R_alloc | apply Kd.R_drewN | apply Kd.R_drew)); exact Kd.R_mono HO_6.out (fun _ hk => hk.2)⟩, ⟨by (with_reducible repeat (first | apply Kd.R_alloc | apply Kd.R_drewN | apply Kd.R_drew)); exact Kd.R_mono HO381.out (fun _ hk => hk.2)⟩, ⟨by repeat (first | (with_reducible first | exact HB.out | apply below_alloc | apply pw_below_drewN | apply below_drew1) | exact HB.out)⟩⟩
                  case rest =>
                    clear HC16
                    try clear c1
                    try clear c2
                    try clear p2
                    try clear q2
                    try clear p3
                    try clear q3
                    try clear hx3
                    try clear c6
                    try clear p6
                    try clear c7
                    try clear c7b0
                    try clear c7b1
                    try clear c8
                    try clear c9
                    try clear c10
                    try clear c11
                    try clear c13
                    try clear c13b0
                    try clear c14
                    try clear c14b0
                    try clear c19
                    try clear c19b0
                    try clear c19b1
                    try clear c20
                    try clear c20b0
                    try clear c20b1
                    try clear c21
                    try clear c21b0
                    try clear c21b1
                    try clear q23
                    try clear hx377_0
                    try clear p2
                    try clear p377
                    try clear q23
                    try clear q377
                    obtain ⟨kq, x60_15, rfl, HA, HJ15, HO_6, HO_8, HB⟩ := hcut
                    cases kq with
                    | zero => exact absurd HA.out (by simp [hatstandlaw5_LifoUnder.j2])
                    | succ kj15 =>
                      have H := HA.out
                      clear HA
                      simp only [hatstandlaw5_LifoUnder.j2] at H
                      by_cases c25 : x60_15 = true
                      · subst c25
                        have H1 : (some false) = some r := by rw [if_pos rfl] at H; exact H
                        clear H
                        have H := H1
                        clear H1
                        exact absurd ((Option.some.inj H).trans HT0.out) (by decide)
                      · replace c25 := Bool.eq_false_iff.mpr c25
                        subst c25
                        have H1 : (if 0 ≤ x7_2 then (if x7_2 < (l1.length : Int) then (if (Int.tmod (rd l1 x7_2) 2) = 0 then ((lifo_Pop.f t378).bind fun bt388 => (if bt388.2.2 = 1 then (if bt388.2.1 = (rd l1 x7_2) then ((hatstandref5_Same.f kj15 bt388.1 x6_2).bind fun t394 => (if t394 = true then (hatstandlaw5_LifoUnder.l0 kj15 l0 l1 bt388.1 (wrap64 (x7_2 + 1))) else (some false))) else (some false)) else (some false))) else (hatstandlaw5_LifoUnder.l0 kj15 l0 l1 t378 (wrap64 (x7_2 + 1)))) else (none)) else (none)) = some r := by rw [if_neg (show ¬ (false = true) by decide)] at H; exact H
                        clear H
                        have H := H1
                        clear H1
                        by_cases c26 : 0 ≤ x7_2
                        · rw [if_pos c26] at H
                          have c26b0 : decide (0 ≤ x7_2) = true := decide_eq_true c26
                          clear c26
                          by_cases c27 : x7_2 < (l1.length : Int)
                          · rw [if_pos c27] at H
                            have c27b0 : decide (x7_2 < (l1.length : Int)) = true := decide_eq_true c27
                            clear c27
                            by_cases c28 : (Int.tmod (rd l1 x7_2) 2) = 0
                            · rw [if_pos c28] at H
                              have c28b0 : ((Int.tmod (rd l1 x7_2) 2) == 0) = true := beq_iff_eq.mpr c28
                              have c28b1 : ((Int.tmod (rd l1 x7_2) 2) != 0) = false := bne_eq_false_iff_eq.mpr c28
                              clear c28
                              replace H := Option.bind_eq_some_iff.mp H
                              obtain ⟨⟨t388, t389, t390⟩, A290, H⟩ := H
                              replace H : (if t390 = 1 then (if t389 = (rd l1 x7_2) then ((hatstandref5_Same.f kj15 t388 x6_2).bind fun t394 => (if t394 = true then (hatstandlaw5_LifoUnder.l0 kj15 l0 l1 t388 (wrap64 (x7_2 + 1))) else (some false))) else (some false)) else (some false)) = some r := H
                              have A29 := Aside0.mk A290
                              clear A290
                              by_cases c30 : t390 = 1
                              · rw [if_pos c30] at H
                                have c30b0 : (t390 == 1) = true := beq_iff_eq.mpr c30
                                have c30b1 : (t390 != 1) = false := bne_eq_false_iff_eq.mpr c30
                                clear c30
                                by_cases c31 : t389 = (rd l1 x7_2)
                                · rw [if_pos c31] at H
                                  have c31b0 : (t389 == (rd l1 x7_2)) = true := beq_iff_eq.mpr c31
                                  have c31b1 : (t389 != (rd l1 x7_2)) = false := bne_eq_false_iff_eq.mpr c31
                                  clear c31
                                  replace H := Option.bind_eq_some_iff.mp H
                                  obtain ⟨t394, A320, H⟩ := H
                                  replace H : (if t394 = true then (hatstandlaw5_LifoUnder.l0 kj15 l0 l1 t388 (wrap64 (x7_2 + 1))) else (some false)) = some r := H
                                  have A32 := Aside0.mk A320
                                  clear A320
                                  by_cases c33 : t394 = true
                                  · subst c33
                                    have H1 : (hatstandlaw5_LifoUnder.l0 kj15 l0 l1 t388 (wrap64 (x7_2 + 1))) = some r := by rw [if_pos rfl] at H; exact H
                                    clear H
                                    have H := H1
                                    clear H1
                                    have H' := Aside0.mk H
                                    clear H
                                    have p387 : 0 ≤ (x7_2 : Int) := of_decide_eq_true (by first | (with_reducible assumption) | assumption)
                                    have q387 : x7_2 < (l1.length : Int) := of_decide_eq_true (by first | (with_reducible assumption) | assumption)
                                    obtain ⟨ad387, e387, hx387_0⟩ := Kd.at_int HR1.out x7_2 p387 q387
                                    obtain rfl : ad377 = ad387 := (by injection e387)
                                    replace hx387_0 := (HB.out.cell (World.block_lt_of_cell? w _ hx387_0)).trans hx387_0
                                    replace p387 := eq_true p387
                                    replace q387 := eq_true q387
                                    obtain ⟨Ao34, co34, eo34⟩ := Kd.R_slice HO_8.out
                                    subst eo34
                                    go_wp2_with (first | ((with_reducible refine gate_callee (f := 17) rfl ?_); refine goesL_ (some 69) rfl rfl Try.func17 (by kernel_rfl) rfl #[.slice Ao34 t378.length co34] rfl (by (try simp only [List.map_toArray, List.map_cons, List.map_nil]); first | done | rfl | (simp only [List.length_drop, List.length_take]; rfl)) ?_; (with_reducible refine (lifo_Pop.calls _ _ t378 t388 t389 t390 _ ?side1 ?side2 A29.out).mono ?_); (case side1 => repeat (first | exact (Kd.R_reads' HO_8.out).2.2 | (with_reducible refine Kd.C_alloc ?_ _) | (with_reducible refine Kd.C_drewN ?_ _) | (with_reducible refine Kd.C_drew ?_))); (case side2 => exact (Kd.R_reads' HO_8.out).2.1); rintro e w35 ⟨v391, rfl, ho0, hb⟩; refine ⟨_, rfl, ?_⟩; have n0_ := Aside0.mk (Kd.R_elder' (by (with_reducible repeat (first | apply Kd.R_alloc | apply Kd.R_drewN | apply Kd.R_drew)); exact HO_6.out) (Kd.R_base ho0) hb); have n1_ := Aside0.mk (Kd.R_elder' (by (with_reducible repeat (first | apply Kd.R_alloc | apply Kd.R_drewN | apply Kd.R_drew)); exact HO_8.out) (Kd.R_base ho0) hb); have n2_ := Aside0.mk (Kd.R_lower (Kd.R_new' (Kd.R_new' ho0 (Kd.R_lt (by (with_reducible repeat (first | apply Kd.R_alloc | apply Kd.R_drewN | apply Kd.R_drew)); exact HO_6.out))) (Kd.R_lt (by (with_reducible repeat (first | apply Kd.R_alloc | apply Kd.R_drewN | apply Kd.R_drew)); exact HO_8.out))) (below_size (by repeat (first | (with_reducible first | exact HB.out | apply below_alloc | apply pw_below_drewN | apply below_drew1) | exact HB.out)))); have n3_ := Aside0.mk (below_step (by repeat (first | (with_reducible first | exact HB.out | apply below_alloc | apply pw_below_drewN | apply below_drew1) | exact HB.out)) hb); clear HO_6; clear HO_8; clear HB; have HO_6 := n0_; have HO_8 := n1_; have HO392 := n2_; have HB := n3_; clear n0_ n1_ n2_ n3_; (try clear hb); (try clear hb2); (try clear hk); (try clear hi); (try clear ho0); have p393 : 0 ≤ (x7_2 : Int) := of_decide_eq_true (by first | (with_reducible assumption) | assumption); have q393 : x7_2 < (l1.length : Int) := of_decide_eq_true (by first | (with_reducible assumption) | assumption); obtain ⟨ad393, e393, hx393_0⟩ := Kd.at_int HR1.out x7_2 p393 q393; obtain rfl : ad377 = ad393 := (by injection e393); replace hx393_0 := (HB.out.cell (World.block_lt_of_cell? w _ hx393_0)).trans hx393_0; replace p393 := eq_true p393; replace q393 := eq_true q393; obtain ⟨Ao36, co36, eo36⟩ := Kd.R_slice HO392.out; subst eo36) | (go_at_call 16; (with_reducible refine (hatstandref5_Same.calls kj15 _ _ t388 _ _ x6_2 true _ ?side1 ?side2 ?side3 ?side4 A32.out).mono ?_); (case side1 => repeat (first | exact (Kd.R_reads' HO392.out).2.2 | (with_reducible refine Kd.C_alloc ?_ _) | (with_reducible refine Kd.C_drewN ?_ _) | (with_reducible refine Kd.C_drew ?_))); (case side2 => exact (Kd.R_reads' HO392.out).2.1); (case side3 => repeat (first | exact (Kd.R_reads' HO_6.out).2.2 | (with_reducible refine Kd.C_alloc ?_ _) | (with_reducible refine Kd.C_drewN ?_ _) | (with_reducible refine Kd.C_drew ?_))); (case side4 => exact (Kd.R_reads' HO_6.out).2.1); rintro e w' ⟨rfl, ⟨nd, rfl⟩⟩))
                                    go_roundg kj15
                                    case measure => have := HJ3.out; have := HK2.out; have := HJ15.out; omega
                                    case rel => exact ⟨(t388), (wrap64 (x7_2 + 1)), (by first | rfl | (simp; done) | (simp [*]; done)), H', ⟨by have := HJ3.out; have := HK2.out; have := HJ15.out; omega⟩, ⟨by (with_reducible repeat (first | apply Kd.R_alloc | apply Kd.R_drewN | apply Kd.R_drew)); exact Kd.R_mono HO392.out (fun _ hk => trivial)⟩, ⟨by repeat (first | (with_reducible first | exact HB.out | apply below_alloc | apply pw_below_drewN | apply below_drew1) | exact HB.out)⟩⟩
                                  · replace c33 := Bool.eq_false_iff.mpr c33
                                    subst c33
                                    have H1 : (some false) = some r := by rw [if_neg (show ¬ (false = true) by decide)] at H; exact H
                                    clear H
                                    have H := H1
                                    clear H1
                                    exact absurd ((Option.some.inj H).trans HT0.out) (by decide)
                                · rw [if_neg c31] at H
                                  have c31b0 : (t389 == (rd l1 x7_2)) = false := beq_eq_false_iff_ne.mpr c31
                                  have c31b1 : (t389 != (rd l1 x7_2)) = true := bne_iff_ne.mpr c31
                                  exact absurd ((Option.some.inj H).trans HT0.out) (by decide)
                              · rw [if_neg c30] at H
                                have c30b0 : (t390 == 1) = false := beq_eq_false_iff_ne.mpr c30
                                have c30b1 : (t390 != 1) = true := bne_iff_ne.mpr c30
                                exact absurd ((Option.some.inj H).trans HT0.out) (by decide)
                            · rw [if_neg c28] at H
                              have c28b0 : ((Int.tmod (rd l1 x7_2) 2) == 0) = false := beq_eq_false_iff_ne.mpr c28
                              have c28b1 : ((Int.tmod (rd l1 x7_2) 2) != 0) = true := bne_iff_ne.mpr c28
                              have H' := Aside0.mk H
                              clear H
                              have p387 : 0 ≤ (x7_2 : Int) := of_decide_eq_true (by first | (with_reducible assumption) | assumption)
                              have q387 : x7_2 < (l1.length : Int) := of_decide_eq_true (by first | (with_reducible assumption) | assumption)
                              obtain ⟨ad387, e387, hx387_0⟩ := Kd.at_int HR1.out x7_2 p387 q387
                              obtain rfl : ad377 = ad387 := (by injection e387)
                              replace hx387_0 := (HB.out.cell (World.block_lt_of_cell? w _ hx387_0)).trans hx387_0
                              replace p387 := eq_true p387
                              replace q387 := eq_true q387
                              go_wp2
                              go_roundg kj15
                              case measure => have := HJ3.out; have := HK2.out; have := HJ15.out; omega
                              case rel => exact ⟨(t378), (wrap64 (x7_2 + 1)), (by first | rfl | (simp; done) | (simp [*]; done)), H', ⟨by have := HJ3.out; have := HK2.out; have := HJ15.out; omega⟩, ⟨by (with_reducible repeat (first | apply Kd.R_alloc | apply Kd.R_drewN | apply Kd.R_drew)); exact Kd.R_mono HO_8.out (fun _ hk => trivial)⟩, ⟨by repeat (first | (with_reducible first | exact HB.out | apply below_alloc | apply pw_below_drewN | apply below_drew1) | exact HB.out)⟩⟩
                          · rw [if_neg c27] at H
                            exact absurd H (by simp)
                        · rw [if_neg c26] at H
                          exact absurd H (by simp)
                · rw [if_neg c14] at H
                  exact absurd H (by simp)
              · rw [if_neg c13] at H
                have c13b0 : decide (x7_2 < (l1.length : Int)) = false := decide_eq_false c13
                clear c13
                by_cases c37 : (x6_2.length : Int) ≥ (l0.length : Int)
                · rw [if_pos c37] at H
                  have c37b0 : decide ((l0.length : Int) ≤ (x6_2.length : Int)) = true := decide_eq_true c37
                  have c37b1 : decide (l0.length ≤ x6_2.length) = true := decide_eq_true (Int.ofNat_le.mp c37)
                  clear c37
                  by_cases c38 : 0 ≤ (l0.length : Int)
                  · rw [if_pos c38] at H
                    have c38b0 := eq_true c38
                    have c38b1 : decide (0 ≤ (l0.length : Int)) = true := decide_eq_true c38
                    clear c38
                    by_cases c39 : (l0.length : Int) ≤ (x6_2.length : Int)
                    · rw [if_pos c39] at H
                      have c39b0 := eq_true c39
                      have c39b1 : decide ((l0.length : Int) ≤ (x6_2.length : Int)) = true := decide_eq_true c39
                      clear c39
                      obtain ⟨y372, hy372⟩ : ∃ y_ : List Int, y_ = (x6_2.take ((l0.length : Int) : Int).toNat) := ⟨_, rfl⟩
                      replace H : ((hatstandref5_Same.f k2 y372 l0).bind fun t376 => (some t376)) = some r := by first | (rw [hy372]; with_reducible exact H) | (have H2_ := (Option.bind_some _ _).symm.trans H; rw [hy372]; with_reducible exact H2_) | (have H2_ := (Option.bind_some _ _).symm.trans H; with_reducible exact H2_) | with_reducible exact H | (rw [hy372]; exact H) | exact H
                      have Ny372 := Aside0.mk hy372
                      clear hy372
                      replace H := Option.bind_eq_some_iff.mp H
                      obtain ⟨t376, A400, H⟩ := H
                      replace H : (some t376) = some r := H
                      have A40 := Aside0.mk A400
                      clear A400
                      obtain rfl := Option.some.inj H
                      obtain ⟨Ao41, co41, eo41⟩ := Kd.R_slice HO_6.out
                      subst eo41
                      have q42 : ((l0.length : Int) : Int) ≤ ((x6_2.length : Int) : Int) := of_decide_eq_true (by first | (with_reducible assumption) | assumption)
                      obtain ⟨i042, hi042, _, hsz42, _⟩ := info_parts info28
                      have hroom42 : x6_2.length ≤ co41 := (Kd.R_reads' HO_6.out).2.1
                      have hC42 : Kd.C (Kd.int .u64) _ Ao41 x6_2.length x6_2 := (Kd.R_reads' HO_6.out).2.2
                      have hcut42 := cut_to (P := Try.prog) 22 28 .i64 Try.underlying22 hi042 Ao41 x6_2.length co41 (l0.length : Int) (of_decide_eq_true (by first | (with_reducible assumption) | assumption)) q42 hroom42
                      have hr42 := Kd.C_take (m := ((l0.length : Int) : Int).toNat) hC42 (by omega)
                      have hy42 : y372.length = ((l0.length : Int) : Int).toNat := (by rw [Ny372.out, List.length_take]; omega)
                      rw [← Ny372.out] at hr42
                      rw [← hy42] at hcut42
                      have HR375 := Aside0.mk hr42
                      have HC375 := Aside0.mk (show y372.length ≤ co41 from by omega)
                      clear hr42 hC42 hroom42 hi042 hsz42
                      have KY42 := Aside0.mk hy42
                      clear hy42
                      have KL42 := Aside0.mk (show ((l0.length : Int) : Int).toNat ≤ x6_2.length from by omega)
                      replace q42 := eq_true q42
                      go_wp2_with (first | (go_at_call 16; (with_reducible refine (hatstandref5_Same.calls k2 _ _ y372 _ _ l0 t376 _ ?side1 ?side2 ?side3 ?side4 A40.out).mono ?_); (case side1 => repeat (first | exact (by repeat (first | (with_reducible exact HR375.out) | (with_reducible refine Kd.C_alloc ?_ _) | (with_reducible refine Kd.C_drewN ?_ _) | (with_reducible refine Kd.C_drew ?_) | exact HR375.out)) | (with_reducible refine Kd.C_alloc ?_ _) | (with_reducible refine Kd.C_drewN ?_ _) | (with_reducible refine Kd.C_drew ?_))); (case side2 => exact HC375.out); (case side3 => repeat (first | exact (Kd.C_below HR0.out HB.out) | (with_reducible refine Kd.C_alloc ?_ _) | (with_reducible refine Kd.C_drewN ?_ _) | (with_reducible refine Kd.C_drew ?_))); (case side4 => exact HC0.out); rintro e w' ⟨rfl, ⟨nd, rfl⟩⟩))
                      go_ret
                      exact ⟨by first | rfl | (simp [errW_none, errW_some] <;> rfl) | (simp [*, errW_none, errW_some] <;> rfl), by repeat (first | (with_reducible first | exact HB.out | apply below_alloc | apply pw_below_drewN | apply below_drew1) | exact HB.out)⟩
                    · rw [if_neg c39] at H
                      exact absurd H (by simp)
                  · rw [if_neg c38] at H
                    exact absurd H (by simp)
                · rw [if_neg c37] at H
                  have c37b0 : decide ((l0.length : Int) ≤ (x6_2.length : Int)) = false := decide_eq_false c37
                  have c37b1 : decide (l0.length ≤ x6_2.length) = false := decide_eq_false (fun h => c37 (Int.ofNat_le.mpr h))
                  clear c37
                  exact absurd ((Option.some.inj H).trans HT0.out) (by decide)
        · rw [if_neg c9] at H
          exact absurd H (by simp)

/-- THE ONE PURE STATEMENT of hatstandlaw5_LifoUnder. -/
def hatstandlaw5_LifoUnder.Pure : Prop := ∀ (l0 : List Int) (l1 : List Int), l0.length ≤ maxLen → l0.length * 8 ≤ 140737488351232 → (∀ x ∈ l0, (Lit.int .u64 x).wf = true) → l1.length ≤ maxLen → l1.length * 8 ≤ 140737488351232 → (∀ x ∈ l1, (Lit.int .u64 x).wf = true) → ∃ k, hatstandlaw5_LifoUnder.f k l0 l1 = some true
theorem hatstandlaw5_LifoUnder.walk (P : hatstandlaw5_LifoUnder.Pure) (A0 : Option Addr) (c0 : Nat) (l0 : List Int) (A1 : Option Addr) (c1 : Nat) (l1 : List Int) (w : World) (hr0 : Kd.C (Kd.int .u64) w A0 l0.length l0) (hc0 : l0.length ≤ c0) (hr1 : Kd.C (Kd.int .u64) w A1 l1.length l1) (hc1 : l1.length ≤ c1) (hm0 : l0.length ≤ maxLen) (y0 : l0.length * 8 ≤ 140737488351232) (hw0 : (∀ x ∈ l0, (Lit.int .u64 x).wf = true)) (hm1 : l1.length ≤ maxLen) (y1 : l1.length * 8 ≤ 140737488351232) (hw1 : (∀ x ∈ l1, (Lit.int .u64 x).wf = true)) :
    Calls Try.prog 9 #[.slice A0 l0.length c0, .slice A1 l1.length c1] w fun e w' => e = .returned (.bool true) ∧ Below w.heap.size w w' := by
  obtain ⟨k, h⟩ := P l0 l1 hm0 y0 hw0 hm1 y1 hw1
  refine (hatstandlaw5_LifoUnder.calls k A0 c0 l0 A1 c1 l1 true w hr0 hc0 hr1 hc1 h rfl).mono ?_
  rintro e w' ⟨rfl, hd⟩
  exact ⟨rfl, hd⟩

end Go.Proofs.Ytoafkejmdlcnpaa.P
