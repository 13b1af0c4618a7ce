/- Walks, written by a program for this claim: each Go function that the laws reach comes to what its Lean function says. -/
import Derived.Test.YtdcnnphgcapiaaaPx0
import Derived.Test.YtdcnnphgcapiaaaPx5
namespace Go.Proofs.Ytdcnnphgcapiaaa.P
open Go.RowKit Go.Proofs.YtdcnnphgcapiaaaW.PrintWords Go.Proofs.YtdcnnphgcapiaaaW.PrintLast Go.Proofs.YtdcnnphgcapiaaaW.PrintMore
attribute [local go_sem] max2_int min2_int max_two min_two max_three min_three max_four min_four   -- for this text's walks alone
set_option linter.unusedVariables false
set_option linter.unusedSimpArgs false

/-! ### history_Alone: function 16 -/
def history_Alone.l0 : Nat → List (S30) → Int → Option (Bool)
  | 0, _, _ => none
  | k + 1, x0, x3 => if x3 < (x0.length : Int) then (if 0 ≤ (wrap64 (x3 - 1)) then (if (wrap64 (x3 - 1)) < (x0.length : Int) then (if 0 ≤ x3 then ((history_Ahead.f ((rd_T30 x0 (wrap64 (x3 - 1))).f0) ((rd_T30 x0 (wrap64 (x3 - 1))).f1) ((rd_T30 x0 (wrap64 (x3 - 1))).f2) ((rd_T30 x0 (wrap64 (x3 - 1))).f3) ((rd_T30 x0 (wrap64 (x3 - 1))).f4) ((rd_T30 x0 (wrap64 (x3 - 1))).f5) ((rd_T30 x0 x3).f0) ((rd_T30 x0 x3).f1) ((rd_T30 x0 x3).f2) ((rd_T30 x0 x3).f3) ((rd_T30 x0 x3).f4) ((rd_T30 x0 x3).f5)).bind fun t354 => (if t354 = true then (history_Alone.l0 k x0 (wrap64 (x3 + 1))) else (some false))) else (none)) else (none)) else (none)) else (some true)
def history_Alone.f (k : Nat) (l0 : List (S30)) : Option (Bool) := history_Alone.l0 k l0 1
theorem history_Alone.mono_l : ∀ k, (∀ y0 y1, LeO (history_Alone.l0 k y0 y1) (history_Alone.l0 (k + 1) y0 y1))
  | 0 => fun _ _ r h => by simp [history_Alone.l0] at h
  | k + 1 => by
    have ih0 := history_Alone.mono_l k
    · intro y0 y1
      unfold history_Alone.l0
      repeat' first
      | (with_reducible exact ih0 _ _)
      | (with_reducible exact LeO.refl _)
      | (with_reducible exact LeO.none _)
      | (with_reducible refine LeO.ite ?_ ?_)
      | (with_reducible refine LeO.bind ?_ (fun _ => ?_))
      | exact ih0 _ _
      | exact LeO.none _
      | refine LeO.ite ?_ ?_
      | refine LeO.bind ?_ (fun _ => ?_)
theorem history_Alone.mono : ∀ a0 k, LeO (history_Alone.f k a0) (history_Alone.f (k + 1) a0) := by
  intro a0 k
  have ih0 := history_Alone.mono_l k
  unfold history_Alone.f
  repeat' first
      | (with_reducible exact ih0 _ _)
      | (with_reducible exact LeO.refl _)
      | (with_reducible exact LeO.none _)
      | (with_reducible refine LeO.ite ?_ ?_)
      | (with_reducible refine LeO.bind ?_ (fun _ => ?_))
      | exact ih0 _ _
      | exact LeO.none _
      | refine LeO.ite ?_ ?_
      | refine LeO.bind ?_ (fun _ => ?_)
def history_Alone.T4 : Bool × List (List Nat × List Nat) := (true, [([], []), ([], []), ([1], [1]), ([0, 2], [0, 2]), ([3], [3]), ([], []), ([], []), ([5, 6], [5, 6]), ([7], [7]), ([4, 8], [4, 8]), ([9], [9])])
def history_Alone.B4 : List Nat := [0, 0, 2, 7, 15, 0, 0, 96, 224, 511, 1023]
theorem history_Alone.tab4 : rtab .any (opsOf Try.f16 4) = history_Alone.T4 := by kernel_rfl
theorem history_Alone.bits4 : waitsOk history_Alone.T4.2 history_Alone.B4 = true := by kernel_rfl
set_option maxHeartbeats 8000000 in
set_option maxRecDepth 100000 in
theorem history_Alone.calls (k : Nat) (A0 : Option Addr) (c0 : Nat) (l0 : List (S30)) (r : Bool) (w : World) (hr0 : Kd.C k30 w A0 l0.length l0) (hc0 : l0.length ≤ c0) (h : history_Alone.f k l0 = some r) :
    Calls Try.prog 16 #[.slice A0 l0.length c0] w fun e w' => e = .returned (.bool r) ∧ Below w.heap.size w w' := by
  have hu30 := Try.underlying30
  have HR0 := Aside0.mk hr0
  have HC0 := Aside0.mk hc0
  clear hr0 hc0
  have HB := Aside0.mk (Below.refl w.heap.size w)
  have H : (history_Alone.l0 k l0 1) = some r := h
  clear h
  have H' := Aside0.mk H
  clear H
  go_enter Try.func16, Try.ntmps16
  go_wp2
  go_loopg [3] k (fun kq v3 w' => ∃ (x3_1 : Int), v3 = .int .i64 x3_1 ∧ Aside0 (history_Alone.l0 kq l0 x3_1 = some r) ∧ Aside0 (kq ≤ k) ∧ Aside0 (Below w.heap.size w w'))
  case atStart => exact ⟨(1), (by first | rfl | (simp; done) | (simp [*]; done)), H', ⟨Nat.le_refl _⟩, ⟨by repeat (first | (with_reducible first | exact HB.out | apply below_alloc | apply pw_below_drewN | apply below_drew1) | exact HB.out)⟩⟩
  case round =>
    clear H'
    try clear c1
    obtain ⟨x3_1, rfl, HA, HK1, HB⟩ := hrel
    cases gk with
    | zero => exact absurd HA.out (by simp [history_Alone.l0])
    | succ k1 =>
      have H := HA.out
      clear HA
      simp only [history_Alone.l0] at H
      by_cases c2 : x3_1 < (l0.length : Int)
      · rw [if_pos c2] at H
        have c2b0 : decide (x3_1 < (l0.length : Int)) = true := decide_eq_true c2
        clear c2
        obtain ⟨ji3, hji3⟩ : ∃ j_ : Int, (wrap64 (x3_1 - 1)) = j_ := ⟨_, rfl⟩
        replace H : (if 0 ≤ (ji3) then (if (ji3) < (l0.length : Int) then (if 0 ≤ x3_1 then ((history_Ahead.f ((rd_T30 l0 (ji3)).f0) ((rd_T30 l0 (ji3)).f1) ((rd_T30 l0 (ji3)).f2) ((rd_T30 l0 (ji3)).f3) ((rd_T30 l0 (ji3)).f4) ((rd_T30 l0 (ji3)).f5) ((rd_T30 l0 x3_1).f0) ((rd_T30 l0 x3_1).f1) ((rd_T30 l0 x3_1).f2) ((rd_T30 l0 x3_1).f3) ((rd_T30 l0 x3_1).f4) ((rd_T30 l0 x3_1).f5)).bind fun t354 => (if t354 = true then (history_Alone.l0 k1 l0 (wrap64 (x3_1 + 1))) else (some false))) else (none)) else (none)) else (none)) = some r := by first | (rw [hji3] at H; exact H) | (simp only [hji3] at H ⊢; exact H)
        have hji3w : (IntKind.i64.wrap (x3_1 - 1)) = ji3 := (i64_w _).trans hji3
        by_cases c4 : 0 ≤ (ji3)
        · rw [if_pos c4] at H
          have c4b0 : decide (0 ≤ (ji3)) = true := decide_eq_true c4
          clear c4
          by_cases c5 : (ji3) < (l0.length : Int)
          · rw [if_pos c5] at H
            have c5b0 : decide ((ji3) < (l0.length : Int)) = true := decide_eq_true c5
            clear c5
            by_cases c6 : 0 ≤ x3_1
            · rw [if_pos c6] at H
              have c6b0 : decide (0 ≤ x3_1) = true := decide_eq_true c6
              clear c6
              replace H := Option.bind_eq_some_iff.mp H
              obtain ⟨t354, A70, H⟩ := H
              replace H : (if t354 = true then (history_Alone.l0 k1 l0 (wrap64 (x3_1 + 1))) else (some false)) = some r := H
              have A7 := Aside0.mk A70
              clear A70
              by_cases c8 : t354 = true
              · subst c8
                have H1 : (history_Alone.l0 k1 l0 (wrap64 (x3_1 + 1))) = some r := by rw [if_pos rfl] at H; exact H
                clear H
                have H := H1
                clear H1
                have H' := Aside0.mk H
                clear H
                try go_wp2
                have n0_ := Aside0.mk (below_drew1 HB.out)
                clear HB
                have HB := n0_
                clear n0_
                have p352 : 0 ≤ ((ji3) : Int) := of_decide_eq_true (by first | (with_reducible assumption) | assumption)
                have q352 : (ji3) < (l0.length : Int) := of_decide_eq_true (by first | (with_reducible assumption) | assumption)
                obtain ⟨ad352, e352, hx352_0, hx352_1, hx352_2, hx352_3, hx352_4, hx352_5⟩ := at_T30 HR0.out (ji3) p352 q352
                have hw352_5 := hx352_5
                have hw352_4 := hx352_4
                have hw352_3 := hx352_3
                have hw352_2 := hx352_2
                have hw352_1 := hx352_1
                have hw352_0 := hx352_0
                cases e352
                replace hx352_0 := (HB.out.cell (World.block_lt_of_cell? w _ hx352_0)).trans hx352_0
                replace hx352_1 := (HB.out.cell (World.block_lt_of_cell? w _ hx352_1)).trans hx352_1
                replace hx352_2 := (HB.out.cell (World.block_lt_of_cell? w _ hx352_2)).trans hx352_2
                replace hx352_3 := (HB.out.cell (World.block_lt_of_cell? w _ hx352_3)).trans hx352_3
                replace hx352_4 := (HB.out.cell (World.block_lt_of_cell? w _ hx352_4)).trans hx352_4
                replace hx352_5 := (HB.out.cell (World.block_lt_of_cell? w _ hx352_5)).trans hx352_5
                replace p352 := eq_true p352
                replace q352 := eq_true q352
                have p353 : 0 ≤ (x3_1 : Int) := of_decide_eq_true (by first | (with_reducible assumption) | assumption)
                have q353 : x3_1 < (l0.length : Int) := of_decide_eq_true (by first | (with_reducible assumption) | assumption)
                obtain ⟨ad353, e353, hx353_0, hx353_1, hx353_2, hx353_3, hx353_4, hx353_5⟩ := at_T30 HR0.out x3_1 p353 q353
                have hw353_5 := hx353_5
                have hw353_4 := hx353_4
                have hw353_3 := hx353_3
                have hw353_2 := hx353_2
                have hw353_1 := hx353_1
                have hw353_0 := hx353_0
                obtain rfl : ad352 = ad353 := (by injection e353)
                replace hx353_0 := (HB.out.cell (World.block_lt_of_cell? w _ hx353_0)).trans hx353_0
                replace hx353_1 := (HB.out.cell (World.block_lt_of_cell? w _ hx353_1)).trans hx353_1
                replace hx353_2 := (HB.out.cell (World.block_lt_of_cell? w _ hx353_2)).trans hx353_2
                replace hx353_3 := (HB.out.cell (World.block_lt_of_cell? w _ hx353_3)).trans hx353_3
                replace hx353_4 := (HB.out.cell (World.block_lt_of_cell? w _ hx353_4)).trans hx353_4
                replace hx353_5 := (HB.out.cell (World.block_lt_of_cell? w _ hx353_5)).trans hx353_5
                replace p353 := eq_true p353
                replace q353 := eq_true q353
                refine start_ (n := 11) (S := fun w' => w'.cell? (ad352.add (((ji3)).toNat * 6)) = some (.int .i64 ((rd_T30 l0 (ji3)).f0)) ∧ w'.cell? ⟨(ad352.add (((ji3)).toNat * 6)).block, (ad352.add (((ji3)).toNat * 6)).off + 1, none⟩ = some (.bool ((rd_T30 l0 (ji3)).f1)) ∧ w'.cell? ⟨(ad352.add (((ji3)).toNat * 6)).block, (ad352.add (((ji3)).toNat * 6)).off + 2, none⟩ = some (.int .u64 ((rd_T30 l0 (ji3)).f2)) ∧ w'.cell? ⟨(ad352.add (((ji3)).toNat * 6)).block, (ad352.add (((ji3)).toNat * 6)).off + 3, none⟩ = some (.int .i64 ((rd_T30 l0 (ji3)).f3)) ∧ w'.cell? ⟨(ad352.add (((ji3)).toNat * 6)).block, (ad352.add (((ji3)).toNat * 6)).off + 4, none⟩ = some (.int .i64 ((rd_T30 l0 (ji3)).f4)) ∧ w'.cell? ⟨(ad352.add (((ji3)).toNat * 6)).block, (ad352.add (((ji3)).toNat * 6)).off + 5, none⟩ = some (.int .i64 ((rd_T30 l0 (ji3)).f5)) ∧ w'.cell? (ad352.add ((x3_1).toNat * 6)) = some (.int .i64 ((rd_T30 l0 x3_1).f0)) ∧ w'.cell? ⟨(ad352.add ((x3_1).toNat * 6)).block, (ad352.add ((x3_1).toNat * 6)).off + 1, none⟩ = some (.bool ((rd_T30 l0 x3_1).f1)) ∧ w'.cell? ⟨(ad352.add ((x3_1).toNat * 6)).block, (ad352.add ((x3_1).toNat * 6)).off + 2, none⟩ = some (.int .u64 ((rd_T30 l0 x3_1).f2)) ∧ w'.cell? ⟨(ad352.add ((x3_1).toNat * 6)).block, (ad352.add ((x3_1).toNat * 6)).off + 3, none⟩ = some (.int .i64 ((rd_T30 l0 x3_1).f3)) ∧ w'.cell? ⟨(ad352.add ((x3_1).toNat * 6)).block, (ad352.add ((x3_1).toNat * 6)).off + 4, none⟩ = some (.int .i64 ((rd_T30 l0 x3_1).f4)) ∧ w'.cell? ⟨(ad352.add ((x3_1).toNat * 6)).block, (ad352.add ((x3_1).toNat * 6)).off + 5, none⟩ = some (.int .i64 ((rd_T30 l0 x3_1).f5))) (ds := []) #[false, false, false, false, false, false, false, false, false, false, false] (by kernel_rfl) rfl rfl ⟨((HB.out.cell (World.block_lt_of_cell? w _ hw352_0)).trans hw352_0), ((HB.out.cell (World.block_lt_of_cell? w _ hw352_1)).trans hw352_1), ((HB.out.cell (World.block_lt_of_cell? w _ hw352_2)).trans hw352_2), ((HB.out.cell (World.block_lt_of_cell? w _ hw352_3)).trans hw352_3), ((HB.out.cell (World.block_lt_of_cell? w _ hw352_4)).trans hw352_4), ((HB.out.cell (World.block_lt_of_cell? w _ hw352_5)).trans hw352_5), ((HB.out.cell (World.block_lt_of_cell? w _ hw353_0)).trans hw353_0), ((HB.out.cell (World.block_lt_of_cell? w _ hw353_1)).trans hw353_1), ((HB.out.cell (World.block_lt_of_cell? w _ hw353_2)).trans hw353_2), ((HB.out.cell (World.block_lt_of_cell? w _ hw353_3)).trans hw353_3), ((HB.out.cell (World.block_lt_of_cell? w _ hw353_4)).trans hw353_4), ((HB.out.cell (World.block_lt_of_cell? w _ hw353_5)).trans hw353_5)⟩ (fun hHeld => ?_); refine with_tabW history_Alone.tab4 history_Alone.bits4 (fun HT_ HW_ => ?_)
                generalize wr.drew = w9 at HB hx352_0 hx352_1 hx352_2 hx352_3 hx352_4 hx352_5 hx353_0 hx353_1 hx353_2 hx353_3 hx353_4 hx353_5 hHeld ⊢
                refine pure_ (i := 0) (N := some 10) (v := ?_) (a' := ?_) #[true, false, false, false, false, false, false, false, false, false, false] rfl rfl (any_of HT_.out (by kernel_rfl)) (fun _ _ _ h => h) (Or.inl ⟨by rfl, ?_⟩) ?_ ?_
                rotate_left
                · intro w'
                  go_simp
                  with_reducible rfl
                rotate_left
                · simp only [Act.put, List.setIfInBounds_toArray, List.set_cons_zero, List.set_cons_succ, i64_w, i32_w, Go.IntKind.wrap_u32]
                  rfl
                refine pure_ (i := 1) (N := some 11) (v := ?_) (a' := ?_) #[true, true, false, false, false, false, false, false, false, false, false] rfl rfl (any_of HT_.out (by kernel_rfl)) (fun _ _ _ h => h) (Or.inl ⟨by rfl, ?_⟩) ?_ ?_
                rotate_left
                · intro w'
                  go_simp
                  with_reducible rfl
                rotate_left
                · simp only [Act.put, List.setIfInBounds_toArray, List.set_cons_zero, List.set_cons_succ, i64_w, i32_w, Go.IntKind.wrap_u32]
                  rfl
                refine pure_ (i := 2) (N := some 12) (v := ?_) (a' := ?_) #[true, true, true, false, false, false, false, false, false, false, false] rfl rfl (any_of HT_.out (by kernel_rfl)) (fun _ _ _ h => h) (Or.inl ⟨by rfl, ?_⟩) ?_ ?_
                rotate_left
                · intro w'
                  go_simp
                  with_reducible rfl
                rotate_left
                · simp only [Act.put, List.setIfInBounds_toArray, List.set_cons_zero, List.set_cons_succ, i64_w, i32_w, Go.IntKind.wrap_u32]
                  rfl
                refine pure_ (i := 3) (N := some 13) (v := ?_) (a' := ?_) #[true, true, true, true, false, false, false, false, false, false, false] rfl rfl (any_of HT_.out (by kernel_rfl)) (fun _ _ _ h => h) (Or.inl ⟨by rfl, ?_⟩) ?_ ?_
                rotate_left
                · intro w'
                  go_simp
                  with_reducible rfl
                rotate_left
                · simp only [Act.put, List.setIfInBounds_toArray, List.set_cons_zero, List.set_cons_succ, i64_w, i32_w, Go.IntKind.wrap_u32]
                  rfl
                refine pure_ (i := 5) (N := some 15) (v := ?_) (a' := ?_) #[true, true, true, true, false, true, false, false, false, false, false] rfl rfl (any_of HT_.out (by kernel_rfl)) (fun _ _ _ h => h) (Or.inl ⟨by rfl, ?_⟩) ?_ ?_
                rotate_left
                · intro w'
                  go_simp
                  with_reducible rfl
                rotate_left
                · simp only [Act.put, List.setIfInBounds_toArray, List.set_cons_zero, List.set_cons_succ, i64_w, i32_w, Go.IntKind.wrap_u32]
                  rfl
                refine pure_ (i := 6) (N := some 16) (v := ?_) (a' := ?_) #[true, true, true, true, false, true, true, false, false, false, false] rfl rfl (any_of HT_.out (by kernel_rfl)) (fun _ _ _ h => h) (Or.inl ⟨by rfl, ?_⟩) ?_ ?_
                rotate_left
                · intro w'
                  go_simp
                  with_reducible rfl
                rotate_left
                · simp only [Act.put, List.setIfInBounds_toArray, List.set_cons_zero, List.set_cons_succ, i64_w, i32_w, Go.IntKind.wrap_u32]
                  rfl
                refine pure_ (i := 7) (N := some 17) (v := ?_) (a' := ?_) #[true, true, true, true, false, true, true, true, false, false, false] rfl rfl (any_of HT_.out (by kernel_rfl)) (fun _ _ _ h => h) (Or.inl ⟨by rfl, ?_⟩) ?_ ?_
                rotate_left
                · intro w'
                  go_simp
                  with_reducible rfl
                rotate_left
                · simp only [Act.put, List.setIfInBounds_toArray, List.set_cons_zero, List.set_cons_succ, i64_w, i32_w, Go.IntKind.wrap_u32]
                  rfl
                refine take_ (i := 4) (N := some 14) (v := ?_) (a' := ?_) #[true, true, true, true, true, true, true, true, false, false, false] rfl rfl (take_ofW HT_.out HW_.out (by kernel_rfl)) (fun _ _ _ h => h) (Or.inl ⟨by rfl, ?_⟩) hHeld ?_ ?_
                rotate_left
                · rintro w' ⟨s0, s1, s2, s3, s4, s5, s6, s7, s8, s9, s10, s11⟩
                  go_simp
                  with_reducible rfl
                rotate_left
                · simp only [Act.put, List.setIfInBounds_toArray, List.set_cons_zero, List.set_cons_succ, i64_w, i32_w, Go.IntKind.wrap_u32]
                  rfl
                refine take_ (i := 8) (N := some 18) (v := ?_) (a' := ?_) #[true, true, true, true, true, true, true, true, true, false, false] rfl rfl (take_ofW HT_.out HW_.out (by kernel_rfl)) (fun _ _ _ h => h) (Or.inl ⟨by rfl, ?_⟩) hHeld ?_ ?_
                rotate_left
                · rintro w' ⟨s0, s1, s2, s3, s4, s5, s6, s7, s8, s9, s10, s11⟩
                  go_simp
                  with_reducible rfl
                rotate_left
                · simp only [Act.put, List.setIfInBounds_toArray, List.set_cons_zero, List.set_cons_succ, i64_w, i32_w, Go.IntKind.wrap_u32]
                  rfl
                refine one_ (i := 9) (N := some 19) #[true, true, true, true, true, true, true, true, true, true, false] rfl rfl (one_of HT_.out (by kernel_rfl)) (by decide) (fun K hK => ?_)
                refine goes_ Try.func28 (by kernel_rfl) rfl #[.agg #[.int .i64 ((rd_T30 l0 (ji3)).f0), .bool ((rd_T30 l0 (ji3)).f1), .int .u64 ((rd_T30 l0 (ji3)).f2), .int .i64 ((rd_T30 l0 (ji3)).f3), .int .i64 ((rd_T30 l0 (ji3)).f4), .int .i64 ((rd_T30 l0 (ji3)).f5)], .agg #[.int .i64 ((rd_T30 l0 x3_1).f0), .bool ((rd_T30 l0 x3_1).f1), .int .u64 ((rd_T30 l0 x3_1).f2), .int .i64 ((rd_T30 l0 x3_1).f3), .int .i64 ((rd_T30 l0 x3_1).f4), .int .i64 ((rd_T30 l0 x3_1).f5)]] (by rfl) rfl rfl (by (try simp only [List.map_toArray, List.map_cons, List.map_nil]); first | done | (simp only [hji3]; rfl) | rfl | (simp only [List.length_drop, List.length_take]; rfl)) ?_
                with_reducible refine (history_Ahead.calls ((rd_T30 l0 (ji3)).f0) ((rd_T30 l0 (ji3)).f1) ((rd_T30 l0 (ji3)).f2) ((rd_T30 l0 (ji3)).f3) ((rd_T30 l0 (ji3)).f4) ((rd_T30 l0 (ji3)).f5) ((rd_T30 l0 x3_1).f0) ((rd_T30 l0 x3_1).f1) ((rd_T30 l0 x3_1).f2) ((rd_T30 l0 x3_1).f3) ((rd_T30 l0 x3_1).f4) ((rd_T30 l0 x3_1).f5) true _ A7.out).mono ?_
                rintro e w10 ⟨rfl, hb⟩
                refine ⟨_, rfl, ?_⟩
                have n0_ := Aside0.mk (below_step (by repeat (first | (with_reducible first | exact HB.out | apply below_alloc | apply pw_below_drewN | apply below_drew1) | exact HB.out)) hb)
                clear HB
                have HB := n0_
                clear n0_
                (try clear hb)
                (try clear hb2)
                (try clear hk)
                (try clear hi)
                refine hK.out _ _ ⟨((HB.out.cell (World.block_lt_of_cell? w _ hw352_0)).trans hw352_0), ((HB.out.cell (World.block_lt_of_cell? w _ hw352_1)).trans hw352_1), ((HB.out.cell (World.block_lt_of_cell? w _ hw352_2)).trans hw352_2), ((HB.out.cell (World.block_lt_of_cell? w _ hw352_3)).trans hw352_3), ((HB.out.cell (World.block_lt_of_cell? w _ hw352_4)).trans hw352_4), ((HB.out.cell (World.block_lt_of_cell? w _ hw352_5)).trans hw352_5), ((HB.out.cell (World.block_lt_of_cell? w _ hw353_0)).trans hw353_0), ((HB.out.cell (World.block_lt_of_cell? w _ hw353_1)).trans hw353_1), ((HB.out.cell (World.block_lt_of_cell? w _ hw353_2)).trans hw353_2), ((HB.out.cell (World.block_lt_of_cell? w _ hw353_3)).trans hw353_3), ((HB.out.cell (World.block_lt_of_cell? w _ hw353_4)).trans hw353_4), ((HB.out.cell (World.block_lt_of_cell? w _ hw353_5)).trans hw353_5)⟩ (fun hHeld => ?_)
                clear hK K
                refine norm_ (a' := ?_) ?_ ?_
                rotate_left
                · show Act.put _ (some 19) _ = _
                  simp only [Act.put, List.setIfInBounds_toArray, List.set_cons_zero, List.set_cons_succ, i64_w, i32_w, Go.IntKind.wrap_u32]
                  rfl
                refine pure_ (i := 10) (N := some 20) (v := ?_) (a' := ?_) #[true, true, true, true, true, true, true, true, true, true, true] rfl rfl (any_of HT_.out (by kernel_rfl)) (fun _ _ _ h => h) (Or.inl ⟨by rfl, ?_⟩) ?_ ?_
                rotate_left
                · intro w'
                  go_simp
                  with_reducible rfl
                rotate_left
                · simp only [Act.put, List.setIfInBounds_toArray, List.set_cons_zero, List.set_cons_succ, i64_w, i32_w, Go.IntKind.wrap_u32]
                  rfl
                refine done_ (done_of HT_.out (by kernel_rfl)) ?_
                try go_wp2
                go_roundg k1
                case measure => have := HK1.out; omega
                case rel => exact ⟨(wrap64 (x3_1 + 1)), (by first | rfl | (simp; done) | (simp [*]; done)), H', ⟨by have := HK1.out; omega⟩, ⟨by repeat (first | (with_reducible first | exact HB.out | apply below_alloc | apply pw_below_drewN | apply below_drew1) | exact HB.out)⟩⟩
              · replace c8 := Bool.eq_false_iff.mpr c8
                subst c8
                have H1 : (some false) = some r := by rw [if_neg (show ¬ (false = true) by decide)] at H; exact H
                clear H
                have H := H1
                clear H1
                obtain rfl := Option.some.inj H
                try go_wp2
                have n0_ := Aside0.mk (below_drew1 HB.out)
                clear HB
                have HB := n0_
                clear n0_
                have p352 : 0 ≤ ((ji3) : Int) := of_decide_eq_true (by first | (with_reducible assumption) | assumption)
                have q352 : (ji3) < (l0.length : Int) := of_decide_eq_true (by first | (with_reducible assumption) | assumption)
                obtain ⟨ad352, e352, hx352_0, hx352_1, hx352_2, hx352_3, hx352_4, hx352_5⟩ := at_T30 HR0.out (ji3) p352 q352
                have hw352_5 := hx352_5
                have hw352_4 := hx352_4
                have hw352_3 := hx352_3
                have hw352_2 := hx352_2
                have hw352_1 := hx352_1
                have hw352_0 := hx352_0
                cases e352
                replace hx352_0 := (HB.out.cell (World.block_lt_of_cell? w _ hx352_0)).trans hx352_0
                replace hx352_1 := (HB.out.cell (World.block_lt_of_cell? w _ hx352_1)).trans hx352_1
                replace hx352_2 := (HB.out.cell (World.block_lt_of_cell? w _ hx352_2)).trans hx352_2
                replace hx352_3 := (HB.out.cell (World.block_lt_of_cell? w _ hx352_3)).trans hx352_3
                replace hx352_4 := (HB.out.cell (World.block_lt_of_cell? w _ hx352_4)).trans hx352_4
                replace hx352_5 := (HB.out.cell (World.block_lt_of_cell? w _ hx352_5)).trans hx352_5
                replace p352 := eq_true p352
                replace q352 := eq_true q352
                have p353 : 0 ≤ (x3_1 : Int) := of_decide_eq_true (by first | (with_reducible assumption) | assumption)
                have q353 : x3_1 < (l0.length : Int) := of_decide_eq_true (by first | (with_reducible assumption) | assumption)
                obtain ⟨ad353, e353, hx353_0, hx353_1, hx353_2, hx353_3, hx353_4, hx353_5⟩ := at_T30 HR0.out x3_1 p353 q353
                have hw353_5 := hx353_5
                have hw353_4 := hx353_4
                have hw353_3 := hx353_3
                have hw353_2 := hx353_2
                have hw353_1 := hx353_1
                have hw353_0 := hx353_0
                obtain rfl : ad352 = ad353 := (by injection e353)
                replace hx353_0 := (HB.out.cell (World.block_lt_of_cell? w _ hx353_0)).trans hx353_0
                replace hx353_1 := (HB.out.cell (World.block_lt_of_cell? w _ hx353_1)).trans hx353_1
                replace hx353_2 := (HB.out.cell (World.block_lt_of_cell? w _ hx353_2)).trans hx353_2
                replace hx353_3 := (HB.out.cell (World.block_lt_of_cell? w _ hx353_3)).trans hx353_3
                replace hx353_4 := (HB.out.cell (World.block_lt_of_cell? w _ hx353_4)).trans hx353_4
                replace hx353_5 := (HB.out.cell (World.block_lt_of_cell? w _ hx353_5)).trans hx353_5
                replace p353 := eq_true p353
                replace q353 := eq_true q353
                refine start_ (n := 11) (S := fun w' => w'.cell? (ad352.add (((ji3)).toNat * 6)) = some (.int .i64 ((rd_T30 l0 (ji3)).f0)) ∧ w'.cell? ⟨(ad352.add (((ji3)).toNat * 6)).block, (ad352.add (((ji3)).toNat * 6)).off + 1, none⟩ = some (.bool ((rd_T30 l0 (ji3)).f1)) ∧ w'.cell? ⟨(ad352.add (((ji3)).toNat * 6)).block, (ad352.add (((ji3)).toNat * 6)).off + 2, none⟩ = some (.int .u64 ((rd_T30 l0 (ji3)).f2)) ∧ w'.cell? ⟨(ad352.add (((ji3)).toNat * 6)).block, (ad352.add (((ji3)).toNat * 6)).off + 3, none⟩ = some (.int .i64 ((rd_T30 l0 (ji3)).f3)) ∧ w'.cell? ⟨(ad352.add (((ji3)).toNat * 6)).block, (ad352.add (((ji3)).toNat * 6)).off + 4, none⟩ = some (.int .i64 ((rd_T30 l0 (ji3)).f4)) ∧ w'.cell? ⟨(ad352.add (((ji3)).toNat * 6)).block, (ad352.add (((ji3)).toNat * 6)).off + 5, none⟩ = some (.int .i64 ((rd_T30 l0 (ji3)).f5)) ∧ w'.cell? (ad352.add ((x3_1).toNat * 6)) = some (.int .i64 ((rd_T30 l0 x3_1).f0)) ∧ w'.cell? ⟨(ad352.add ((x3_1).toNat * 6)).block, (ad352.add ((x3_1).toNat * 6)).off + 1, none⟩ = some (.bool ((rd_T30 l0 x3_1).f1)) ∧ w'.cell? ⟨(ad352.add ((x3_1).toNat * 6)).block, (ad352.add ((x3_1).toNat * 6)).off + 2, none⟩ = some (.int .u64 ((rd_T30 l0 x3_1).f2)) ∧ w'.cell? ⟨(ad352.add ((x3_1).toNat * 6)).block, (ad352.add ((x3_1).toNat * 6)).off + 3, none⟩ = some (.int .i64 ((rd_T30 l0 x3_1).f3)) ∧ w'.cell? ⟨(ad352.add ((x3_1).toNat * 6)).block, (ad352.add ((x3_1).toNat * 6)).off + 4, none⟩ = some (.int .i64 ((rd_T30 l0 x3_1).f4)) ∧ w'.cell? ⟨(ad352.add ((x3_1).toNat * 6)).block, (ad352.add ((x3_1).toNat * 6)).off + 5, none⟩ = some (.int .i64 ((rd_T30 l0 x3_1).f5))) (ds := []) #[false, false, false, false, false, false, false, false, false, false, false] (by kernel_rfl) rfl rfl ⟨((HB.out.cell (World.block_lt_of_cell? w _ hw352_0)).trans hw352_0), ((HB.out.cell (World.block_lt_of_cell? w _ hw352_1)).trans hw352_1), ((HB.out.cell (World.block_lt_of_cell? w _ hw352_2)).trans hw352_2), ((HB.out.cell (World.block_lt_of_cell? w _ hw352_3)).trans hw352_3), ((HB.out.cell (World.block_lt_of_cell? w _ hw352_4)).trans hw352_4), ((HB.out.cell (World.block_lt_of_cell? w _ hw352_5)).trans hw352_5), ((HB.out.cell (World.block_lt_of_cell? w _ hw353_0)).trans hw353_0), ((HB.out.cell (World.block_lt_of_cell? w _ hw353_1)).trans hw353_1), ((HB.out.cell (World.block_lt_of_cell? w _ hw353_2)).trans hw353_2), ((HB.out.cell (World.block_lt_of_cell? w _ hw353_3)).trans hw353_3), ((HB.out.cell (World.block_lt_of_cell? w _ hw353_4)).trans hw353_4), ((HB.out.cell (World.block_lt_of_cell? w _ hw353_5)).trans hw353_5)⟩ (fun hHeld => ?_); refine with_tabW history_Alone.tab4 history_Alone.bits4 (fun HT_ HW_ => ?_)
                generalize wr.drew = w11 at HB hx352_0 hx352_1 hx352_2 hx352_3 hx352_4 hx352_5 hx353_0 hx353_1 hx353_2 hx353_3 hx353_4 hx353_5 hHeld ⊢
                refine pure_ (i := 0) (N := some 10) (v := ?_) (a' := ?_) #[true, false, false, false, false, false, false, false, false, false, false] rfl rfl (any_of HT_.out (by kernel_rfl)) (fun _ _ _ h => h) (Or.inl ⟨by rfl, ?_⟩) ?_ ?_
                rotate_left
                · intro w'
                  go_simp
                  with_reducible rfl
                rotate_left
                · simp only [Act.put, List.setIfInBounds_toArray, List.set_cons_zero, List.set_cons_succ, i64_w, i32_w, Go.IntKind.wrap_u32]
                  rfl
                refine pure_ (i := 1) (N := some 11) (v := ?_) (a' := ?_) #[true, true, false, false, false, false, false, false, false, false, false] rfl rfl (any_of HT_.out (by kernel_rfl)) (fun _ _ _ h => h) (Or.inl ⟨by rfl, ?_⟩) ?_ ?_
                rotate_left
                · intro w'
                  go_simp
                  with_reducible rfl
                rotate_left
                · simp only [Act.put, List.setIfInBounds_toArray, List.set_cons_zero, List.set_cons_succ, i64_w, i32_w, Go.IntKind.wrap_u32]
                  rfl
                refine pure_ (i := 2) (N := some 12) (v := ?_) (a' := ?_) #[true, true, true, false, false, false, false, false, false, false, false] rfl rfl (any_of HT_.out (by kernel_rfl)) (fun _ _ _ h => h) (Or.inl ⟨by rfl, ?_⟩) ?_ ?_
                rotate_left
                · intro w'
                  go_simp
                  with_reducible rfl
                rotate_left
                · simp only [Act.put, List.setIfInBounds_toArray, List.set_cons_zero, List.set_cons_succ, i64_w, i32_w, Go.IntKind.wrap_u32]
                  rfl
                refine pure_ (i := 3) (N := some 13) (v := ?_) (a' := ?_) #[true, true, true, true, false, false, false, false, false, false, false] rfl rfl (any_of HT_.out (by kernel_rfl)) (fun _ _ _ h => h) (Or.inl ⟨by rfl, ?_⟩) ?_ ?_
                rotate_left
                · intro w'
                  go_simp
                  with_reducible rfl
                rotate_left
                · simp only [Act.put, List.setIfInBounds_toArray, List.set_cons_zero, List.set_cons_succ, i64_w, i32_w, Go.IntKind.wrap_u32]
                  rfl
                refine pure_ (i := 5) (N := some 15) (v := ?_) (a' := ?_) #[true, true, true, true, false, true, false, false, false, false, false] rfl rfl (any_of HT_.out (by kernel_rfl)) (fun _ _ _ h => h) (Or.inl ⟨by rfl, ?_⟩) ?_ ?_
                rotate_left
                · intro w'
                  go_simp
                  with_reducible rfl
                rotate_left
                · simp only [Act.put, List.setIfInBounds_toArray, List.set_cons_zero, List.set_cons_succ, i64_w, i32_w, Go.IntKind.wrap_u32]
                  rfl
                refine pure_ (i := 6) (N := some 16) (v := ?_) (a' := ?_) #[true, true, true, true, false, true, true, false, false, false, false] rfl rfl (any_of HT_.out (by kernel_rfl)) (fun _ _ _ h => h) (Or.inl ⟨by rfl, ?_⟩) ?_ ?_
                rotate_left
                · intro w'
                  go_simp
                  with_reducible rfl
                rotate_left
                · simp only [Act.put, List.setIfInBounds_toArray, List.set_cons_zero, List.set_cons_succ, i64_w, i32_w, Go.IntKind.wrap_u32]
                  rfl
                refine pure_ (i := 7) (N := some 17) (v := ?_) (a' := ?_) #[true, true, true, true, false, true, true, true, false, false, false] rfl rfl (any_of HT_.out (by kernel_rfl)) (fun _ _ _ h => h) (Or.inl ⟨by rfl, ?_⟩) ?_ ?_
                rotate_left
                · intro w'
                  go_simp
                  with_reducible rfl
                rotate_left
                · simp only [Act.put, List.setIfInBounds_toArray, List.set_cons_zero, List.set_cons_succ, i64_w, i32_w, Go.IntKind.wrap_u32]
                  rfl
                refine take_ (i := 4) (N := some 14) (v := ?_) (a' := ?_) #[true, true, true, true, true, true, true, true, false, false, false] rfl rfl (take_ofW HT_.out HW_.out (by kernel_rfl)) (fun _ _ _ h => h) (Or.inl ⟨by rfl, ?_⟩) hHeld ?_ ?_
                rotate_left
                · rintro w' ⟨s0, s1, s2, s3, s4, s5, s6, s7, s8, s9, s10, s11⟩
                  go_simp
                  with_reducible rfl
                rotate_left
                · simp only [Act.put, List.setIfInBounds_toArray, List.set_cons_zero, List.set_cons_succ, i64_w, i32_w, Go.IntKind.wrap_u32]
                  rfl
                refine take_ (i := 8) (N := some 18) (v := ?_) (a' := ?_) #[true, true, true, true, true, true, true, true, true, false, false] rfl rfl (take_ofW HT_.out HW_.out (by kernel_rfl)) (fun _ _ _ h => h) (Or.inl ⟨by rfl, ?_⟩) hHeld ?_ ?_
                rotate_left
                · rintro w' ⟨s0, s1, s2, s3, s4, s5, s6, s7, s8, s9, s10, s11⟩
                  go_simp
                  with_reducible rfl
                rotate_left
                · simp only [Act.put, List.setIfInBounds_toArray, List.set_cons_zero, List.set_cons_succ, i64_w, i32_w, Go.IntKind.wrap_u32]
                  rfl
                refine one_ (i := 9) (N := some 19) #[true, true, true, true, true, true, true, true, true, true, false] rfl rfl (one_of HT_.out (by kernel_rfl)) (by decide) (fun K hK => ?_)
                refine goes_ Try.func28 (by kernel_rfl) rfl #[.agg #[.int .i64 ((rd_T30 l0 (ji3)).f0), .bool ((rd_T30 l0 (ji3)).f1), .int .u64 ((rd_T30 l0 (ji3)).f2), .int .i64 ((rd_T30 l0 (ji3)).f3), .int .i64 ((rd_T30 l0 (ji3)).f4), .int .i64 ((rd_T30 l0 (ji3)).f5)], .agg #[.int .i64 ((rd_T30 l0 x3_1).f0), .bool ((rd_T30 l0 x3_1).f1), .int .u64 ((rd_T30 l0 x3_1).f2), .int .i64 ((rd_T30 l0 x3_1).f3), .int .i64 ((rd_T30 l0 x3_1).f4), .int .i64 ((rd_T30 l0 x3_1).f5)]] (by rfl) rfl rfl (by (try simp only [List.map_toArray, List.map_cons, List.map_nil]); first | done | (simp only [hji3]; rfl) | rfl | (simp only [List.length_drop, List.length_take]; rfl)) ?_
                with_reducible refine (history_Ahead.calls ((rd_T30 l0 (ji3)).f0) ((rd_T30 l0 (ji3)).f1) ((rd_T30 l0 (ji3)).f2) ((rd_T30 l0 (ji3)).f3) ((rd_T30 l0 (ji3)).f4) ((rd_T30 l0 (ji3)).f5) ((rd_T30 l0 x3_1).f0) ((rd_T30 l0 x3_1).f1) ((rd_T30 l0 x3_1).f2) ((rd_T30 l0 x3_1).f3) ((rd_T30 l0 x3_1).f4) ((rd_T30 l0 x3_1).f5) false _ A7.out).mono ?_
                rintro e w12 ⟨rfl, hb⟩
                refine ⟨_, rfl, ?_⟩
                have n0_ := Aside0.mk (below_step (by repeat (first | (with_reducible first | exact HB.out | apply below_alloc | apply pw_below_drewN | apply below_drew1) | exact HB.out)) hb)
                clear HB
                have HB := n0_
                clear n0_
                (try clear hb)
                (try clear hb2)
                (try clear hk)
                (try clear hi)
                refine hK.out _ _ ⟨((HB.out.cell (World.block_lt_of_cell? w _ hw352_0)).trans hw352_0), ((HB.out.cell (World.block_lt_of_cell? w _ hw352_1)).trans hw352_1), ((HB.out.cell (World.block_lt_of_cell? w _ hw352_2)).trans hw352_2), ((HB.out.cell (World.block_lt_of_cell? w _ hw352_3)).trans hw352_3), ((HB.out.cell (World.block_lt_of_cell? w _ hw352_4)).trans hw352_4), ((HB.out.cell (World.block_lt_of_cell? w _ hw352_5)).trans hw352_5), ((HB.out.cell (World.block_lt_of_cell? w _ hw353_0)).trans hw353_0), ((HB.out.cell (World.block_lt_of_cell? w _ hw353_1)).trans hw353_1), ((HB.out.cell (World.block_lt_of_cell? w _ hw353_2)).trans hw353_2), ((HB.out.cell (World.block_lt_of_cell? w _ hw353_3)).trans hw353_3), ((HB.out.cell (World.block_lt_of_cell? w _ hw353_4)).trans hw353_4), ((HB.out.cell (World.block_lt_of_cell? w _ hw353_5)).trans hw353_5)⟩ (fun hHeld => ?_)
                clear hK K
                refine norm_ (a' := ?_) ?_ ?_
                rotate_left
                · show Act.put _ (some 19) _ = _
                  simp only [Act.put, List.setIfInBounds_toArray, List.set_cons_zero, List.set_cons_succ, i64_w, i32_w, Go.IntKind.wrap_u32]
                  rfl
                refine pure_ (i := 10) (N := some 20) (v := ?_) (a' := ?_) #[true, true, true, true, true, true, true, true, true, true, true] rfl rfl (any_of HT_.out (by kernel_rfl)) (fun _ _ _ h => h) (Or.inl ⟨by rfl, ?_⟩) ?_ ?_
                rotate_left
                · intro w'
                  go_simp
                  with_reducible rfl
                rotate_left
                · simp only [Act.put, List.setIfInBounds_toArray, List.set_cons_zero, List.set_cons_succ, i64_w, i32_w, Go.IntKind.wrap_u32]
                  rfl
                refine done_ (done_of HT_.out (by kernel_rfl)) ?_
                try go_wp2
                go_ret
                exact ⟨by first | rfl | (simp [errW_none, errW_some] <;> rfl) | (simp only [← hji3]; first | rfl | (simp [errW_none, errW_some] <;> rfl)) | (simp [*, errW_none, errW_some] <;> rfl), by repeat (first | (with_reducible first | exact HB.out | apply below_alloc | apply pw_below_drewN | apply below_drew1) | exact HB.out)⟩
            · rw [if_neg c6] at H
              exact absurd H (by simp)
          · rw [if_neg c5] at H
            exact absurd H (by simp)
        · rw [if_neg c4] at H
          exact absurd H (by simp)
      · rw [if_neg c2] at H
        have c2b0 : decide (x3_1 < (l0.length : Int)) = false := decide_eq_false c2
        clear c2
        obtain rfl := Option.some.inj H
        go_wp2
        go_ret
        exact ⟨by first | rfl | (simp [errW_none, errW_some] <;> rfl) | (simp [*, errW_none, errW_some] <;> rfl), by repeat (first | (with_reducible first | exact HB.out | apply below_alloc | apply pw_below_drewN | apply below_drew1) | exact HB.out)⟩

end Go.Proofs.Ytdcnnphgcapiaaa.P
