/- Contracts of a source's functions: what each tells, what it leaves, and which blocks it writes. -/
import Derived.Test.YtaohgjglfpnlkaaPx0
namespace Go.Proofs.Ytaohgjglfpnlkaa.P
open Go.RowKit Go.Proofs.YtaohgjglfpnlkaaW.PrintWords Go.Proofs.YtaohgjglfpnlkaaW.PrintLast Go.Proofs.YtaohgjglfpnlkaaW.PrintMore
attribute [local go_sem] max2_int min2_int max_two min_two max_three min_three max_four min_four
set_option linter.unusedVariables false
set_option linter.unusedSimpArgs false
set_option maxHeartbeats 1000000
set_option maxRecDepth 100000
theorem sinfo3 : (Try.prog.info? 3).map (fun i => (i.zero, i.size, i.bytes)) = some (some (.int .i64 0), 1, 8) := by kernel_rfl
theorem sinfo29 : (Try.prog.info? 29).map (fun i => (i.zero, i.size, i.bytes)) = some (some (.int .u64 0), 1, 8) := by kernel_rfl
theorem ssize3 : (Try.prog.info? 3).map (·.size) = some 1 := by kernel_rfl
/-- A source at block g: its time, and its draws, a row of the call's own. -/
structure Src (κ : IntKind) (t e : Nat) (W : World) (base g : Nat) (v : Value) (now : Int) (dr : List Int) : Prop where
  blk : W.heap[g]? = some (.cells #[.int .u64 now, v] t (0, 0))
  ge : base ≤ g
  row : Kd.R (Kd.int κ) e W base (fun _ => True) v dr
/-- What a call of a source's does to the world: the source's block and its draws' one are written, no other one. -/
structure Moves (w w' : World) (base g : Nat) (v v' : Value) : Prop where
  below : Below base w w'
  kept : Kept w w' (fun k => k = g ∨ some k = v.ownBlock)
  own : v'.ownBlock = v.ownBlock ∨ ∃ b, v'.ownBlock = some b ∧ w.heap.size ≤ b
section
variable {κ κ2 : IntKind} {t e t2 e2 : Nat} {W W' : World} {base g g2 : Nat} {v v' v2 : Value} {now now2 : Int} {dr dr2 : List Int} {S : Nat → Prop}
theorem Src.lt (h : Src κ t e W base g v now dr) : g < W.heap.size := blk_lt h.blk
theorem Src.lower {b : Nat} (h : Src κ t e W base g v now dr) (hb : b ≤ base) : Src κ t e W b g v now dr := ⟨h.blk, Nat.le_trans hb h.ge, Kd.R_lower h.row hb⟩
theorem Src.kept (h : Src κ t e W base g v now dr) (hk : Kept W W' S) (hg : ¬ S g) (hv : ∀ k, v.ownBlock = some k → ¬ S k) : Src κ t e W' base g v now dr :=
  ⟨blk_kept h.blk hk hg, h.ge, Kd.R_mono (Kd.R_kept (Kd.R_tight rfl h.row) hk (fun k hk' => hv k hk'.symm)) (fun _ _ => trivial)⟩
theorem Src.below (h : Src κ t e W base g v now dr) (hb : Below W.heap.size W W') : Src κ t e W' base g v now dr := h.kept (Kept.of_below hb (fun _ => False)) id (fun _ _ => id)
theorem Src.cell0 (h : Src κ t e W base g v now dr) : W.cell? ⟨g, 0, none⟩ = some (.int .u64 now) := (blk_cell h.blk 0).trans rfl
theorem Src.cell1 (h : Src κ t e W base g v now dr) : W.cell? ⟨g, 1, none⟩ = some v := (blk_cell h.blk 1).trans rfl
theorem Src.frozen (h : Src κ t e W base g v now dr) (i : Nat) : W.frozen? ⟨g, i, none⟩ = false := blk_frozen h.blk i
theorem Src.slice (h : Src κ t e W base g v now dr) : ∃ A c, v = .slice A dr.length c := Kd.R_slice h.row
/-- The source's block is not its draws' one, nor those of a source of other types. -/
theorem Src.ne (h : Src κ t e W base g v now dr) (ht : e ≠ t) : some g ≠ v.ownBlock := Kd.R_ne h.row h.blk ht
theorem Src.ne2 (h : Src κ t e W base g v now dr) {cs : Array Value} {a q : Nat} (hb : W.heap[a]? = some (.cells cs q (0, 0))) (hq : e ≠ q) : some a ≠ v.ownBlock := Kd.R_ne h.row hb hq
theorem Src.ne3 (h : Src κ t e W base g v now dr) {cs : Array Value} {a q : Nat} (hb : W.heap[a]? = some (.cells cs q (0, 0))) (hq : t ≠ q) : g ≠ a := by
  rintro rfl
  have hx := h.blk
  rw [hb] at hx
  injection hx with hx
  injection hx with _ hx
  exact hq hx.symm
theorem Src.typed (h : Src κ t e W base g v now dr) : ∀ k, v.ownBlock = some k → ∃ cells, W.heap[k]? = some (.cells cells e (0, 0)) := Kd.R_typed h.row
theorem Src.own_lt (h : Src κ t e W base g v now dr) : ∀ k, v.ownBlock = some k → k < W.heap.size := Kd.R_lt h.row
theorem Src.own_ge (h : Src κ t e W base g v now dr) : ∀ k, v.ownBlock = some k → base ≤ k := Kd.R_base h.row
/-- A source of other types stays. -/
theorem Src.other (h : Src κ t e W base g v now dr) (h2 : Src κ2 t2 e2 W base g2 v2 now2 dr2) (hm : Moves W W' base g v v') (a1 : t2 ≠ t) (a2 : t2 ≠ e) (a3 : e2 ≠ t) (a4 : e2 ≠ e) : Src κ2 t2 e2 W' base g2 v2 now2 dr2 := by
  refine h2.kept hm.kept ?_ ?_
  · rintro (rfl | hk)
    · exact h2.ne3 h.blk a1 rfl
    · obtain ⟨cs, hc⟩ := h.typed g2 hk.symm
      exact h2.ne3 hc a2 rfl
  · rintro k hk (rfl | hk2)
    · exact h2.ne2 h.blk a3 hk.symm
    · obtain ⟨cs, hc⟩ := h.typed k hk2.symm
      exact h2.ne2 hc a4 hk.symm
/-- .. and a row of other types. -/
theorem Src.rowOther {α : Type} {d : Kd α} {q : Nat} {ok : Nat → Prop} {u : Value} {xs : List α} {b : Nat} (h : Src κ t e W base g v now dr) (hr : d.R q W b ok u xs) (hd : d.E = []) (hm : Moves W W' base g v v') (a3 : q ≠ t) (a4 : q ≠ e) : d.R q W' b ok u xs := by
  refine Kd.R_reok hd (Kd.R_kept (Kd.R_tight hd hr) hm.kept ?_) (fun k hk => hr.1 k hk)
  rintro k hk (rfl | hk2)
  · exact Kd.R_ne hr h.blk a3 hk
  · obtain ⟨cs, hc⟩ := h.typed k hk2.symm
    exact Kd.R_ne hr hc a4 hk
theorem Moves.trans {w w1 w2 : World} {v1 v2 : Value} (h : Moves w w1 base g v v1) (k : Moves w1 w2 base g v1 v2) (hv : ∀ k, v.ownBlock = some k → k < w.heap.size) : Moves w w2 base g v v2 := by
  refine ⟨h.below.trans k.below, h.kept.then_ k.kept ?_, ?_⟩
  · rintro x (rfl | hx)
    · exact .inl (.inl rfl)
    · rcases h.own with ho | ⟨b, hb, hle⟩
      · exact .inl (.inr (by rw [hx, ho]))
      · rw [hb] at hx; injection hx with hx; exact .inr (hx ▸ hle)
  · rcases k.own with ho | ⟨b, hb, hle⟩
    · rcases h.own with ho2 | ⟨b, hb, hle⟩
      · exact .inl (ho.trans ho2)
      · exact .inr ⟨b, ho.trans hb, hle⟩
    · exact .inr ⟨b, hb, Nat.le_trans h.below.size hle⟩
theorem Moves.of_below {w w1 : World} (h : Below w.heap.size w w1) (hb : base ≤ w.heap.size) : Moves w w1 base g v v := ⟨h.mono hb, Kept.of_below h _, .inl rfl⟩
/-- A store of the time. -/
theorem Src.setNow (h : Src κ t e W base g v now dr) (ht : e ≠ t) (x : Int) : Src κ t e (W.setCell ⟨g, 0, none⟩ (.int .u64 x)) base g v x dr :=
  ⟨by simpa using blk_set h.blk 0 (.int .u64 x), h.ge, Kd.R_mono (Kd.R_far (Kd.R_tight rfl h.row) (p := ⟨g, 0, none⟩) (fun k hk he => h.ne ht (by subst he; exact hk)) _) (fun _ _ => trivial)⟩
/-- A store of the draws. -/
theorem Src.setRow {u : Value} {dr' : List Int} (hb : W.heap[g]? = some (.cells #[.int .u64 now, v] t (0, 0))) (hg : base ≤ g) (hr : Kd.R (Kd.int κ) e W base (fun _ => True) u dr') (ht : e ≠ t) : Src κ t e (W.setCell ⟨g, 1, none⟩ u) base g u now dr' :=
  ⟨by simpa using blk_set hb 1 u, hg, Kd.R_mono (Kd.R_far (Kd.R_tight rfl hr) (p := ⟨g, 1, none⟩) (fun k hk he => Kd.R_ne hr hb ht (by subst he; exact hk)) _) (fun _ _ => trivial)⟩
/-- A source that no draws were added to stays where another one's time is moved. -/
theorem Src.still (h2 : Src κ2 t2 e2 W base g2 (.slice none 0 0) now2 dr2) (hm : Moves W W' base g (.slice none 0 0) v') (hn : g2 ≠ g) : Src κ2 t2 e2 W' base g2 (.slice none 0 0) now2 dr2 :=
  h2.kept hm.kept (by rintro (h | h); exact hn h; simp [Value.ownBlock] at h) (fun k hk => by simp [Value.ownBlock] at hk)
/-- .. and one whose draws lie apart. -/
theorem Src.apart (h2 : Src κ t e W base g2 v2 now2 dr2) (h : Src κ t e W base g v now dr) (hm : Moves W W' base g v v') (ht : e ≠ t) (hn : g2 ≠ g) (hv : ∀ k, v.ownBlock = some k → v2.ownBlock ≠ some k) : Src κ t e W' base g2 v2 now2 dr2 := by
  refine h2.kept hm.kept ?_ ?_
  · rintro (hk | hk)
    · exact hn hk
    · exact Src.ne2 h h2.blk ht hk
  · rintro k hk (rfl | hk2)
    · exact Src.ne2 h2 h.blk ht hk.symm
    · exact hv k hk2.symm hk
/-- Rows of two sources that lie apart. -/
def Ap (u v : Value) : Prop := ∀ k, u.ownBlock = some k → v.ownBlock ≠ some k
theorem Ap.symm {u v : Value} (h : Ap u v) : Ap v u := fun k h1 h2 => h k h2 h1
theorem Moves.ap (hm : Moves W W' base g v v') (hb : ∀ k, v2.ownBlock = some k → k < W.heap.size) (h : Ap v v2) : Ap v' v2 := by
  intro k h1 h2
  rcases hm.own with ho | ⟨b, hb2, hle⟩
  · exact h k (ho ▸ h1) h2
  · rw [hb2] at h1
    injection h1 with h1
    have := hb k h2
    omega
/-- A row of other types grew. -/
theorem Src.rowGrown {α : Type} {d : Kd α} {q b : Nat} {ok : Nat → Prop} {u : Value} {xs : List α} (h : Src κ t e W base g v now dr) (hr : d.R q W b ok u xs) (hg : W.grownBy W' u.ownBlock) (a3 : q ≠ t) (a4 : q ≠ e) : Src κ t e W' base g v now dr := by
  refine h.kept (S := fun k => u.ownBlock = some k) (Kept.of_grown hg (Kept.refl W _) (fun k hk => .inl hk)) ?_ ?_
  · intro hk
    exact Kd.R_ne hr h.blk a3 hk.symm
  · intro k hk hk2
    obtain ⟨cs, hc⟩ := h.typed k hk
    exact Kd.R_ne hr hc a4 hk2.symm
theorem Src.rowOtherQ {α : Type} {d : Kd α} {q : Nat} {ok : Nat → Prop} {u : Value} {xs : List α} {b : Nat} (h : Src κ t e W base g v now dr) (hr : d.Q q W b ok u xs) (hd : d.E = []) (hm : Moves W W' base g v v') (a3 : q ≠ t) (a4 : q ≠ e) : d.Q q W' b (fun _ => True) u xs := by
  refine Kd.Q_mono (Kd.Q_kept (Kd.Q_tight hd hr) hm.kept ?_) (fun _ _ => trivial)
  rintro k hk (rfl | hk2)
  · exact Kd.Q_ne hr h.blk a3 hk
  · obtain ⟨cs, hc⟩ := h.typed k hk2.symm
    exact Kd.Q_ne hr hc a4 hk
end
/-! ### what the functions of the program tell -/
def tk (now n : Int) : Int := if now + n ≤ 18446744073709551615 then now + n else 18446744073709551615
def dl (now n : Int) : Int := IntKind.u64.wrap (now + mn n (IntKind.u64.wrap (18446744073709551615 - now)))
theorem u64w {x : Int} (h0 : 0 ≤ x) (h1 : x ≤ 18446744073709551615) : IntKind.u64.wrap x = x := by
  rw [Go.IntKind.wrap_u64]; omega
theorem dl_tk (now n : Int) (h0 : 0 ≤ now) (h1 : now ≤ 18446744073709551615) (h2 : 0 ≤ n) (h3 : n ≤ 18446744073709551615) : dl now n = tk now n := by
  unfold dl tk
  rw [u64w (x := 18446744073709551615 - now) (by omega) (by omega)]
  unfold mn
  by_cases c : 18446744073709551615 - now < n
  · rw [if_pos c, if_neg (by omega), u64w (by omega) (by omega)]; omega
  · rw [if_neg c, if_pos (by omega), u64w (by omega) (by omega)]
def addR (d : Int) : Int := if 64 ≤ d then 1 else 0
def addL (dr : List Int) (d : Int) : List Int := if 64 ≤ d then dr else dr ++ [d]
def drawR (n : Int) (dr : List Int) : Int := if n < 1 then 0 else if dr.length = 0 then 0 else Int.tmod (rd dr 0) n
def drawL (n : Int) (dr : List Int) : List Int := if n < 1 then dr else dr.drop 1
/-! ### New -/
set_option maxHeartbeats 8000000 in
set_option maxRecDepth 100000 in
theorem new_calls (w : World) : Calls Try.prog 11 #[] w fun e w' => ∃ g : Nat, e = .returned (.pointer (some ⟨g, 0, none⟩)) ∧ Src .i64 49 3 w' w.heap.size g (.slice none 0 0) 0 [] ∧ Below w.heap.size w w' := by
  have hu49 := Try.underlying49
  have HBW := Aside0.mk (Below.refl w.heap.size w)
  go_enter Try.func11, Try.ntmps11
  go_wp2_with (first | ((with_reducible refine gate_dst (N := 2) rfl ?_); refine box_event ?hg (N := 2) ?hd (cs := #[.int .u64 0, .slice none 0 0]) (t := 49) ?hr ?_; (case hd => rfl); (case hg => rfl); (case hr => first | (go_simp; done) | (go_simp; rfl)); intro gb101 hg w1 hbox hb; have n0_ := Aside0.mk (below_step HBW.out hb); have n2_ := Aside0.mk (hbox); have n3_ := Aside0.mk ((by rw [hg]; exact (below_size (by repeat (first | (with_reducible first | exact HBW.out | apply below_alloc | apply pw_below_drewN | apply below_drew1) | exact HBW.out))) : w.heap.size ≤ gb101)); clear HBW; have HBW := n0_; have BK101 := n2_; have GW101 := n3_; clear n0_ n2_ n3_; clear hb hbox hg))
  go_ret
  exact ⟨_, rfl, ⟨by (with_reducible repeat (first | refine blk_drewN ?_ _ | refine blk_drew ?_ | refine blk_alloc ?_ _)); exact BK101.out, GW101.out, Kd.R_nil _ _ _ _ _⟩, by repeat (first | (with_reducible first | exact HBW.out | apply below_alloc | apply pw_below_drewN | apply below_drew1 | refine below_set ?_ GW101.out) | exact HBW.out)⟩
/-! ### Now, Left -/
section
variable {w : World} {base g : Nat} {v : Value} {now : Int} {dr : List Int}
set_option maxHeartbeats 8000000 in
set_option maxRecDepth 100000 in
theorem now_calls (h : Src .i64 49 3 w base g v now dr) : Calls Try.prog 16 #[.pointer (some ⟨g, 0, none⟩)] w fun e w' => e = .returned (.int .u64 now) ∧ Below w.heap.size w w' := by
  have hc := h.cell0
  clear h
  go_enter Try.func16, Try.ntmps16
  go_wp2
  go_ret
  exact ⟨rfl, by repeat (first | exact Below.refl _ _ | apply below_alloc | apply pw_below_drewN | apply below_drew1)⟩
set_option maxHeartbeats 8000000 in
set_option maxRecDepth 100000 in
theorem left_calls (h : Src .i64 49 3 w base g v now dr) : Calls Try.prog 14 #[.pointer (some ⟨g, 0, none⟩)] w fun e w' => e = .returned (.int .i64 (dr.length : Int)) ∧ Below w.heap.size w w' := by
  obtain ⟨A, c, rfl⟩ := h.slice
  have hc := h.cell1
  clear h
  go_enter Try.func14, Try.ntmps14
  go_wp2
  go_ret
  exact ⟨rfl, by repeat (first | exact Below.refl _ _ | apply below_alloc | apply pw_below_drewN | apply below_drew1)⟩
end
/-! ### Deadline, Tick -/
set_option maxHeartbeats 8000000 in
set_option maxRecDepth 100000 in
theorem dl_calls (a0 a1 : Int) (w : World) : Calls Try.prog 18 #[.int .u64 a0, .int .u64 a1] w fun e w' => e = .returned (.int .u64 (dl a0 a1)) ∧ Below w.heap.size w w' := by
  have HB := Aside0.mk (Below.refl w.heap.size w)
  obtain ⟨ji3, hji3⟩ : ∃ j_ : Int, (mn a1 (IntKind.u64.wrap (18446744073709551615 - a0))) = j_ := ⟨_, rfl⟩
  have e : dl a0 a1 = IntKind.u64.wrap (a0 + ji3) := by unfold dl; rw [hji3]
  rw [e]; clear e
  have hji3_ : (if (IntKind.u64.wrap (18446744073709551615 - a0)) < a1 then (IntKind.u64.wrap (18446744073709551615 - a0)) else a1) = ji3 := hji3
  go_enter Try.func18, Try.ntmps18
  go_wp2
  go_ret
  exact ⟨by first | rfl | (simp [errW_none, errW_some] <;> rfl) | (simp only [← hji3]; first | rfl | (simp [errW_none, errW_some] <;> rfl)) | (simp [*, errW_none, errW_some] <;> rfl), by repeat (first | (with_reducible first | exact HB.out | apply below_alloc | apply pw_below_drewN | apply below_drew1) | exact HB.out)⟩
set_option maxHeartbeats 8000000 in
set_option maxRecDepth 100000 in
theorem tick_calls {w : World} {base g : Nat} {v : Value} {now : Int} {dr : List Int} (h : Src .i64 49 3 w base g v now dr) (hb : base ≤ w.heap.size) (a1 : Int) :
    Calls Try.prog 17 #[.pointer (some ⟨g, 0, none⟩), .int .u64 a1] w fun e w' => e = .returned (.tuple #[]) ∧ Src .i64 49 3 w' base g v (dl now a1) dr ∧ Moves w w' base g v v := by
  have HS := Aside0.mk h
  have HM := Aside0.mk (Moves.of_below (g := g) (v := v) (Below.refl w.heap.size w) hb)
  have hc0 := h.cell0
  have hf0 := h.frozen 0
  clear h
  go_enter Try.func17, Try.ntmps17
  go_wp2_with (first | ((with_reducible refine gate_callee (f := 18) rfl ?_); refine goesL_ (some 10) rfl rfl Try.func18 (by kernel_rfl) rfl #[.int .u64 now, .int .u64 a1] rfl (by (try simp only [List.map_toArray, List.map_cons, List.map_nil]); first | done | rfl) ?_; (with_reducible refine (dl_calls now a1 _).mono ?_); rintro e w5 ⟨rfl, hb5⟩; refine ⟨_, rfl, ?_⟩; have HS5 := Aside0.mk (HS.out.below hb5); have HM5 := Aside0.mk (HM.out.trans (Moves.of_below (g := g) (v := v) hb5 (Nat.le_trans hb HM.out.below.size)) HS.out.own_lt); clear hc0 hf0 HS HM hb5; have hc0 := HS5.out.cell0; have hf0 := HS5.out.frozen 0))
  first | go_end0 | ((try simp only [Exit.inBlock, Exit.then]); refine bodyPost_ret (results_none rfl _ _ _) rfl ?_)
  refine ⟨rfl, HS5.out.setNow (by decide) _, ⟨HM5.out.below.setCell HS5.out.ge _, HM5.out.kept.setCell (.inl (.inl rfl)) _, HM5.out.own⟩⟩
/-! ### what only reads, told so -/
set_option maxHeartbeats 8000000 in
set_option maxRecDepth 100000 in
theorem now_same {W : World} {g : Nat} {now : Int} (hc : W.cell? ⟨g, 0, none⟩ = some (.int .u64 now)) : Calls Try.prog 16 #[.pointer (some ⟨g, 0, none⟩)] W fun e w' => e = .returned (.int .u64 now) ∧ w' = W := by
  go_enter Try.func16, Try.ntmps16
  go_wp2
  go_ret
  exact ⟨rfl, rfl⟩
set_option maxHeartbeats 8000000 in
set_option maxRecDepth 100000 in
theorem left_same {W : World} {g : Nat} {A : Option Addr} {n c : Nat} (hc : W.cell? ⟨g, 1, none⟩ = some (.slice A n c)) : Calls Try.prog 14 #[.pointer (some ⟨g, 0, none⟩)] W fun e w' => e = .returned (.int .i64 (n : Int)) ∧ w' = W := by
  go_enter Try.func14, Try.ntmps14
  go_wp2
  go_ret
  exact ⟨rfl, rfl⟩
set_option maxHeartbeats 8000000 in
set_option maxRecDepth 100000 in
theorem dl_same (a0 a1 : Int) (w : World) : Calls Try.prog 18 #[.int .u64 a0, .int .u64 a1] w fun e w' => e = .returned (.int .u64 (dl a0 a1)) ∧ w' = w := by
  obtain ⟨ji3, hji3⟩ : ∃ j_ : Int, (mn a1 (IntKind.u64.wrap (18446744073709551615 - a0))) = j_ := ⟨_, rfl⟩
  have e : dl a0 a1 = IntKind.u64.wrap (a0 + ji3) := by unfold dl; rw [hji3]
  rw [e]; clear e
  have hji3_ : (if (IntKind.u64.wrap (18446744073709551615 - a0)) < a1 then (IntKind.u64.wrap (18446744073709551615 - a0)) else a1) = ji3 := hji3
  go_enter Try.func18, Try.ntmps18
  go_wp2
  go_ret
  exact ⟨by first | rfl | (simp [errW_none, errW_some] <;> rfl) | (simp only [← hji3]; first | rfl | (simp [errW_none, errW_some] <;> rfl)) | (simp [*, errW_none, errW_some] <;> rfl), rfl⟩
theorem tk_range (now n : Int) (h0 : 0 ≤ now) (h2 : 0 ≤ n) : 0 ≤ tk now n ∧ tk now n ≤ 18446744073709551615 ∧ now ≤ tk now n ∨ now > 18446744073709551615 := by
  unfold tk; split <;> omega
/-! ### Add -/
theorem addL_len (dr : List Int) (d : Int) : (addL dr d).length ≤ dr.length + 1 := by unfold addL; split <;> simp
theorem drawL_len (n : Int) (dr : List Int) : (drawL n dr).length ≤ dr.length := by unfold drawL; split <;> simp
theorem addR_le {d : Int} (h : 64 ≤ d) : addR d = 1 := if_pos h
theorem addR_lt {d : Int} (h : ¬ 64 ≤ d) : addR d = 0 := if_neg h
set_option maxHeartbeats 8000000 in
set_option maxRecDepth 100000 in
theorem add_calls {w : World} {base g : Nat} {v : Value} {now : Int} {dr : List Int} (h : Src .i64 49 3 w base g v now dr) (hb : base ≤ w.heap.size) (hl : dr.length < 1000000) (d : Int) (h0 : 0 ≤ d) :
    Calls Try.prog 12 #[.pointer (some ⟨g, 0, none⟩), .int .u64 d] w fun e w' => e = .returned (.int .i64 (addR d)) ∧ ∃ v', Src .i64 49 3 w' base g v' now (addL dr d) ∧ Moves w w' base g v v' := by
  by_cases hd : 64 ≤ d
  · have e1 : addR d = 1 := if_pos hd
    have e2 : addL dr d = dr := if_pos hd
    have c0 : decide (64 ≤ d) = true := decide_eq_true hd
    have c1 : decide (d ≥ 64) = true := decide_eq_true hd
    rw [e1, e2]
    have HS := Aside0.mk h
    have HB := Aside0.mk (Below.refl w.heap.size w)
    clear h e1 e2
    refine Calls.mono (R := fun e w' => e = .returned (.int .i64 1) ∧ Below w.heap.size w w') ?_ ?_
    · go_enter Try.func12, Try.ntmps12
      go_wp2
      go_ret
      exact ⟨rfl, by repeat (first | (with_reducible first | exact HB.out | apply below_alloc | apply pw_below_drewN | apply below_drew1) | exact HB.out)⟩
    · rintro e w' ⟨rfl, hbb⟩
      exact ⟨rfl, _, HS.out.below hbb, Moves.of_below hbb hb⟩
  · have e1 : addR d = 0 := if_neg hd
    have e2 : addL dr d = dr ++ [d] := if_neg hd
    have c0 : decide (64 ≤ d) = false := decide_eq_false hd
    have c1 : decide (d ≥ 64) = false := decide_eq_false hd
    have c2 : IntKind.i64.wrap d = d := by rw [i64_w]; unfold wrap64; omega
    have c3 : wrap64 d = d := by unfold wrap64; omega
    rw [e1, e2]
    obtain ⟨A, c, rfl⟩ := h.slice
    have hc1 := h.cell1
    have hf1 := h.frozen 1
    have HS := Aside0.mk h
    have HB := Aside0.mk (Below.refl base w)
    clear h e1 e2
    go_enter Try.func12, Try.ntmps12
    go_wp2_with (first | ((with_reducible refine gate_builtin (b := .append) (xs := #[.tmp 11, .tmp 14]) rfl ?_); at_builtin; refine Kd.R_append (Kd.int .i64) (w0 := w) base rfl (.tmp 11) (.tmp 14) 23 3 (.int .i64 0) 8 rfl Try.underlying23 sinfo3 rfl (by decide) (by omega) (.slice A dr.length c) dr d [.int .i64 d] (fun _ => True) (fun _ => False) rfl (by first | (go_simp; done) | (go_simp; rfl)) ?aP (fun _ hk => hk.elim) (fun _ _ => trivial) ?aO ?aB ?aS ?aL ?_; (case aP => exact rfl); (case aB => exact HB.out); (case aO => exact HS.out.row); (case aS => exact hb); (case aL => omega); intro v3 w3 ho hb3 hg hat; obtain ⟨A3, cc3, hv3⟩ := Kd.R_slice ho; rw [show (dr ++ [d]).length = dr.length + 1 by simp] at hv3; subst hv3; have HG := Aside0.mk hg; have HO := Aside0.mk ho; have HB3 := Aside0.mk hb3; have HAT := Aside0.mk hat; have hbk := blk_grown HS.out.blk hg (HS.out.ne (by decide)); have BK := Aside0.mk hbk; clear ho hb3 hg hat hc1 hf1 hbk; have hc1 : w3.cell? ⟨g, 1, none⟩ = some (.slice A dr.length c) := (blk_cell BK.out 1).trans rfl; have hf1 := blk_frozen BK.out 1))
    go_ret
    refine ⟨rfl, _, Src.setRow BK.out HS.out.ge HO.out (by decide), ⟨HB3.out.setCell HS.out.ge _, (Kept.of_grown HG.out (Kept.refl w _) (fun k hk => .inl (.inr hk.symm))).setCell (.inl (.inl rfl)) _, HAT.out⟩⟩
/-! ### Draw -/
/-- One operation, walked as a list of one, serves any way on. -/
theorem step_of_list {P : Program} {ops : Array Oper} {o : Oper} {a : Act} {Q : Exit → Act → World → Prop} {Kc : Act → World → Prop} {W : World} (hw : Region.wanted o (yielded ops a.tmps) = true)
    (h : ∀ Q' : Exit → Act → World → Prop, (∀ a w, Q' .normal a w = Kc a w) → wpList P ops Q' [o] a W) : if Region.wanted o (yielded ops a.tmps) = true then Oper.wp P o a W Kc Q else Kc (a.put o.dst undef) W := by
  rw [if_pos hw]
  have h2 := h (fun e a w => match e with | .normal => Kc a w | _ => False) (fun _ _ => rfl)
  unfold wpList at h2
  rw [if_pos hw] at h2
  rcases h2 with h2 | ⟨_, h2⟩
  · unfold Oper.wp at h2 ⊢
    generalize (execOp a.eval o).run P W = r at h2
    cases r with
    | ok n w' =>
      cases n <;> simp only [Oper.upon] at h2 ⊢
      all_goals first | exact h2 | skip
      case enter f args =>
        refine Calls.mono h2 ?_
        intro e w'' he
        cases e <;> first | exact he | exact (he : False).elim | skip
        all_goals (first | exact (absurd he (by simp [LetsOut])) | exact he)
    | halt x w' =>
      cases x <;> simp only [Oper.upon] at h2 ⊢
  · exact absurd h2 (by simp [LetsOut])
theorem drawR_lt {n : Int} {dr : List Int} (h : n < 1) : drawR n dr = 0 := if_pos h
theorem drawR_nil {n : Int} : drawR n [] = 0 := by unfold drawR; split <;> rfl
theorem drawR_cons {n d : Int} {dr : List Int} (h : ¬ n < 1) : drawR n (d :: dr) = Int.tmod d n := by unfold drawR; rw [if_neg h, if_neg (by simp)]; rfl
set_option maxHeartbeats 8000000 in
set_option maxRecDepth 100000 in
theorem draw_calls {w : World} {base g : Nat} {v : Value} {now : Int} {dr : List Int} (h : Src .i64 49 3 w base g v now dr) (hb : base ≤ w.heap.size) (hl : dr.length < 1000000) (n : Int) :
    Calls Try.prog 15 #[.pointer (some ⟨g, 0, none⟩), .int .i64 n] w fun e w' => e = .returned (.int .i64 (drawR n dr)) ∧ ∃ v', Src .i64 49 3 w' base g v' now (drawL n dr) ∧ Moves w w' base g v v' := by
  by_cases hn : n < 1
  · have c0 : decide (n < 1) = true := decide_eq_true hn
    rw [drawR_lt hn, show drawL n dr = dr from if_pos hn]
    have HS := Aside0.mk h
    have HB := Aside0.mk (Below.refl w.heap.size w)
    clear h
    refine Calls.mono (R := fun e w' => e = .returned (.int .i64 0) ∧ Below w.heap.size w w') ?_ ?_
    · go_enter Try.func15, Try.ntmps15
      go_wp2
      go_ret
      exact ⟨rfl, by repeat (first | (with_reducible first | exact HB.out | apply below_alloc | apply pw_below_drewN | apply below_drew1) | exact HB.out)⟩
    · rintro e w' ⟨rfl, hbb⟩
      exact ⟨rfl, _, HS.out.below hbb, Moves.of_below hbb hb⟩
  · have c0 : decide (n < 1) = false := decide_eq_false hn
    have cn : (n == 0) = false := beq_eq_false_iff_ne.2 (by omega)
    have cn1 : (n != 0) = true := bne_iff_ne.2 (by omega)
    rw [show drawL n dr = dr.drop 1 from if_neg hn]
    cases dr with
    | nil =>
      rw [drawR_nil]
      have HS := Aside0.mk h
      have HB := Aside0.mk (Below.refl w.heap.size w)
      obtain ⟨A, c, rfl⟩ := h.slice
      have hc1 := h.cell1
      clear h
      refine Calls.mono (R := fun e w' => e = .returned (.int .i64 0) ∧ Below w.heap.size w w') ?_ ?_
      · go_enter Try.func15, Try.ntmps15
        go_wp2
        go_ret
        exact ⟨rfl, by repeat (first | (with_reducible first | exact HB.out | apply below_alloc | apply pw_below_drewN | apply below_drew1) | exact HB.out)⟩
      · rintro e w' ⟨rfl, hbb⟩
        exact ⟨rfl, _, HS.out.below hbb, Moves.of_below hbb hb⟩
    | cons d0 rest =>
      rw [drawR_cons hn]
      simp only [List.drop_succ_cons, List.drop_zero]
      obtain ⟨bk, c, rfl, hbk1, hbk2, cells, hcells⟩ := Kd.R_form h.row (by simp)
      have hlen : rest.length + 1 ≤ c := (Kd.R_reads' h.row).2.1
      have hcell : w.cell? ⟨bk, 0, none⟩ = some (.int .i64 d0) := (Kd.R_celln (0 : Int) h.row 0 (by omega) (by simp)).1
      have hc1 : w.cell? ⟨g, 1, none⟩ = some (.slice (some ⟨bk, 0, none⟩) (rest.length + 1) c) := h.cell1
      have hf1 := h.frozen 1
      have hlr : rest.length < 1000000 := by simp at hl; omega
      have HS := Aside0.mk h
      have HB := Aside0.mk (Below.refl base w)
      have hz : (((rest.length : Int) + 1) == 0) = false := beq_eq_false_iff_ne.2 (by omega)
      have hz1 : decide (((rest.length : Int) + 1) = 0) = false := decide_eq_false (by omega)
      clear h hl hcells
      go_enter Try.func15, Try.ntmps15
      go_wp2
      have hne : g ≠ bk := by have := HS.out.ne (by decide); simpa [Value.ownBlock] using this
      have b1 : (1 : Int) ≤ (rest.length : Int) + 1 := by omega
      have b2 : (rest.length : Int) + 1 ≤ (c : Int) := by omega
      have b3 : (1 : Int) ≤ (c : Int) := by omega
      have b4 : 1 ≤ c := by omega
      have hrow := Kd.R_drew HS.out.row
      have hdr : Below base w w.drew := below_drew (Below.refl base w)
      have hcp : ∀ (P : Program) (ops : Array Oper) (o : Oper) (a : Act) (Q : Exit → Act → World → Prop) (K : Act → World → Prop) (A2 : Option Addr) (c2 : Nat), P = Try.prog → Region.wanted o (yielded ops a.tmps) = true → o.guard = none → o.dst = some 31 →
          o.op = .call { callee := .builtin .copy, args := #[.tmp 25, .tmp 30], argTypes := #[23, 23] } → a.eval (.tmp 25) = .slice (some ⟨bk, 0, none⟩) (rest.length + 1) c → a.eval (.tmp 30) = .slice A2 rest.length c2 →
          Kd.C (Kd.int .i64) w.drew A2 rest.length rest →
          (∀ w1, Kd.R (Kd.int .i64) 3 w1 base (fun _ => True) (.slice (some ⟨bk, 0, none⟩) rest.length c) rest → Below base w w1 → w1.heap[g]? = some (.cells #[.int .u64 now, .slice (some ⟨bk, 0, none⟩) (rest.length + 1) c] 49 (0, 0)) → Kept w w1 (fun k => k = bk) → K (a.put (some 31) (.int .i64 rest.length)) w1) →
          if Region.wanted o (yielded ops a.tmps) = true then Oper.wp P o a w.drew K Q else K (a.put o.dst undef) w.drew := by
        intro P ops o a Q K A2 c2 hP hw hg hd ho h25 h30 hC hK
        subst hP
        refine step_of_list hw (fun Q' hQ' => ?_)
        refine Kd.R_copy (enc := Value.int .i64) (h1 := fun _ => rfl) (0 : Int) (w0 := w) base hg (.tmp 25) (.tmp 30) 23 23 3 ho Try.underlying23 ssize3 _ (d0 :: rest) rest A2 rest.length c2 (fun _ => True) h25 h30 hrow hC hdr hb ?_
        intro w1 ho1 hb1 hg1
        refine wpList_nil ?_
        rw [hQ', hd]
        have em : min rest.length (d0 :: rest).length = rest.length := by simp
        rw [em, List.take_length] at ho1
        rw [em]
        have ho2 := Kd.R_take (m := rest.length) ho1 (by simp)
        rw [List.take_left] at ho2
        exact hK w1 ho2 hb1 (blk_grown (blk_drewN HS.out.blk 1) hg1 (HS.out.ne (by decide))) ((Kept.of_grown hg1 (Kept.drew (Kept.refl w _)) (fun k hk => .inl (by simpa [Value.ownBlock] using hk.symm))))
      have hR4 := Aside0.mk hcp
      clear hcp
      have hw0 : wrap64 (rest.length : Int) = rest.length := by unfold wrap64; omega
      have hw1 : IntKind.i64.wrap (rest.length : Int) = rest.length := (i64_w _).trans hw0
      have hw2 : IntKind.i64.wrap ((rest.length : Int) + 1 - 1) = rest.length := by rw [show (rest.length : Int) + 1 - 1 = rest.length by omega]; exact hw1
      have b5 : (0 : Int) ≤ (rest.length : Int) := by omega
      have b6 : (rest.length : Int) ≤ (c : Int) := by omega
      have b7 : rest.length ≤ c := by omega
      by_cases hcc : c = 1
      · obtain rfl : rest = [] := List.length_eq_zero_iff.1 (by omega)
        subst hcc
        have hC1 : Kd.C (Kd.int .i64) w.drew (some ⟨bk, 0, none⟩) 0 [] := by
          have := Kd.C_drop (c := 1) (m := 1) (Kd.R_reads' hrow).2.2 (by simp) (by simp)
          rw [if_pos rfl] at this
          simp at this
          exact this
        go_region_held3 (fun w' => w'.cell? ⟨g, 1, none⟩ = some (.slice (some ⟨bk, 0, none⟩) 1 1)) (go_keep) ((refine hR4.out _ _ _ _ _ _ (some ⟨bk, 0, none⟩) 0 rfl rfl rfl rfl rfl rfl rfl hC1 ?_; intro w1 ho1 hb1 hbk1 hkp1; have hc2 : w1.cell? ⟨g, 1, none⟩ = some (.slice (some ⟨bk, 0, none⟩) 1 1) := (blk_cell hbk1 1).trans rfl; have hf2 := blk_frozen hbk1 1; clear hc1 hf1))
        clear hR4 hrow hcell hC1 hdr
        have HO1 := Aside0.mk ho1
        have HB1 := Aside0.mk hb1
        have HK1 := Aside0.mk hbk1
        have HP1 := Aside0.mk hkp1
        clear ho1 hb1 hbk1 hkp1
        go_wp2
        go_region
        all_goals go_wp2
        go_ret
        refine ⟨rfl, .slice (some ⟨bk, 0, none⟩) 0 1, ?_, ?_⟩
        · exact (Src.setRow HK1.out HS.out.ge HO1.out (by decide)).below (below_drew (Below.refl _ _))
        · exact ⟨below_drew (HB1.out.setCell HS.out.ge _), ((HP1.out.mono (fun k hk => .inr (by rw [hk]; rfl))).setCell (.inl (.inl rfl)) _).drew, .inl rfl⟩
      · have hcb : (c == 1) = false := beq_eq_false_iff_ne.2 hcc
        have hC1 : Kd.C (Kd.int .i64) w.drew (some ⟨bk, 1, none⟩) rest.length rest := by
          have := Kd.C_drop (c := c) (m := 1) (Kd.R_reads' hrow).2.2 (by simp) (by simpa using hlen)
          rw [if_neg hcc] at this
          simp at this
          exact this
        go_region_held3 (fun w' => w'.cell? ⟨g, 1, none⟩ = some (.slice (some ⟨bk, 0, none⟩) (rest.length + 1) c)) (go_keep) ((refine hR4.out _ _ _ _ _ _ (some ⟨bk, 1, none⟩) (c - 1) rfl rfl rfl rfl rfl rfl rfl hC1 ?_; intro w1 ho1 hb1 hbk1 hkp1; have hc2 : w1.cell? ⟨g, 1, none⟩ = some (.slice (some ⟨bk, 0, none⟩) (rest.length + 1) c) := (blk_cell hbk1 1).trans rfl; have hf2 := blk_frozen hbk1 1; clear hc1 hf1))
        clear hR4 hrow hcell hC1 hdr
        have HO1 := Aside0.mk ho1
        have HB1 := Aside0.mk hb1
        have HK1 := Aside0.mk hbk1
        have HP1 := Aside0.mk hkp1
        clear ho1 hb1 hbk1 hkp1
        go_wp2
        go_region
        all_goals go_wp2
        go_ret
        refine ⟨rfl, .slice (some ⟨bk, 0, none⟩) rest.length c, ?_, ?_⟩
        · exact (Src.setRow HK1.out HS.out.ge HO1.out (by decide)).below (below_drew (Below.refl _ _))
        · exact ⟨below_drew (HB1.out.setCell HS.out.ge _), ((HP1.out.mono (fun k hk => .inr (by rw [hk]; rfl))).setCell (.inl (.inl rfl)) _).drew, .inl rfl⟩
/-! ### pick, shown -/
theorem wf_i64 {x : Int} (h : (Lit.int .i64 x).wf = true) : -9223372036854775808 ≤ x ∧ x ≤ 9223372036854775807 := by
  simp [Lit.wf, IntKind.min, IntKind.max, IntKind.signed, IntKind.bits] at h; omega
theorem wf_u64 {x : Int} (h : (Lit.int .u64 x).wf = true) : 0 ≤ x ∧ x ≤ 18446744073709551615 := by
  simp [Lit.wf, IntKind.min, IntKind.max, IntKind.signed, IntKind.bits] at h; omega
def pk (a0 a1 : Int) : Int := if a0 < 0 then Int.tmod (-(a0 + 1)) a1 else Int.tmod a0 a1
theorem pk_range (a0 a1 : Int) (h : 0 < a1) : 0 ≤ pk a0 a1 ∧ pk a0 a1 < a1 := by
  unfold pk
  split
  · exact ⟨Int.tmod_nonneg _ (by omega), Int.tmod_lt_of_pos _ h⟩
  · exact ⟨Int.tmod_nonneg _ (by omega), Int.tmod_lt_of_pos _ h⟩
set_option maxHeartbeats 8000000 in
set_option maxRecDepth 100000 in
theorem pick_calls (a0 a1 : Int) (w : World) (h0 : (Lit.int .i64 a0).wf = true) (h1 : 0 < a1) : Calls Try.prog 13 #[.int .i64 a0, .int .i64 a1] w fun e w' => e = .returned (.int .i64 (pk a0 a1)) ∧ Below w.heap.size w w' := by
  have c4b0 : (a1 == 0) = false := beq_eq_false_iff_ne.mpr (by omega)
  have c4b1 : (a1 != 0) = true := bne_iff_ne.mpr (by omega)
  have hr : -9223372036854775808 ≤ a0 ∧ a0 ≤ 9223372036854775807 := wf_i64 h0
  by_cases c : a0 < 0
  · have c0 : decide (a0 < 0) = true := decide_eq_true c
    have e0 : wrap64 (a0 + 1) = a0 + 1 := by unfold wrap64; omega
    have e1 : wrap64 (-(a0 + 1)) = -(a0 + 1) := by unfold wrap64; omega
    have e2 : IntKind.i64.wrap (a0 + 1) = a0 + 1 := (i64_w _).trans e0
    have e3 : IntKind.i64.wrap (-(a0 + 1)) = -(a0 + 1) := (i64_w _).trans e1
    rw [show pk a0 a1 = Int.tmod (-(a0 + 1)) a1 from if_pos c]
    clear c h0 hr
    go_enter Try.func13, Try.ntmps13
    go_wp2
    go_ret
    exact ⟨by first | rfl | (simp; done) | (rw [Int.tmod_eq_emod_of_nonneg (by assumption)]; first | rfl | (simp; done)) | (simp [*]; done), by repeat (first | exact Below.refl _ _ | apply below_alloc | apply pw_below_drewN | apply below_drew1)⟩
  · have c0 : decide (a0 < 0) = false := decide_eq_false c
    rw [show pk a0 a1 = Int.tmod a0 a1 from if_neg c]
    clear h0 hr
    go_enter Try.func13, Try.ntmps13
    go_wp2
    go_ret
    exact ⟨by first | rfl | (simp; done) | (rw [Int.tmod_eq_emod_of_nonneg (by assumption)]; first | rfl | (simp; done)) | (simp [*]; done), by repeat (first | exact Below.refl _ _ | apply below_alloc | apply pw_below_drewN | apply below_drew1)⟩
set_option maxHeartbeats 8000000 in
set_option maxRecDepth 100000 in
theorem shown_calls (w : World) : Calls Try.prog 10 #[] w fun e w' => e = .returned (.bool true) ∧ Below w.heap.size w w' := by
  have HB := Aside0.mk (Below.refl w.heap.size w)
  have f1 : addR 7 = 0 := by decide
  have f2 : drawR 4 (addL [] 7) = 3 := by decide
  have f3 : drawR 4 (drawL 4 (addL [] 7)) = 0 := by decide
  have f4 : dl 1 2 = 3 := by decide
  go_enter Try.func10, Try.ntmps10
  go_wp2_with (first | (go_at_call 11; (refine (new_calls _).mono ?_); rintro e w1 ⟨ga, rfl, hs_, hb_⟩; have HS_a := Aside0.mk (hs_.lower (Below.size (by repeat (first | exact HB.out | apply below_alloc | apply pw_below_drewN | apply below_drew1)))); have n_HB := Aside0.mk (below_step (by repeat (first | exact HB.out | apply below_alloc | apply pw_below_drewN | apply below_drew1)) hb_); clear hs_ hb_; clear HB; have HB := n_HB; clear n_HB) | (go_at_call 12; (first | (with_reducible refine (add_calls HS_a.out ?s2 ?s3 _ ?s4).mono ?_) | (with_reducible refine (add_calls (Src.below HS_a.out (by repeat (first | exact Below.refl _ _ | apply below_alloc | apply pw_below_drewN | apply below_drew1))) ?s2 ?s3 _ ?s4).mono ?_)); (case s2 => exact Below.size (by repeat (first | exact HB.out | apply below_alloc | apply pw_below_drewN | apply below_drew1))); (case s3 => decide); (case s4 => decide); rintro e w2 ⟨rfl, va2, hs_, hm_⟩; have n_HB := Aside0.mk (Below.trans (by repeat (first | exact HB.out | apply below_alloc | apply pw_below_drewN | apply below_drew1)) hm_.below); have n_a := Aside0.mk hs_; clear hs_ hm_; clear HB HS_a; have HB := n_HB; have HS_a := n_a; clear n_HB n_a) | (go_at_call 15; (first | (with_reducible refine (draw_calls HS_a.out ?s2 ?s3 _).mono ?_) | (with_reducible refine (draw_calls (Src.below HS_a.out (by repeat (first | exact Below.refl _ _ | apply below_alloc | apply pw_below_drewN | apply below_drew1))) ?s2 ?s3 _).mono ?_)); (case s2 => exact Below.size (by repeat (first | exact HB.out | apply below_alloc | apply pw_below_drewN | apply below_drew1))); (case s3 => decide); rintro e w3 ⟨rfl, va3, hs_, hm_⟩; have n_HB := Aside0.mk (Below.trans (by repeat (first | exact HB.out | apply below_alloc | apply pw_below_drewN | apply below_drew1)) hm_.below); have n_a := Aside0.mk hs_; clear hs_ hm_; clear HB HS_a; have HB := n_HB; have HS_a := n_a; clear n_HB n_a) | (go_at_call 18; (refine (dl_calls _ _ _).mono ?_); rintro e w5 ⟨rfl, hb_⟩; have n_HB := Aside0.mk (below_step (by repeat (first | exact HB.out | apply below_alloc | apply pw_below_drewN | apply below_drew1)) hb_); have n_a := Aside0.mk ((Src.below HS_a.out (by repeat (first | exact Below.refl _ _ | apply below_alloc | apply pw_below_drewN | apply below_drew1))).below hb_); clear hb_; clear HB HS_a; have HB := n_HB; have HS_a := n_a; clear n_HB n_a))
  go_ret
  exact ⟨rfl, HB.out⟩
end Go.Proofs.Ytaohgjglfpnlkaa.P
