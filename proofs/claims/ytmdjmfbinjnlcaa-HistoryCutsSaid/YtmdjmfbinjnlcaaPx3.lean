/- Walks, written by a program for this claim: each Go function that the laws reach comes to what its Lean function says. -/
import Derived.Test.YtmdjmfbinjnlcaaPx0
namespace Go.Proofs.Ytmdjmfbinjnlcaa.P
open Go.RowKit Go.Proofs.YtmdjmfbinjnlcaaW.PrintWords Go.Proofs.YtmdjmfbinjnlcaaW.PrintLast Go.Proofs.YtmdjmfbinjnlcaaW.PrintMore
attribute [local go_sem] max2_int min2_int max_two min_two max_three min_three max_four min_four   -- for this text's walks alone
set_option linter.unusedVariables false
set_option linter.unusedSimpArgs false

/-! ### history_calls: function 21 -/
/-- What is wrong with a question. -/
def hist_asksM (x : Int) (push : Bool) (V st : Int) : Int := if 0 < x then 5 else if ¬ st = 0 then 3 else if push = false ∧ ¬ V = 0 then 3 else 0
set_option maxHeartbeats 8000000 in
set_option maxRecDepth 100000 in
theorem hist_asks (bo : Nat) (T x V st : Int) (ret push : Bool) (w : World) (h0 : 0 ≤ T) (h8 : T < 8) (hc : w.cell? ⟨bo, T.toNat, none⟩ = some (.int .i64 x)) :
    Calls Try.prog 24 #[.pointer (some ⟨bo, 0, none⟩), .agg #[.int .i64 T, .bool ret, .bool push, .int .u64 V, .int .i64 st]] w fun e w' => e = .returned (.int .i64 (hist_asksM x push V st)) ∧ Below w.heap.size w w' := by
  have hb : ∀ o, (w.alloc o).cell? ⟨bo, T.toNat, none⟩ = some (.int .i64 x) := fun o => pw_cell_below ((Below.refl _ _).alloc (Nat.le_refl _) o) hc
  have d0 : decide (0 ≤ T) = true := decide_eq_true h0
  have d8 : decide (T < 8) = true := decide_eq_true h8
  by_cases hx : 0 < x
  · have hfin : hist_asksM x push V st = 5 := by unfold hist_asksM; rw [if_pos hx]
    have dx : decide (0 < x) = true := decide_eq_true hx
    rw [hfin]; clear hfin
    go_enter Try.func24, Try.ntmps24
    go_wp2
    repeat (go_quiet (fail); try go_wp2)
    go_ret
    exact ⟨rfl, by repeat (first | exact Below.refl _ _ | apply below_alloc | apply pw_below_drewN | apply below_drew1)⟩
  · have dx : decide (0 < x) = false := decide_eq_false hx
    by_cases hs : st = 0
    · subst hs
      cases push
      · by_cases hv : V = 0
        · have hfin : hist_asksM x false V 0 = 0 := by unfold hist_asksM; rw [if_neg hx, if_neg (by simp), if_neg (by simp [hv])]
          rw [hfin]; clear hfin
          subst hv
          go_enter Try.func24, Try.ntmps24
          go_wp2
          repeat (go_quiet (fail); try go_wp2)
          go_ret
          exact ⟨rfl, by repeat (first | exact Below.refl _ _ | apply below_alloc | apply pw_below_drewN | apply below_drew1)⟩
        · have hfin : hist_asksM x false V 0 = 3 := by unfold hist_asksM; rw [if_neg hx, if_neg (by simp), if_pos ⟨rfl, hv⟩]
          have hv1 : (V == 0) = false := beq_eq_false_iff_ne.2 hv
          have hv2 : (V != 0) = true := bne_iff_ne.2 hv
          rw [hfin]; clear hfin
          go_enter Try.func24, Try.ntmps24
          go_wp2
          repeat (go_quiet (fail); try go_wp2)
          go_ret
          exact ⟨rfl, by repeat (first | exact Below.refl _ _ | apply below_alloc | apply pw_below_drewN | apply below_drew1)⟩
      · have hfin : hist_asksM x true V 0 = 0 := by unfold hist_asksM; rw [if_neg hx, if_neg (by simp), if_neg (by simp)]
        rw [hfin]; clear hfin
        go_enter Try.func24, Try.ntmps24
        go_wp2
        repeat (go_quiet (fail); try go_wp2)
        go_ret
        exact ⟨rfl, by repeat (first | exact Below.refl _ _ | apply below_alloc | apply pw_below_drewN | apply below_drew1)⟩
    · have hfin : hist_asksM x push V st = 3 := by unfold hist_asksM; rw [if_neg hx, if_pos hs]
      have hs1 : (st == 0) = false := beq_eq_false_iff_ne.2 hs
      have hs2 : (st != 0) = true := bne_iff_ne.2 hs
      rw [hfin]; clear hfin
      go_enter Try.func24, Try.ntmps24
      go_wp2
      repeat (go_quiet (fail); try go_wp2)
      go_ret
      exact ⟨rfl, by repeat (first | exact Below.refl _ _ | apply below_alloc | apply pw_below_drewN | apply below_drew1)⟩
/-- What is wrong with an answer. -/
def hist_answersM (x : Int) (p push : Bool) (V st : Int) : Int := if x = 0 then 6 else if ¬ push = p then 3 else if ¬ (st = 1 ∨ st = 2 ∨ st = 6 ∨ st = 7) then 3 else if ¬ V = 0 ∧ (push = true ∨ ¬ st = 1) then 3 else 0
set_option maxHeartbeats 8000000 in
set_option maxRecDepth 100000 in
theorem hist_answers (bo : Nat) (T x V st : Int) (ret push p : Bool) (A : Option Addr) (c : Nat) (out : List S45) (w : World) (h0 : 0 ≤ T) (h8 : T < 8) (hc : w.cell? ⟨bo, T.toNat, none⟩ = some (.int .i64 x))
    (hC : Kd.C k45 w A out.length out) (hx0 : 0 ≤ x) (hx1 : x ≤ out.length) (hxm : x < 9223372036854775807) (hp : (rd_T45 out (x - 1)).f1 = p) :
    Calls Try.prog 23 #[.pointer (some ⟨bo, 0, none⟩), .agg #[.int .i64 T, .bool ret, .bool push, .int .u64 V, .int .i64 st], .slice A out.length c] w fun e w' => e = .returned (.int .i64 (hist_answersM x p push V st)) ∧ Below w.heap.size w w' := by
  have hb : ∀ o, (w.alloc o).cell? ⟨bo, T.toNat, none⟩ = some (.int .i64 x) := fun o => pw_cell_below ((Below.refl _ _).alloc (Nat.le_refl _) o) hc
  have d0 : decide (0 ≤ T) = true := decide_eq_true h0
  have d8 : decide (T < 8) = true := decide_eq_true h8
  by_cases hx : x = 0
  · subst hx
    have hfin : hist_answersM 0 p push V st = 6 := by unfold hist_answersM; rw [if_pos rfl]
    rw [hfin]; clear hfin
    go_enter Try.func23, Try.ntmps23
    go_wp2
    repeat (go_quiet (fail); try go_wp2)
    go_ret
    exact ⟨rfl, by repeat (first | exact Below.refl _ _ | apply below_alloc | apply pw_below_drewN | apply below_drew1)⟩
  · have hxb : (x == 0) = false := beq_eq_false_iff_ne.2 hx
    have hw : wrap64 (x - 1) = x - 1 := by unfold wrap64; omega
    have p0 : 0 ≤ wrap64 (x - 1) := by omega
    have q0 : wrap64 (x - 1) < (out.length : Int) := by omega
    obtain ⟨ad, rfl, hy0, hy1, hy2, hy3, hy4, hy5⟩ := at_T45 hC (wrap64 (x - 1)) p0 q0
    clear hy0 hy2 hy3 hy4 hy5
    rw [show (rd_T45 out (wrap64 (x - 1))).f1 = p by rw [hw]; exact hp] at hy1
    rw [show (wrap64 (x - 1)).toNat = x.toNat - 1 by omega] at hy1
    have hy : ∀ o, (w.alloc o).cell? ⟨(ad.add ((x.toNat - 1) * 6)).block, (ad.add ((x.toNat - 1) * 6)).off + 1, none⟩ = some (.bool p) := fun o => pw_cell_below ((Below.refl _ _).alloc (Nat.le_refl _) o) hy1
    clear hw p0 q0 hp hC
    by_cases hq : push = p
    · subst hq
      by_cases hs : st = 1 ∨ st = 2 ∨ st = 6 ∨ st = 7
      · by_cases hv : V = 0
        · subst hv
          rcases hs with rfl | rfl | rfl | rfl
          · have hfin : hist_answersM x push push 0 1 = 0 := by unfold hist_answersM; rw [if_neg hx, if_neg (by simp), if_neg (by simp), if_neg (by simp)]
            rw [hfin]; clear hfin
            go_enter Try.func23, Try.ntmps23
            go_wp2
            repeat (go_quiet (fail); try go_wp2)
            go_ret
            exact ⟨rfl, by repeat (first | exact Below.refl _ _ | apply below_alloc | apply pw_below_drewN | apply below_drew1)⟩
          · have hfin : hist_answersM x push push 0 2 = 0 := by unfold hist_answersM; rw [if_neg hx, if_neg (by simp), if_neg (by simp), if_neg (by simp)]
            rw [hfin]; clear hfin
            go_enter Try.func23, Try.ntmps23
            go_wp2
            repeat (go_quiet (fail); try go_wp2)
            go_ret
            exact ⟨rfl, by repeat (first | exact Below.refl _ _ | apply below_alloc | apply pw_below_drewN | apply below_drew1)⟩
          · have hfin : hist_answersM x push push 0 6 = 0 := by unfold hist_answersM; rw [if_neg hx, if_neg (by simp), if_neg (by simp), if_neg (by simp)]
            rw [hfin]; clear hfin
            go_enter Try.func23, Try.ntmps23
            go_wp2
            repeat (go_quiet (fail); try go_wp2)
            go_ret
            exact ⟨rfl, by repeat (first | exact Below.refl _ _ | apply below_alloc | apply pw_below_drewN | apply below_drew1)⟩
          · have hfin : hist_answersM x push push 0 7 = 0 := by unfold hist_answersM; rw [if_neg hx, if_neg (by simp), if_neg (by simp), if_neg (by simp)]
            rw [hfin]; clear hfin
            go_enter Try.func23, Try.ntmps23
            go_wp2
            repeat (go_quiet (fail); try go_wp2)
            go_ret
            exact ⟨rfl, by repeat (first | exact Below.refl _ _ | apply below_alloc | apply pw_below_drewN | apply below_drew1)⟩
        · have hvb : (V == 0) = false := beq_eq_false_iff_ne.2 hv
          have hvc : (V != 0) = true := bne_iff_ne.2 hv
          rcases hs with rfl | rfl | rfl | rfl
          · cases push
            · have hfin : hist_answersM x false false V 1 = 0 := by unfold hist_answersM; rw [if_neg hx, if_neg (by simp), if_neg (by simp), if_neg (by simp)]
              rw [hfin]; clear hfin
              go_enter Try.func23, Try.ntmps23
              go_wp2
              repeat (go_quiet (fail); try go_wp2)
              go_ret
              exact ⟨rfl, by repeat (first | exact Below.refl _ _ | apply below_alloc | apply pw_below_drewN | apply below_drew1)⟩
            · have hfin : hist_answersM x true true V 1 = 3 := by unfold hist_answersM; rw [if_neg hx, if_neg (by simp), if_neg (by simp), if_pos ⟨hv, by simp⟩]
              rw [hfin]; clear hfin
              go_enter Try.func23, Try.ntmps23
              go_wp2
              repeat (go_quiet (fail); try go_wp2)
              go_ret
              exact ⟨rfl, by repeat (first | exact Below.refl _ _ | apply below_alloc | apply pw_below_drewN | apply below_drew1)⟩
          · cases push
            · have hfin : hist_answersM x false false V 2 = 3 := by unfold hist_answersM; rw [if_neg hx, if_neg (by simp), if_neg (by simp), if_pos ⟨hv, by simp⟩]
              rw [hfin]; clear hfin
              go_enter Try.func23, Try.ntmps23
              go_wp2
              repeat (go_quiet (fail); try go_wp2)
              go_ret
              exact ⟨rfl, by repeat (first | exact Below.refl _ _ | apply below_alloc | apply pw_below_drewN | apply below_drew1)⟩
            · have hfin : hist_answersM x true true V 2 = 3 := by unfold hist_answersM; rw [if_neg hx, if_neg (by simp), if_neg (by simp), if_pos ⟨hv, by simp⟩]
              rw [hfin]; clear hfin
              go_enter Try.func23, Try.ntmps23
              go_wp2
              repeat (go_quiet (fail); try go_wp2)
              go_ret
              exact ⟨rfl, by repeat (first | exact Below.refl _ _ | apply below_alloc | apply pw_below_drewN | apply below_drew1)⟩
          · cases push
            · have hfin : hist_answersM x false false V 6 = 3 := by unfold hist_answersM; rw [if_neg hx, if_neg (by simp), if_neg (by simp), if_pos ⟨hv, by simp⟩]
              rw [hfin]; clear hfin
              go_enter Try.func23, Try.ntmps23
              go_wp2
              repeat (go_quiet (fail); try go_wp2)
              go_ret
              exact ⟨rfl, by repeat (first | exact Below.refl _ _ | apply below_alloc | apply pw_below_drewN | apply below_drew1)⟩
            · have hfin : hist_answersM x true true V 6 = 3 := by unfold hist_answersM; rw [if_neg hx, if_neg (by simp), if_neg (by simp), if_pos ⟨hv, by simp⟩]
              rw [hfin]; clear hfin
              go_enter Try.func23, Try.ntmps23
              go_wp2
              repeat (go_quiet (fail); try go_wp2)
              go_ret
              exact ⟨rfl, by repeat (first | exact Below.refl _ _ | apply below_alloc | apply pw_below_drewN | apply below_drew1)⟩
          · cases push
            · have hfin : hist_answersM x false false V 7 = 3 := by unfold hist_answersM; rw [if_neg hx, if_neg (by simp), if_neg (by simp), if_pos ⟨hv, by simp⟩]
              rw [hfin]; clear hfin
              go_enter Try.func23, Try.ntmps23
              go_wp2
              repeat (go_quiet (fail); try go_wp2)
              go_ret
              exact ⟨rfl, by repeat (first | exact Below.refl _ _ | apply below_alloc | apply pw_below_drewN | apply below_drew1)⟩
            · have hfin : hist_answersM x true true V 7 = 3 := by unfold hist_answersM; rw [if_neg hx, if_neg (by simp), if_neg (by simp), if_pos ⟨hv, by simp⟩]
              rw [hfin]; clear hfin
              go_enter Try.func23, Try.ntmps23
              go_wp2
              repeat (go_quiet (fail); try go_wp2)
              go_ret
              exact ⟨rfl, by repeat (first | exact Below.refl _ _ | apply below_alloc | apply pw_below_drewN | apply below_drew1)⟩
      · obtain ⟨s1, s2, s6, s7⟩ : ¬ st = 1 ∧ ¬ st = 2 ∧ ¬ st = 6 ∧ ¬ st = 7 := ⟨fun h => hs (by simp [h]), fun h => hs (by simp [h]), fun h => hs (by simp [h]), fun h => hs (by simp [h])⟩
        have s1b : (st == 1) = false := beq_eq_false_iff_ne.2 s1
        have s1c : (st != 1) = true := bne_iff_ne.2 s1
        have s2b : (st == 2) = false := beq_eq_false_iff_ne.2 s2
        have s2c : (st != 2) = true := bne_iff_ne.2 s2
        have s6b : (st == 6) = false := beq_eq_false_iff_ne.2 s6
        have s6c : (st != 6) = true := bne_iff_ne.2 s6
        have s7b : (st == 7) = false := beq_eq_false_iff_ne.2 s7
        have s7c : (st != 7) = true := bne_iff_ne.2 s7
        have hfin : hist_answersM x push push V st = 3 := by unfold hist_answersM; rw [if_neg hx, if_neg (by simp), if_pos hs]
        rw [hfin]; clear hfin
        go_enter Try.func23, Try.ntmps23
        go_wp2
        repeat (go_quiet (fail); try go_wp2)
        go_ret
        exact ⟨rfl, by repeat (first | exact Below.refl _ _ | apply below_alloc | apply pw_below_drewN | apply below_drew1)⟩
    · have hqb : (push == p) = false := beq_eq_false_iff_ne.2 hq
      have hqc : (push != p) = true := bne_iff_ne.2 hq
      have hfin : hist_answersM x p push V st = 3 := by unfold hist_answersM; rw [if_neg hx, if_pos hq]
      rw [hfin]; clear hfin
      go_enter Try.func23, Try.ntmps23
      go_wp2
      repeat (go_quiet (fail); try go_wp2)
      go_ret
      exact ⟨rfl, by repeat (first | exact Below.refl _ _ | apply below_alloc | apply pw_below_drewN | apply below_drew1)⟩
/-- A call that is asked for, and one that is answered. -/
def hist_out (e : S47) (i : Int) : S45 := ⟨e.f0, e.f2, e.f3, 0, i, -1⟩
def hist_end (c : S45) (e : S47) (i : Int) : S45 := ⟨c.f0, c.f1, if e.f2 = true then c.f2 else e.f3, e.f4, c.f4, i⟩
/-- What is wrong with an event. -/
def hist_err (e : S47) (out : List S45) (o : List Int) : Int :=
  if e.f0 < 0 then 4 else if 8 ≤ e.f0 then 4 else if e.f1 = true then hist_answersM (rd o e.f0) (rd_T45 out (rd o e.f0 - 1)).f1 e.f2 e.f3 e.f4 else hist_asksM (rd o e.f0) e.f2 e.f3 e.f4
/-- What calls tells of the events l, the first of which is the i-th, behind calls out of which o are open. -/
def hist_go (n : Int) : List S47 → Int → List S45 → List Int → List S45 × Int × Int
  | [], _, out, _ => (out, n, 0)
  | e :: l, i, out, o =>
    if ¬ hist_err e out o = 0 then ([], i, hist_err e out o)
    else if e.f1 = true then hist_go n l (i + 1) (out.set (rd o e.f0 - 1).toNat (hist_end (rd_T45 out (rd o e.f0 - 1)) e i)) (o.set e.f0.toNat 0)
    else hist_go n l (i + 1) (out ++ [hist_out e i]) (o.set e.f0.toNat ((out.length : Int) + 1))
def history_calls.f (l0 : List S47) : Option (List S45 × Int × Int) := if l0.length < 2932031007402 then some (hist_go (l0.length : Int) l0 0 ([] : List S45) [0, 0, 0, 0, 0, 0, 0, 0]) else none
/-- Eight numbers as a block's cells. -/
def hist_cs (o : List Int) : Array Value := (o.map (Value.int .i64)).toArray
theorem hist_cs_get {o : List Int} {T : Int} (h : T.toNat < o.length) : (hist_cs o)[T.toNat]? = some (.int .i64 (rd o T)) := by
  unfold hist_cs rd
  simp [h]
theorem hist_cs_set (o : List Int) (j : Nat) (x : Int) : (hist_cs o).setIfInBounds j (.int .i64 x) = hist_cs (o.set j x) := by
  unfold hist_cs
  simp [List.map_set]
/-- What holds of the calls and of what is open, wherever the events are right. -/
structure HistInv (i : Nat) (out : List S45) (o : List Int) : Prop where
  len : o.length = 8
  le : out.length ≤ i
  low : ∀ T : Int, 0 ≤ rd o T
  high : ∀ T : Int, rd o T ≤ out.length
theorem hist_drop {l : List S47} {i : Nat} (h : i < l.length) : l.drop i = rd_T47 l (i : Int) :: l.drop (i + 1) := by
  rw [List.drop_eq_getElem_cons h]
  congr 1
  unfold rd_T47
  simp [h]
theorem hist_rd_set (o : List Int) (j : Nat) (v T : Int) : rd (o.set j v) T = v ∨ rd (o.set j v) T = rd o T := by
  unfold rd
  rw [List.getD_eq_getElem?_getD, List.getD_eq_getElem?_getD, List.getElem?_set]
  split
  · split
    · exact Or.inl rfl
    · right
      rw [List.getElem?_eq_none (by omega)]
  · exact Or.inr rfl
theorem HistInv.step {i : Nat} {out out' : List S45} {o : List Int} (h : HistInv i out o) (j : Nat) (v : Int) (h0 : 0 ≤ v) (h1 : v ≤ out'.length) (h2 : out.length ≤ out'.length) (h3 : out'.length ≤ i + 1) : HistInv (i + 1) out' (o.set j v) := by
  refine ⟨by rw [List.length_set]; exact h.len, h3, fun T => ?_, fun T => ?_⟩
  · rcases hist_rd_set o j v T with e | e <;> rw [e]
    · exact h0
    · exact h.low T
  · rcases hist_rd_set o j v T with e | e <;> rw [e]
    · exact h1
    · have := h.high T; omega
theorem hist_rd_put {out : List S45} {j : Int} {y : S45} (h0 : 0 ≤ j) (h1 : j < (out.length : Int)) : rd_T45 (out.set j.toNat y) j = y := by
  unfold rd_T45
  rw [List.getD_eq_getElem?_getD, List.getElem?_set_self (by omega)]
  rfl
section
variable {W : World} {base g n cap : Nat} {ok : Nat → Prop} {out : List S45}
theorem hist_put2 (HO : Kd.R k45 45 W base ok (.slice (some ⟨g, 0, none⟩) n cap) out) (j : Int) (h0 : 0 ≤ j) (h1 : j < (n : Int)) (v : Int) :
    Kd.R k45 45 (W.setCell ⟨g, j.toNat * 6 + 2, none⟩ (.int .u64 v)) base ok (.slice (some ⟨g, 0, none⟩) n cap) (out.set j.toNat ⟨(rd_T45 out j).f0, (rd_T45 out j).f1, v, (rd_T45 out j).f3, (rd_T45 out j).f4, (rd_T45 out j).f5⟩) := by
  obtain ⟨ce, hcl, hM, hcc, hfr⟩ := Kd.R_elem HO z45 j h0 h1
  obtain rfl := k45_openM hM
  exact (Kd.R_seg HO j h0 h1 (seg := [.int .u64 v]) (j := 2) hcl hcc (show 3 ≤ 6 from by decide) (x' := ⟨(rd_T45 out j).f0, (rd_T45 out j).f1, v, (rd_T45 out j).f3, (rd_T45 out j).f4, (rd_T45 out j).f5⟩) (k45_mkM _ _ _ ⟨(rd_T45 out j).f0, (rd_T45 out j).f1, v, (rd_T45 out j).f3, (rd_T45 out j).f4, (rd_T45 out j).f5⟩) (fun _ hk => hk)).1
theorem hist_put3 (HO : Kd.R k45 45 W base ok (.slice (some ⟨g, 0, none⟩) n cap) out) (j : Int) (h0 : 0 ≤ j) (h1 : j < (n : Int)) (v : Int) :
    Kd.R k45 45 (W.setCell ⟨g, j.toNat * 6 + 3, none⟩ (.int .i64 v)) base ok (.slice (some ⟨g, 0, none⟩) n cap) (out.set j.toNat ⟨(rd_T45 out j).f0, (rd_T45 out j).f1, (rd_T45 out j).f2, v, (rd_T45 out j).f4, (rd_T45 out j).f5⟩) := by
  obtain ⟨ce, hcl, hM, hcc, hfr⟩ := Kd.R_elem HO z45 j h0 h1
  obtain rfl := k45_openM hM
  exact (Kd.R_seg HO j h0 h1 (seg := [.int .i64 v]) (j := 3) hcl hcc (show 4 ≤ 6 from by decide) (x' := ⟨(rd_T45 out j).f0, (rd_T45 out j).f1, (rd_T45 out j).f2, v, (rd_T45 out j).f4, (rd_T45 out j).f5⟩) (k45_mkM _ _ _ ⟨(rd_T45 out j).f0, (rd_T45 out j).f1, (rd_T45 out j).f2, v, (rd_T45 out j).f4, (rd_T45 out j).f5⟩) (fun _ hk => hk)).1
theorem hist_put5 (HO : Kd.R k45 45 W base ok (.slice (some ⟨g, 0, none⟩) n cap) out) (j : Int) (h0 : 0 ≤ j) (h1 : j < (n : Int)) (v : Int) :
    Kd.R k45 45 (W.setCell ⟨g, j.toNat * 6 + 5, none⟩ (.int .i64 v)) base ok (.slice (some ⟨g, 0, none⟩) n cap) (out.set j.toNat ⟨(rd_T45 out j).f0, (rd_T45 out j).f1, (rd_T45 out j).f2, (rd_T45 out j).f3, (rd_T45 out j).f4, v⟩) := by
  obtain ⟨ce, hcl, hM, hcc, hfr⟩ := Kd.R_elem HO z45 j h0 h1
  obtain rfl := k45_openM hM
  exact (Kd.R_seg HO j h0 h1 (seg := [.int .i64 v]) (j := 5) hcl hcc (show 6 ≤ 6 from by decide) (x' := ⟨(rd_T45 out j).f0, (rd_T45 out j).f1, (rd_T45 out j).f2, (rd_T45 out j).f3, (rd_T45 out j).f4, v⟩) (k45_mkM _ _ _ ⟨(rd_T45 out j).f0, (rd_T45 out j).f1, (rd_T45 out j).f2, (rd_T45 out j).f3, (rd_T45 out j).f4, v⟩) (fun _ hk => hk)).1
/-- A call's answer, as it is written: of a push, and of a pop. -/
theorem hist_ends (HO : Kd.R k45 45 W base ok (.slice (some ⟨g, 0, none⟩) out.length cap) out) (j : Int) (h0 : 0 ≤ j) (h1 : j < (out.length : Int)) (T V st x : Int) :
    Kd.R k45 45 ((W.setCell ⟨g, j.toNat * 6 + 3, none⟩ (.int .i64 st)).setCell ⟨g, j.toNat * 6 + 5, none⟩ (.int .i64 x)) base ok (.slice (some ⟨g, 0, none⟩) out.length cap) (out.set j.toNat (hist_end (rd_T45 out j) ⟨T, true, true, V, st⟩ x)) := by
  have e := hist_put5 (hist_put3 HO j h0 h1 st) j h0 h1 x
  rw [hist_rd_put h0 h1, List.set_set] at e
  exact e
theorem hist_ends' (HO : Kd.R k45 45 W base ok (.slice (some ⟨g, 0, none⟩) out.length cap) out) (j : Int) (h0 : 0 ≤ j) (h1 : j < (out.length : Int)) (T V st x : Int) :
    Kd.R k45 45 (((W.setCell ⟨g, j.toNat * 6 + 3, none⟩ (.int .i64 st)).setCell ⟨g, j.toNat * 6 + 5, none⟩ (.int .i64 x)).setCell ⟨g, j.toNat * 6 + 2, none⟩ (.int .u64 V)) base ok (.slice (some ⟨g, 0, none⟩) out.length cap) (out.set j.toNat (hist_end (rd_T45 out j) ⟨T, true, false, V, st⟩ x)) := by
  have e := hist_put2 (hist_ends HO j h0 h1 T V st x) j h0 h1 V
  rw [hist_rd_put h0 h1, List.set_set] at e
  exact e
end
theorem hist_rd_zero (T : Int) : rd [0, 0, 0, 0, 0, 0, 0, 0] T = 0 := by
  unfold rd
  generalize T.toNat = n
  rcases n with _ | _ | _ | _ | _ | _ | _ | _ | n <;> rfl
set_option maxHeartbeats 8000000 in
set_option maxRecDepth 100000 in
theorem history_calls.calls (A0 : Option Addr) (c0 : Nat) (l0 : List S47) (r1 : List S45) (r2 r3 : Int) (w : World) (hr0 : Kd.C k47 w A0 l0.length l0) (hc0 : l0.length ≤ c0) (h : history_calls.f l0 = some (r1, r2, r3)) :
    Calls Try.prog 21 #[.slice A0 l0.length c0] w fun e w' => ∃ v0_ : Value, e = .returned (.tuple #[v0_, .int .i64 r2, .int .i64 r3]) ∧ Kd.R k45 45 w' w.heap.size (fun _ => True) v0_ r1 ∧ Below w.heap.size w w' := by
  have hu45 := Try.underlying45
  have HR0 := Aside0.mk hr0
  have HC0 := Aside0.mk hc0
  clear hr0 hc0
  have HB := Aside0.mk (Below.refl w.heap.size w)
  have HL := Aside0.mk (show l0.length < 2932031007402 by unfold history_calls.f at h; split at h; assumption; cases h)
  have H : Aside0 (hist_go (l0.length : Int) l0 0 ([] : List S45) [0, 0, 0, 0, 0, 0, 0, 0] = (r1, r2, r3)) := ⟨by unfold history_calls.f at h; rw [if_pos HL.out] at h; exact Option.some.inj h⟩
  clear h
  go_enter Try.func21, Try.ntmps21
  go_wp2
  have GE := Aside0.mk (Nat.le_refl w.heap.size)
  obtain ⟨go, hgo⟩ : ∃ g, g = w.heap.size := ⟨_, rfl⟩
  have GO := Aside0.mk (show w.heap.size ≤ go from hgo ▸ Nat.le_refl _)
  go_loopg [5, 13] (l0.length + 1) (fun kq v5 v13 w' => ∃ (i : Nat) (x : Int) (out : List S45) (o : List Int), v13 = .int .i64 x ∧ Aside0 (x = (i : Int)) ∧ Aside0 (kq + i = l0.length + 1 ∧ i ≤ l0.length) ∧ Aside0 (hist_go (l0.length : Int) (l0.drop i) (i : Int) out o = (r1, r2, r3)) ∧ Aside0 (HistInv i out o) ∧ Aside0 (w'.heap[w.heap.size]? = some (.cells (hist_cs o) 64 (0, 0))) ∧ Aside0 (Kd.R k45 45 w' w.heap.size (fun k_ => k_ ≠ w.heap.size) v5 out) ∧ Aside0 (Below w.heap.size w w'))
  case atStart => exact ⟨0, 0, [], [0, 0, 0, 0, 0, 0, 0, 0], (by rfl), ⟨rfl⟩, ⟨by omega, by omega⟩, H, ⟨⟨rfl, by decide, fun T => by rw [hist_rd_zero]; exact Int.le_refl _, fun T => by rw [hist_rd_zero]; exact Int.le_refl _⟩⟩, ⟨blk_new _ _⟩, ⟨Kd.R_nil _ _ _ _ _⟩, ⟨by repeat (first | (with_reducible first | exact HB.out | apply below_alloc | apply pw_below_drewN | apply below_drew1) | exact HB.out)⟩⟩
  case round =>
    clear H
    obtain ⟨i, x, out, o, rfl, HX, HK, HA, HI, BKo, HO, HB⟩ := hrel
    cases gk with
    | zero => exact absurd HK.out (by omega)
    | succ k1 =>
      by_cases hlt : i < l0.length
      · have c2b0 : decide (x < (l0.length : Int)) = true := decide_eq_true (by have := HX.out; omega)
        have HE := HA.out
        rw [hist_drop hlt] at HE
        obtain ⟨ad, ea, hx0, hx1, hx2, hx3, hx4⟩ := at_T47 HR0.out x (by have := HX.out; omega) (by have := HX.out; omega)
        rw [← HX.out] at HE
        generalize rd_T47 l0 x = ev at HE hx0 hx1 hx2 hx3 hx4
        obtain ⟨T, ret, push, V, st⟩ := ev
        simp only at hx0 hx1 hx2 hx3 hx4
        cases ea
        replace hx0 := (HB.out.cell (World.block_lt_of_cell? w _ hx0)).trans hx0
        replace hx1 := (HB.out.cell (World.block_lt_of_cell? w _ hx1)).trans hx1
        replace hx2 := (HB.out.cell (World.block_lt_of_cell? w _ hx2)).trans hx2
        replace hx3 := (HB.out.cell (World.block_lt_of_cell? w _ hx3)).trans hx3
        replace hx4 := (HB.out.cell (World.block_lt_of_cell? w _ hx4)).trans hx4
        have p1 : ((0 : Int) ≤ x) = True := eq_true (by have := HX.out; omega)
        have q1 : (x < (l0.length : Int)) = True := eq_true (by have := HX.out; omega)
        have p1d : decide ((0 : Int) ≤ x) = true := decide_eq_true (by have := HX.out; omega)
        have HEA := Aside0.mk HE
        clear HE
        go_upto_region 6 with (fail)
        have hne : w.heap.size ≠ wr.heap.size := Nat.ne_of_lt (blk_lt BKo.out)
        have hge : w.heap.size ≤ wr.heap.size := Nat.le_of_lt (blk_lt BKo.out)
        have BKe0 : (wr.alloc (.cells #[.int .i64 T, .bool ret, .bool push, .int .u64 V, .int .i64 st] 47)).heap[wr.heap.size]? = some (.cells #[.int .i64 T, .bool ret, .bool push, .int .u64 V, .int .i64 st] 47 (0, 0)) := blk_new _ _
        have BKo0 := blk_alloc BKo.out (.cells #[.int .i64 T, .bool ret, .bool push, .int .u64 V, .int .i64 st] 47)
        have HO0 := Kd.R_alloc HO.out (.cells #[.int .i64 T, .bool ret, .bool push, .int .u64 V, .int .i64 st] 47)
        have HB0 : Below w.heap.size w (wr.alloc (.cells #[.int .i64 T, .bool ret, .bool push, .int .u64 V, .int .i64 st] 47)) := by apply below_alloc; exact HB.out
        clear hx0 hx1 hx2 hx3 hx4 HO HB BKo HA
        have HNE := Aside0.mk hne
        have HGE := Aside0.mk hge
        clear hne hge
        generalize wr.alloc (.cells #[.int .i64 T, .bool ret, .bool push, .int .u64 V, .int .i64 st] 47) = w1 at BKe0 BKo0 HO0 HB0 ⊢
        generalize wr.heap.size = ge at BKe0 HNE HGE ⊢
        have BKe := Aside0.mk BKe0
        have BKo := Aside0.mk BKo0
        have HO := Aside0.mk HO0
        have HB := Aside0.mk HB0
        clear BKe0 BKo0 HO0 HB0
        have he0 : w1.cell? ⟨ge, 0, none⟩ = some (.int .i64 T) := (blk_cell BKe.out 0).trans rfl
        have he1 : w1.cell? ⟨ge, 1, none⟩ = some (.bool ret) := (blk_cell BKe.out 1).trans rfl
        have he2 : w1.cell? ⟨ge, 2, none⟩ = some (.bool push) := (blk_cell BKe.out 2).trans rfl
        have he3 : w1.cell? ⟨ge, 3, none⟩ = some (.int .u64 V) := (blk_cell BKe.out 3).trans rfl
        have he4 : w1.cell? ⟨ge, 4, none⟩ = some (.int .i64 st) := (blk_cell BKe.out 4).trans rfl
        by_cases hT0 : T < 0
        · have hT0b : decide (T < 0) = true := decide_eq_true hT0
          have HF := HEA.out
          simp only [hist_go, hist_err, if_pos hT0] at HF
          rw [if_pos (by decide)] at HF
          simp only [Prod.mk.injEq] at HF
          obtain ⟨rfl, rfl, rfl⟩ := HF
          go_wp2
          go_ret3
          exact ⟨_, rfl, Kd.R_nil _ _ _ _ _, HB.out⟩
        · by_cases hT8 : 8 ≤ T
          · have hT0b : decide (T < 0) = false := decide_eq_false hT0
            have hT8b : decide (8 ≤ T) = true := decide_eq_true hT8
            have hT8c : decide (T ≥ 8) = true := decide_eq_true hT8
            have HF := HEA.out
            simp only [hist_go, hist_err, if_neg hT0, if_pos hT8] at HF
            rw [if_pos (by decide)] at HF
            simp only [Prod.mk.injEq] at HF
            obtain ⟨rfl, rfl, rfl⟩ := HF
            go_wp2
            go_ret3
            exact ⟨_, rfl, Kd.R_nil _ _ _ _ _, HB.out⟩
          · have hT0b : decide (T < 0) = false := decide_eq_false hT0
            have hT8b : decide (8 ≤ T) = false := decide_eq_false hT8
            have hT8c : decide (T ≥ 8) = false := decide_eq_false hT8
            have d0 : decide (0 ≤ T) = true := decide_eq_true (by omega)
            have d8 : decide (T < 8) = true := decide_eq_true (by omega)
            have hTn : T.toNat < o.length := by have := HI.out.len; omega
            have hco : w1.cell? ⟨w.heap.size, T.toNat, none⟩ = some (.int .i64 (rd o T)) := (blk_cell BKo.out T.toNat).trans (hist_cs_get hTn)
            have HF := HEA.out
            simp only [hist_go, hist_err, if_neg hT0, if_neg hT8] at HF
            cases ret
            · simp only [Bool.false_eq_true, if_false] at HF
              obtain ⟨m, hm⟩ : ∃ m, hist_asksM (rd o T) push V st = m := ⟨_, rfl⟩
              have CA := fun W (hc : W.cell? ⟨w.heap.size, T.toNat, none⟩ = some (.int .i64 (rd o T))) => hist_asks w.heap.size T (rd o T) V st false push W (by omega) (by omega) hc
              rw [hm] at HF CA
              have HF0 := Aside0.mk HF
              clear HF
              by_cases hm0 : m = 0
              · subst hm0
                have HF := HF0.out
                rw [if_neg (by simp)] at HF
                have HF1 := Aside0.mk HF
                clear HF HF0 HEA
                have LM : out.length < 2932031007402 := by have := HI.out.le; have := HL.out; omega
                have LM' := Aside0.mk LM
                clear LM
                go_wp2_with (first | ((with_reducible refine gate_callee (f := 24) rfl ?_); refine goesL_ (some 19) rfl rfl Try.func24 (by kernel_rfl) rfl #[.pointer (some ⟨w.heap.size, 0, none⟩), .agg #[.int .i64 T, .bool false, .bool push, .int .u64 V, .int .i64 st]] rfl (by first | done | rfl | ((try simp only [List.map_toArray, List.map_cons, List.map_nil]); rfl)) ?_; (with_reducible refine (CA _ hco).mono ?_); rintro e w2 ⟨rfl, hb⟩; refine ⟨_, rfl, ?_⟩; have HO2 := Aside0.mk (Kd.R_types (Kd.R_below HO.out hb) (blk_below BKe.out hb) (by decide)); have BKe2 := Aside0.mk (blk_below BKe.out hb); have BKo2 := Aside0.mk (blk_below BKo.out hb); have HB2 := Aside0.mk (below_step HB.out hb); clear HB HO BKe BKo he0 he1 he2 he3 he4 hco; have he0 : w2.cell? ⟨ge, 0, none⟩ = some (.int .i64 T) := (blk_cell BKe2.out 0).trans rfl; have he1 : w2.cell? ⟨ge, 1, none⟩ = some (.bool false) := (blk_cell BKe2.out 1).trans rfl; have he2 : w2.cell? ⟨ge, 2, none⟩ = some (.bool push) := (blk_cell BKe2.out 2).trans rfl; have he3 : w2.cell? ⟨ge, 3, none⟩ = some (.int .u64 V) := (blk_cell BKe2.out 3).trans rfl) | ((with_reducible refine gate_builtin (b := .append) (xs := #[.tmp 42, .tmp 51]) rfl ?_); at_builtin; refine Kd.R_append k45 (w0 := w) w.heap.size rfl (.tmp 42) (.tmp 51) 30 45 (.agg #[(.int .i64 0), (.bool false), (.int .u64 0), (.int .i64 0), (.int .i64 0), (.int .i64 0)]) 48 rfl Try.underlying30 info45 rfl (by decide) (by omega) u5 out (⟨T, push, V, 0, x, -1⟩ : S45) [.int .i64 T, .bool push, .int .u64 V, .int .i64 0, .int .i64 x, .int .i64 (-1)] (fun k_ => k_ ≠ w.heap.size ∧ k_ ≠ ge) (fun _ => False) rfl (by first | (go_simp; done) | (go_simp; rfl)) ?aP (fun _ hk => hk.elim) ?aF ?aO ?aB ?aS ?aL ?_; (case aP => exact k45_mkM _ _ _ (⟨T, push, V, 0, x, -1⟩ : S45)); (case aB => exact HB2.out); (case aF => exact (fun k_ hk => ⟨Kd.freshB BKo2.out k_ hk, Kd.freshB BKe2.out k_ hk⟩)); (case aO => exact HO2.out); (case aS => exact below_size HB2.out); (case aL => have := LM'.out; omega); intro v3 w3 ho hb hg hat; have BKe3 := Aside0.mk (blk_grown BKe2.out hg (Kd.R_away HO2.out (fun _ hk => hk.2))); have BKo3 := Aside0.mk (blk_grown BKo2.out hg (Kd.R_away HO2.out (fun _ hk => hk.1))); clear BKe2 BKo2 HB2 HO2 he0 he1 he2 he3; obtain ⟨Ao, co, rfl⟩ := Kd.R_slice ho; have HO3 := Aside0.mk ho; have HB3 := Aside0.mk hb; clear ho hb hg hat; have he0 : w3.cell? ⟨ge, 0, none⟩ = some (.int .i64 T) := (blk_cell BKe3.out 0).trans rfl; have hco : w3.cell? ⟨w.heap.size, T.toNat, none⟩ = some (.int .i64 (rd o T)) := (blk_cell BKo3.out T.toNat).trans (hist_cs_get hTn); have hfo := blk_frozen BKo3.out T.toNat))
                go_roundg k1
                case measure => have := HK.out; omega
                case rel =>
                  have e2 : (out ++ [(⟨T, push, V, 0, x, -1⟩ : S45)]).length = out.length + 1 := by simp
                  have HO4 := HO3.out
                  rw [e2] at HO4
                  refine ⟨i + 1, wrap64 (x + 1), out ++ [(⟨T, push, V, 0, x, -1⟩ : S45)], o.set T.toNat ((out.length : Int) + 1), (by first | rfl | (simp; done) | (simp [*]; done)), ⟨?_⟩, ⟨?_⟩, ⟨?_⟩, ⟨?_⟩, ⟨blk_put BKo3.out T.toNat _ (hist_cs_set _ _ _)⟩, ⟨Kd.R_mono (Kd.R_far (p := ⟨w.heap.size, T.toNat, none⟩) HO4 (fun _ hk => hk.1) (.int .i64 ((out.length : Int) + 1))) (fun _ hk => ?_)⟩, ⟨below_set HB3.out (Nat.le_refl _)⟩⟩
                  · have := HX.out; have := HL.out; unfold wrap64; omega
                  · have := HK.out; omega
                  · have e1 : ((i + 1 : Nat) : Int) = x + 1 := by have := HX.out; omega
                    rw [e1]
                    exact HF1.out
                  · have := HI.out.le
                    exact HI.out.step _ _ (by omega) (by rw [e2]; push_cast; exact Int.le_refl _) (by rw [e2]; omega) (by rw [e2]; omega)
                  · exact hk.1
              · have hmb : (m == 0) = false := beq_eq_false_iff_ne.2 hm0
                have hmc : (m != 0) = true := bne_iff_ne.2 hm0
                have HF := HF0.out
                rw [if_pos hm0] at HF
                simp only [Prod.mk.injEq] at HF
                obtain ⟨rfl, rfl, rfl⟩ := HF
                go_wp2_with (first | ((with_reducible refine gate_callee (f := 24) rfl ?_); refine goesL_ (some 19) rfl rfl Try.func24 (by kernel_rfl) rfl #[.pointer (some ⟨w.heap.size, 0, none⟩), .agg #[.int .i64 T, .bool false, .bool push, .int .u64 V, .int .i64 st]] rfl (by first | done | rfl | ((try simp only [List.map_toArray, List.map_cons, List.map_nil]); rfl)) ?_; (with_reducible refine (CA _ hco).mono ?_); rintro e w2 ⟨rfl, hb⟩; refine ⟨_, rfl, ?_⟩; have HB2 := Aside0.mk (below_step HB.out hb); clear HB; have HB := HB2; clear HB2))
                go_ret3
                exact ⟨_, rfl, Kd.R_nil _ _ _ _ _, HB.out⟩
            · simp only [if_true] at HF
              obtain ⟨Ao, co, rfl⟩ := Kd.R_slice HO.out
              obtain ⟨m, hm⟩ : ∃ m, hist_answersM (rd o T) (rd_T45 out (rd o T - 1)).f1 push V st = m := ⟨_, rfl⟩
              have LM' : Aside0 (out.length < 2932031007402) := ⟨by have := HI.out.le; have := HL.out; omega⟩
              have CA := fun W (hc : W.cell? ⟨w.heap.size, T.toNat, none⟩ = some (.int .i64 (rd o T))) (hC : Kd.C k45 W Ao out.length out) => hist_answers w.heap.size T (rd o T) V st true push _ Ao co out W (by omega) (by omega) hc hC (HI.out.low T) (HI.out.high T) (by have := HI.out.high T; have := LM'.out; omega) rfl
              rw [hm] at HF CA
              have HF0 := Aside0.mk HF
              have HM := Aside0.mk hm
              clear HF hm
              by_cases hm0 : m = 0
              · subst hm0
                have HF := HF0.out
                rw [if_neg (by simp)] at HF
                have HF1 := Aside0.mk HF
                clear HF HF0 HEA
                have hx0 : rd o T ≠ 0 := by
                  intro h0
                  have := HM.out
                  rw [h0] at this
                  simp [hist_answersM] at this
                obtain ⟨jj, hj⟩ : ∃ jj, rd o T = jj + 1 := ⟨rd o T - 1, by omega⟩
                have hj0 : 0 ≤ jj := by have := HI.out.low T; omega
                have hj1 : jj < (out.length : Int) := by have := HI.out.high T; omega
                have hjm : jj < 2932031007402 := by have := LM'.out; omega
                rw [hj] at hco CA HF1
                rw [show jj + 1 - 1 = jj by omega] at HF1
                clear hx0
                have HJ := Aside0.mk hj
                clear hj HM
                have HJ0 := Aside0.mk hj0
                have HJ1 := Aside0.mk hj1
                obtain ⟨gq, cap, eq_, hg1, hg2, cells, hcells⟩ := Kd.R_form HO.out (by omega)
                cases eq_
                have HG1 := Aside0.mk hg1
                clear hg1 hg2 hcells
                have p2 : ((0 : Int) ≤ jj) = True := eq_true hj0
                have q2 : (jj < (out.length : Int)) = True := eq_true hj1
                cases push
                · go_wp2_with (first | ((with_reducible refine gate_callee (f := 23) rfl ?_); refine goesL_ (some 34) rfl rfl Try.func23 (by kernel_rfl) rfl #[.pointer (some ⟨w.heap.size, 0, none⟩), .agg #[.int .i64 T, .bool true, .bool false, .int .u64 V, .int .i64 st], .slice (some ⟨gq, 0, none⟩) out.length co] rfl (by first | done | rfl | ((try simp only [List.map_toArray, List.map_cons, List.map_nil]); rfl)) ?_; (with_reducible refine (CA _ hco (Kd.R_reads' HO.out).2.2).mono ?_); rintro e w2 ⟨rfl, hb⟩; refine ⟨_, rfl, ?_⟩; have HO2 := Aside0.mk (Kd.R_types (Kd.R_below HO.out hb) (blk_below BKe.out hb) (by decide)); have BKe2 := Aside0.mk (blk_below BKe.out hb); have BKo2 := Aside0.mk (blk_below BKo.out hb); have HB2 := Aside0.mk (below_step HB.out hb); clear HB HO BKe BKo he0 he1 he2 he3 he4 hco; have he0 : w2.cell? ⟨ge, 0, none⟩ = some (.int .i64 T) := (blk_cell BKe2.out 0).trans rfl; have he1 : w2.cell? ⟨ge, 1, none⟩ = some (.bool true) := (blk_cell BKe2.out 1).trans rfl; have he2 : w2.cell? ⟨ge, 2, none⟩ = some (.bool false) := (blk_cell BKe2.out 2).trans rfl; have he3 : w2.cell? ⟨ge, 3, none⟩ = some (.int .u64 V) := (blk_cell BKe2.out 3).trans rfl; have he4 : w2.cell? ⟨ge, 4, none⟩ = some (.int .i64 st) := (blk_cell BKe2.out 4).trans rfl; have hco : w2.cell? ⟨w.heap.size, T.toNat, none⟩ = some (.int .i64 (jj + 1)) := (blk_cell BKo2.out T.toNat).trans ((hist_cs_get hTn).trans (by rw [HJ.out])); have hfo := blk_frozen BKo2.out T.toNat; have hne1 : ¬ w.heap.size = ge := HNE.out; have hne2 : ¬ ge = w.heap.size := fun h => HNE.out h.symm; have hqa := Kd.R_away HO2.out (fun _ hk => hk.1); have hqb := Kd.R_away HO2.out (fun _ hk => hk.2); have hq1 : ¬ gq = w.heap.size := (fun h => hqa (by rw [h]; rfl)); have hq2 : ¬ w.heap.size = gq := (fun h => hq1 h.symm); have hq3 : ¬ gq = ge := (fun h => hqb (by rw [h]; rfl)); have hq4 : ¬ ge = gq := (fun h => hq3 h.symm); clear hqa hqb; obtain ⟨ce, hcl, hM, hcc, hfr⟩ := Kd.R_elem HO2.out z45 jj HJ0.out HJ1.out; obtain rfl := k45_openM hM; have hk2 : w2.cell? ⟨gq, jj.toNat * 6 + 2, none⟩ = some (.int .u64 (rd_T45 out jj).f2) := hcc 2 _ rfl; have hk3 : w2.cell? ⟨gq, jj.toNat * 6 + 3, none⟩ = some (.int .i64 (rd_T45 out jj).f3) := hcc 3 _ rfl; have hk5 : w2.cell? ⟨gq, jj.toNat * 6 + 5, none⟩ = some (.int .i64 (rd_T45 out jj).f5) := hcc 5 _ rfl; have hf2 : w2.frozen? ⟨gq, jj.toNat * 6 + 2, none⟩ = false := hfr 2; have hf3 : w2.frozen? ⟨gq, jj.toNat * 6 + 3, none⟩ = false := hfr 3; have hf5 : w2.frozen? ⟨gq, jj.toNat * 6 + 5, none⟩ = false := hfr 5; clear hcl hM hcc hfr))
                  go_roundg k1
                  case measure => have := HK.out; omega
                  case rel =>
                    refine ⟨i + 1, wrap64 (x + 1), out.set jj.toNat (hist_end (rd_T45 out jj) ⟨T, true, false, V, st⟩ x), o.set T.toNat 0, (by first | rfl | (simp; done) | (simp [*]; done)), ⟨?_⟩, ⟨?_⟩, ⟨?_⟩, ⟨?_⟩, ⟨blk_far (blk_far (blk_far (blk_put BKo2.out T.toNat _ (hist_cs_set _ _ _)) hq2 _) hq2 _) hq2 _⟩, ⟨Kd.R_mono (hist_ends' (Kd.R_far (p := ⟨w.heap.size, T.toNat, none⟩) HO2.out (fun _ hk => hk.1) (.int .i64 0)) jj HJ0.out HJ1.out T V st x) (fun _ hk => ?_)⟩, ⟨below_set (below_set (below_set (below_set HB2.out (Nat.le_refl _)) HG1.out) HG1.out) HG1.out⟩⟩
                    · have := HX.out; have := HL.out; unfold wrap64; omega
                    · have := HK.out; omega
                    · have e1 : ((i + 1 : Nat) : Int) = x + 1 := by have := HX.out; omega
                      rw [e1]
                      exact HF1.out
                    · have := HI.out.le
                      exact HI.out.step _ _ (Int.le_refl _) (by omega) (by rw [List.length_set]; exact Nat.le_refl _) (by rw [List.length_set]; omega)
                    · exact hk.1
                · go_wp2_with (first | ((with_reducible refine gate_callee (f := 23) rfl ?_); refine goesL_ (some 34) rfl rfl Try.func23 (by kernel_rfl) rfl #[.pointer (some ⟨w.heap.size, 0, none⟩), .agg #[.int .i64 T, .bool true, .bool true, .int .u64 V, .int .i64 st], .slice (some ⟨gq, 0, none⟩) out.length co] rfl (by first | done | rfl | ((try simp only [List.map_toArray, List.map_cons, List.map_nil]); rfl)) ?_; (with_reducible refine (CA _ hco (Kd.R_reads' HO.out).2.2).mono ?_); rintro e w2 ⟨rfl, hb⟩; refine ⟨_, rfl, ?_⟩; have HO2 := Aside0.mk (Kd.R_types (Kd.R_below HO.out hb) (blk_below BKe.out hb) (by decide)); have BKe2 := Aside0.mk (blk_below BKe.out hb); have BKo2 := Aside0.mk (blk_below BKo.out hb); have HB2 := Aside0.mk (below_step HB.out hb); clear HB HO BKe BKo he0 he1 he2 he3 he4 hco; have he0 : w2.cell? ⟨ge, 0, none⟩ = some (.int .i64 T) := (blk_cell BKe2.out 0).trans rfl; have he1 : w2.cell? ⟨ge, 1, none⟩ = some (.bool true) := (blk_cell BKe2.out 1).trans rfl; have he2 : w2.cell? ⟨ge, 2, none⟩ = some (.bool true) := (blk_cell BKe2.out 2).trans rfl; have he3 : w2.cell? ⟨ge, 3, none⟩ = some (.int .u64 V) := (blk_cell BKe2.out 3).trans rfl; have he4 : w2.cell? ⟨ge, 4, none⟩ = some (.int .i64 st) := (blk_cell BKe2.out 4).trans rfl; have hco : w2.cell? ⟨w.heap.size, T.toNat, none⟩ = some (.int .i64 (jj + 1)) := (blk_cell BKo2.out T.toNat).trans ((hist_cs_get hTn).trans (by rw [HJ.out])); have hfo := blk_frozen BKo2.out T.toNat; have hne1 : ¬ w.heap.size = ge := HNE.out; have hne2 : ¬ ge = w.heap.size := fun h => HNE.out h.symm; have hqa := Kd.R_away HO2.out (fun _ hk => hk.1); have hqb := Kd.R_away HO2.out (fun _ hk => hk.2); have hq1 : ¬ gq = w.heap.size := (fun h => hqa (by rw [h]; rfl)); have hq2 : ¬ w.heap.size = gq := (fun h => hq1 h.symm); have hq3 : ¬ gq = ge := (fun h => hqb (by rw [h]; rfl)); have hq4 : ¬ ge = gq := (fun h => hq3 h.symm); clear hqa hqb; obtain ⟨ce, hcl, hM, hcc, hfr⟩ := Kd.R_elem HO2.out z45 jj HJ0.out HJ1.out; obtain rfl := k45_openM hM; have hk2 : w2.cell? ⟨gq, jj.toNat * 6 + 2, none⟩ = some (.int .u64 (rd_T45 out jj).f2) := hcc 2 _ rfl; have hk3 : w2.cell? ⟨gq, jj.toNat * 6 + 3, none⟩ = some (.int .i64 (rd_T45 out jj).f3) := hcc 3 _ rfl; have hk5 : w2.cell? ⟨gq, jj.toNat * 6 + 5, none⟩ = some (.int .i64 (rd_T45 out jj).f5) := hcc 5 _ rfl; have hf2 : w2.frozen? ⟨gq, jj.toNat * 6 + 2, none⟩ = false := hfr 2; have hf3 : w2.frozen? ⟨gq, jj.toNat * 6 + 3, none⟩ = false := hfr 3; have hf5 : w2.frozen? ⟨gq, jj.toNat * 6 + 5, none⟩ = false := hfr 5; clear hcl hM hcc hfr))
                  go_roundg k1
                  case measure => have := HK.out; omega
                  case rel =>
                    refine ⟨i + 1, wrap64 (x + 1), out.set jj.toNat (hist_end (rd_T45 out jj) ⟨T, true, true, V, st⟩ x), o.set T.toNat 0, (by first | rfl | (simp; done) | (simp [*]; done)), ⟨?_⟩, ⟨?_⟩, ⟨?_⟩, ⟨?_⟩, ⟨blk_far (blk_far (blk_put BKo2.out T.toNat _ (hist_cs_set _ _ _)) hq2 _) hq2 _⟩, ⟨Kd.R_mono (hist_ends (Kd.R_far (p := ⟨w.heap.size, T.toNat, none⟩) HO2.out (fun _ hk => hk.1) (.int .i64 0)) jj HJ0.out HJ1.out T V st x) (fun _ hk => ?_)⟩, ⟨below_set (below_set (below_set HB2.out (Nat.le_refl _)) HG1.out) HG1.out⟩⟩
                    · have := HX.out; have := HL.out; unfold wrap64; omega
                    · have := HK.out; omega
                    · have e1 : ((i + 1 : Nat) : Int) = x + 1 := by have := HX.out; omega
                      rw [e1]
                      exact HF1.out
                    · have := HI.out.le
                      exact HI.out.step _ _ (Int.le_refl _) (by omega) (by rw [List.length_set]; exact Nat.le_refl _) (by rw [List.length_set]; omega)
                    · exact hk.1
              · have hmb : (m == 0) = false := beq_eq_false_iff_ne.2 hm0
                have hmc : (m != 0) = true := bne_iff_ne.2 hm0
                have HF := HF0.out
                rw [if_pos hm0] at HF
                simp only [Prod.mk.injEq] at HF
                obtain ⟨rfl, rfl, rfl⟩ := HF
                go_wp2_with (first | ((with_reducible refine gate_callee (f := 23) rfl ?_); refine goesL_ (some 34) rfl rfl Try.func23 (by kernel_rfl) rfl #[.pointer (some ⟨w.heap.size, 0, none⟩), .agg #[.int .i64 T, .bool true, .bool push, .int .u64 V, .int .i64 st], .slice Ao out.length co] rfl (by first | done | rfl | ((try simp only [List.map_toArray, List.map_cons, List.map_nil]); rfl)) ?_; (with_reducible refine (CA _ hco (Kd.R_reads' HO.out).2.2).mono ?_); rintro e w2 ⟨rfl, hb⟩; refine ⟨_, rfl, ?_⟩; have HB2 := Aside0.mk (below_step HB.out hb); clear HB; have HB := HB2; clear HB2))
                go_ret3
                exact ⟨_, rfl, Kd.R_nil _ _ _ _ _, HB.out⟩
      · have c2b0 : decide (x < (l0.length : Int)) = false := decide_eq_false (by have := HX.out; omega)
        have ei : i = l0.length := by have := HK.out; omega
        have HF := HA.out
        rw [ei, List.drop_length] at HF
        simp only [hist_go, Prod.mk.injEq] at HF
        obtain ⟨rfl, rfl, rfl⟩ := HF
        go_wp2
        go_ret3
        exact ⟨_, rfl, Kd.R_mono HO.out (fun _ _ => trivial), HB.out⟩

end Go.Proofs.Ytmdjmfbinjnlcaa.P
