/- LifoRuns: what a stack answered, one behind the other, it may answer; cut anywhere, what stands behind is what the stack of there may answer: for every input. -/
import Derived.Test.YtoafkejmdlcnpaaPx7
import Derived.Laws.Bits64
set_option linter.unusedVariables false
set_option linter.unusedSimpArgs false
namespace Go.Proofs.Ytoafkejmdlcnpaa.Pure
open Go.RowKit Go.Proofs.Ytoafkejmdlcnpaa.P Go.Proofs.YtoafkejmdlcnpaaW.PrintWords Go.Proofs.YtoafkejmdlcnpaaW.PrintLast
/-- 'Option.bind_some', but no law by definition: so Lean's kernel need not compare what the two sides unfold to. -/
theorem bs {α β : Type} (x : α) (f : α → Option β) : (some x).bind f = f x := by rw [Option.bind_some]
theorem beq_no {a b : Int} (h : ¬ a = b) : (a == b) = false := beq_eq_false_iff_ne.2 h
theorem w_id {i : Int} (h0 : -9223372036854775808 ≤ i) (h1 : i ≤ 9223372036854775807) : wrap64 i = i := by unfold wrap64; omega
theorem w_nat {i : Nat} (h : i < 1000000000) : wrap64 ((i : Int) + 1) = ((i + 1 : Nat) : Int) := by unfold wrap64; omega
theorem wf_i64 {x : Int} (h : (Lit.int .i64 x).wf = true) : -9223372036854775808 ≤ x ∧ x ≤ 9223372036854775807 := by
  simp [Lit.wf, IntKind.min, IntKind.max, IntKind.signed, IntKind.bits] at h; omega
theorem wf_u64 {x : Int} (h : (Lit.int .u64 x).wf = true) : 0 ≤ x ∧ x < 18446744073709551616 := by
  simp [Lit.wf, IntKind.min, IntKind.max, IntKind.signed, IntKind.bits] at h; omega
theorem wf_u32 {x : Int} (h : (Lit.int .u32 x).wf = true) : 0 ≤ x ∧ x < 4294967296 := by
  simp [Lit.wf, IntKind.min, IntKind.max, IntKind.signed, IntKind.bits] at h; omega
/-- A raw number picks one of n things. -/
theorem pick_of (c n : Int) (h0 : -9223372036854775808 ≤ c) (h1 : c ≤ 9223372036854775807) (hn : 0 < n) : ∃ p, hatstandlaw5_pick.f c n = some p ∧ 0 ≤ p ∧ p < n := by
  unfold hatstandlaw5_pick.f
  have hn0 : ¬ n = 0 := by omega
  by_cases hc : c < 0
  · rw [if_pos hc, if_neg hn0]
    have e : wrap64 (-(wrap64 (c + 1))) = -(c + 1) := by unfold wrap64; omega
    rw [e]
    exact ⟨_, rfl, Int.tmod_nonneg _ (by omega), Int.tmod_lt_of_pos _ hn⟩
  · rw [if_neg hc, if_neg hn0]
    exact ⟨_, rfl, Int.tmod_nonneg _ (by omega), Int.tmod_lt_of_pos _ hn⟩
/-- A push on a stack of at most so many words: the stack behind it, and the status. -/
def pushM (s : List Int) (m v : Int) : List Int × Int := if (s.length : Int) < m then (s ++ [v], 1) else (s, 2)
/-- A pop: the stack behind it, the word, the status. -/
def popM (s : List Int) : List Int × Int × Int := if s.length = 0 then ([], 0, 2) else (s.take (s.length - 1), rd s ((s.length : Int) - 1), 1)
/-- May a stack answer so? -/
def doM (s : List Int) (m : Int) (p : Bool) (v st : Int) : List Int × Bool :=
  if st = 6 then (s, true) else
  if p = true then (if (pushM s m v).2 = st then ((pushM s m v).1, true) else ([], false)) else
  (if (popM s).2.2 = st then (if (popM s).2.1 = v then ((popM s).1, true) else ([], false)) else ([], false))
theorem put_eq (a b : List Int) (h : a.length + b.length < 17592186044416) : lifo_put_uint64.f a b = some (a ++ b) := by
  unfold lifo_put_uint64.f; rw [if_pos h]
theorem push_eq (s : List Int) (m v : Int) (h : s.length < 5000) : lifo_Push.f s m v = some (pushM s m v) := by
  unfold lifo_Push.f pushM
  rw [put_eq s [] (by simp; omega), put_eq s [v] (by simp; omega)]
  simp only [bs, List.append_nil]
  by_cases g : (s.length : Int) < m
  · rw [if_neg (by omega), if_pos g]
  · rw [if_pos (by omega), if_neg g]
theorem pop_eq (s : List Int) (h : s.length < 5000) : lifo_Pop.f s = some (popM s) := by
  unfold lifo_Pop.f popM
  by_cases g : s.length = 0
  · rw [if_pos (by unfold wrap64; omega), if_pos g]
  · have e : wrap64 ((s.length : Int) - 1) = (s.length : Int) - 1 := by unfold wrap64; omega
    rw [e, if_neg (by omega), if_neg g, if_pos (by omega), if_pos (by omega), put_eq _ _ (by simp; omega)]
    simp only [bs, List.append_nil]
    rw [if_pos (by omega)]
    have e2 : ((s.length : Int) - 1).toNat = s.length - 1 := by omega
    rw [e2]
theorem do_eq (s : List Int) (m : Int) (p : Bool) (v st : Int) (h : s.length < 5000) : lifo_Do.f s m p v st = some (doM s m p v st) := by
  unfold lifo_Do.f doM
  rw [put_eq s [] (by simp; omega), push_eq s m v h, pop_eq s h]
  simp only [bs, List.append_nil]
  by_cases g : st = 6
  · rw [if_pos g, if_pos g, if_pos g.symm]
  · rw [if_neg g, if_neg g]
    cases p
    · simp only [Bool.false_eq_true, if_false]
      split
      · split <;> rfl
      · rfl
    · simp only [if_true]
      split <;> rfl
theorem pushM_len (s : List Int) (m v : Int) : (pushM s m v).1.length ≤ s.length + 1 := by
  unfold pushM; split <;> simp
theorem popM_len (s : List Int) : (popM s).1.length ≤ s.length := by
  unfold popM; split <;> simp
theorem doM_len (s : List Int) (m : Int) (p : Bool) (v st : Int) : (doM s m p v st).1.length ≤ s.length + 1 := by
  unfold doM
  have h1 := pushM_len s m v
  have h2 := popM_len s
  split
  · simp
  · split
    · split
      · exact h1
      · simp
    · split
      · split
        · exact Nat.le_trans h2 (by omega)
        · simp
      · simp
/-- All answers, one behind the other: the last stack, and how many there are. -/
def runM (m : Int) : List Int → List S30 → List Int × Int
  | s, [] => (s, 0)
  | s, o :: l => if (doM s m o.f0 o.f1 o.f2).2 = true then ((runM m (doM s m o.f0 o.f1 o.f2).1 l).1, (runM m (doM s m o.f0 o.f1 o.f2).1 l).2 + 1) else (s, 0)
theorem rdT_eq (l : List S30) (i : Nat) (h : i < l.length) : rd_T30 l (i : Int) = l[i] := by
  unfold rd_T30
  simp [List.getD_eq_getElem?_getD, List.getElem?_eq_getElem h]
theorem runM_bounds (m : Int) (l : List S30) : ∀ s, 0 ≤ (runM m s l).2 ∧ (runM m s l).2 ≤ l.length ∧ ((runM m s l).1.length : Int) ≤ s.length + (runM m s l).2 := by
  induction l with
  | nil => intro s; simp [runM]
  | cons o l ih =>
    intro s
    unfold runM
    split
    · have h := ih (doM s m o.f0 o.f1 o.f2).1
      have h2 := doM_len s m o.f0 o.f1 o.f2
      simp only [List.length_cons]
      omega
    · simp only [List.length_cons]; omega
theorem run_loop (m : Int) (l2 l : List S30) (hl : l2.length = l.length) (hb : l.length ≤ 1000) (d : Nat) : ∀ (k : Nat) (cur : List Int) (i : Nat), i ≤ l.length → l.length - i = d → d < k → cur.length + d < 4000 →
    lifo_Run.l0 k m l2 cur l (l.length : Int) (i : Int) = some ((runM m cur (l.drop i)).1, (i : Int) + (runM m cur (l.drop i)).2) := by
  induction d with
  | zero =>
    intro k cur i hi hd hk hc
    obtain ⟨k, rfl⟩ : ∃ q, k = q + 1 := ⟨k - 1, by omega⟩
    simp only [lifo_Run.l0]
    rw [if_neg (by omega), List.drop_of_length_le (by omega)]
    simp only [runM]
    rw [hl]
    congr 2
    omega
  | succ d ih =>
    intro k cur i hi hd hk hc
    obtain ⟨k, rfl⟩ : ∃ q, k = q + 1 := ⟨k - 1, by omega⟩
    have hlt : i < l.length := by omega
    simp only [lifo_Run.l0]
    rw [if_pos (by omega), if_pos (by omega), if_pos (by omega), rdT_eq l i hlt, do_eq _ _ _ _ _ (by omega)]
    simp only [bs]
    rw [List.drop_eq_getElem_cons hlt]
    unfold runM
    have h2 := doM_len cur m l[i].f0 l[i].f1 l[i].f2
    split
    · rw [w_nat (by omega), ih k _ (i + 1) (by omega) (by omega) (by omega) (by omega)]
      congr 2
      omega
    · simp
theorem run_eq (s : List Int) (m : Int) (l : List S30) (k : Nat) (hb : l.length ≤ 1000) (hs : s.length ≤ 1000) (hk : l.length < k) : lifo_Run.f k s m l = some (runM m s l) := by
  unfold lifo_Run.f
  rw [put_eq s [] (by simp; omega)]
  simp only [bs, List.append_nil]
  have h := run_loop m l l rfl hb l.length k s 0 (by omega) (by omega) hk (by omega)
  simp only [List.drop_zero] at h
  rw [show ((0 : Nat) : Int) = 0 from rfl] at h
  rw [h]
  congr 1
  ext1 <;> simp
theorem lifo_shown (k : Nat) (hk : 4 < k) : hatstandlaw5_shown.f k = some true := by
  unfold hatstandlaw5_shown.f
  rw [run_eq [] 1 _ k (by simp) (by simp) (by simpa using hk)]
  simp only [bs]
  decide
theorem same_loop (a b : List Int) (h : a = b) (hb : a.length ≤ 4000) (d : Nat) : ∀ (k : Nat) (i : Int), 0 ≤ i → (a.length : Int) - i = d → d < k → hatstandref5_Same.l0 k a b i = some true := by
  subst h
  induction d with
  | zero =>
    intro k i h0 hd hk
    obtain ⟨k, rfl⟩ : ∃ q, k = q + 1 := ⟨k - 1, by omega⟩
    simp only [hatstandref5_Same.l0]
    rw [if_neg (by omega)]
  | succ d ih =>
    intro k i h0 hd hk
    obtain ⟨k, rfl⟩ : ∃ q, k = q + 1 := ⟨k - 1, by omega⟩
    simp only [hatstandref5_Same.l0]
    have e : wrap64 (i + 1) = i + 1 := by unfold wrap64; omega
    rw [if_pos (by omega), if_pos h0, if_pos (by omega), if_true, e, ih k (i + 1) (by omega) (by omega) (by omega)]
theorem same_yes (a b : List Int) (k : Nat) (h : a = b) (hb : a.length ≤ 4000) (hk : a.length < k) : hatstandref5_Same.f k a b = some true := by
  unfold hatstandref5_Same.f
  rw [if_pos (by rw [h]), same_loop a b h hb a.length k 0 (by omega) (by omega) hk]
attribute [irreducible] pushM popM doM runM
theorem same_any (a b : List Int) (d : Nat) : ∀ (k : Nat) (i : Int), 0 ≤ i → a.length = b.length → a.length ≤ 4000 → (a.length : Int) - i = d → d < k → ∃ r, hatstandref5_Same.l0 k a b i = some r := by
  induction d with
  | zero =>
    intro k i h0 hl hb hd hk
    obtain ⟨k, rfl⟩ : ∃ q, k = q + 1 := ⟨k - 1, by omega⟩
    exact ⟨true, by simp only [hatstandref5_Same.l0]; rw [if_neg (by omega)]⟩
  | succ d ih =>
    intro k i h0 hl hb hd hk
    obtain ⟨k, rfl⟩ : ∃ q, k = q + 1 := ⟨k - 1, by omega⟩
    obtain ⟨r, hr⟩ := ih k (i + 1) (by omega) hl hb (by omega) (by omega)
    by_cases h : rd a i = rd b i
    · refine ⟨r, ?_⟩
      simp only [hatstandref5_Same.l0]
      rw [if_pos (by omega), if_pos h0, if_pos (by omega), if_pos h, w_id (by omega) (by omega), hr]
    · refine ⟨false, ?_⟩
      simp only [hatstandref5_Same.l0]
      rw [if_pos (by omega), if_pos h0, if_pos (by omega), if_neg h]
/-- Cut anywhere, what stands behind is what the stack of there may answer. -/
theorem runM_cut (m : Int) (l : List S30) : ∀ (s : List Int) (k : Nat), (k : Int) ≤ (runM m s l).2 →
    ∃ u, runM m s (l.take k) = (u, (k : Int)) ∧ runM m u ((l.take (runM m s l).2.toNat).drop k) = ((runM m s l).1, (runM m s l).2 - k) := by
  induction l with
  | nil =>
    intro s k hk
    have e : runM m s [] = (s, 0) := by unfold runM; rfl
    rw [e] at hk ⊢
    obtain rfl : k = 0 := by simp at hk; omega
    exact ⟨s, by simp [e], by simp [e]⟩
  | cons o l ih =>
    intro s k hk
    have hb := runM_bounds m l (doM s m o.f0 o.f1 o.f2).1
    have e : runM m s (o :: l) = if (doM s m o.f0 o.f1 o.f2).2 = true then ((runM m (doM s m o.f0 o.f1 o.f2).1 l).1, (runM m (doM s m o.f0 o.f1 o.f2).1 l).2 + 1) else (s, 0) := by
      rw [runM]
    have e0 : ∀ u, runM m u [] = (u, 0) := by intro u; rw [runM]
    by_cases hd : (doM s m o.f0 o.f1 o.f2).2 = true
    · rw [if_pos hd] at e
      rw [e] at hk ⊢
      simp only at hk ⊢
      generalize hn : (runM m (doM s m o.f0 o.f1 o.f2).1 l).2 = n at *
      have en : (n + 1).toNat = n.toNat + 1 := by omega
      cases k with
      | zero =>
        obtain ⟨u, h1, h2⟩ := ih (doM s m o.f0 o.f1 o.f2).1 0 (by rw [hn]; simp; omega)
        refine ⟨s, by simp [e0], ?_⟩
        rw [en, List.take_succ_cons, List.drop_zero, runM, if_pos hd]
        simp only [List.take_zero] at h1
        rw [e0] at h1
        simp only [Prod.mk.injEq] at h1
        obtain ⟨rfl, _⟩ := h1
        rw [hn, List.drop_zero] at h2
        rw [h2]
        simp
      | succ k =>
        obtain ⟨u, h1, h2⟩ := ih (doM s m o.f0 o.f1 o.f2).1 k (by rw [hn]; omega)
        refine ⟨u, ?_, ?_⟩
        · rw [List.take_succ_cons, runM, if_pos hd, h1]
          simp
        · rw [en, List.take_succ_cons, List.drop_succ_cons]
          rw [hn] at h2
          rw [h2]
          congr 1
          omega
    · rw [if_neg hd] at e
      rw [e] at hk ⊢
      simp only at hk ⊢
      obtain rfl : k = 0 := by omega
      exact ⟨s, by simp [e0], by simp [e0]⟩
theorem runM_stop (m : Int) (l : List S30) : ∀ (s : List Int) (n : Nat) (hn : n < l.length), (runM m s l).2 = (n : Int) → doM (runM m s l).1 m l[n].f0 l[n].f1 l[n].f2 = ([], false) := by
  have hf : ∀ (s : List Int) (p : Bool) (v st : Int), ¬ (doM s m p v st).2 = true → doM s m p v st = ([], false) := by
    intro s p v st h
    unfold doM at h ⊢
    split at h
    · simp at h
    · rename_i g
      rw [if_neg g]
      split at h
      · rename_i g2
        rw [if_pos g2]
        split at h
        · simp at h
        · rename_i g3; rw [if_neg g3]
      · rename_i g2
        rw [if_neg g2]
        split at h
        · rename_i g3
          rw [if_pos g3]
          split at h
          · simp at h
          · rename_i g4; rw [if_neg g4]
        · rename_i g3; rw [if_neg g3]
  induction l with
  | nil => intro s n hn; simp at hn
  | cons o l ih =>
    intro s n hn h
    rw [runM] at h ⊢
    by_cases hd : (doM s m o.f0 o.f1 o.f2).2 = true
    · rw [if_pos hd] at h ⊢
      have hb := runM_bounds m l (doM s m o.f0 o.f1 o.f2).1
      cases n with
      | zero => simp only at h; omega
      | succ n =>
        have := ih (doM s m o.f0 o.f1 o.f2).1 n (by simpa using hn) (by simp only at h; omega)
        simpa using this
    · rw [if_neg hd] at h ⊢
      obtain rfl : n = 0 := by simp only at h; omega
      exact hf _ _ _ _ hd
theorem LifoRuns : hatstandlaw5_LifoRuns.Pure := by
  intro s m l a _ _ _ _ _ _ _ wa
  have ba := wf_i64 wa
  obtain ⟨K, hK⟩ : ∃ K : Nat, 3000 < K := ⟨3001, by omega⟩
  refine ⟨K + 3, ?_⟩
  unfold hatstandlaw5_LifoRuns.f
  rw [lifo_shown (K + 3) (by omega)]
  simp only [bs, if_true, hatstandlaw5_LifoRuns.j0]
  by_cases h1 : (s.length : Int) > 200
  · rw [if_pos h1]
  · rw [if_neg h1]
    by_cases h2 : (l.length : Int) > 200
    · rw [if_pos (by simp [h2])]
    · rw [if_neg (by simp [h2]), run_eq s m l (K + 2) (by omega) (by omega) (by omega)]
      simp only [bs]
      have hb := runM_bounds m l s
      have hcut := runM_cut m l s
      have hstop := runM_stop m l s
      generalize (runM m s l).1 = t at *
      generalize (runM m s l).2 = n at *
      rw [if_neg (by omega), decide_eq_false (by omega)]
      simp only [hatstandlaw5_LifoRuns.j1, Bool.false_eq_true, if_false]
      rw [w_id (i := n + 1) (by omega) (by omega)]
      obtain ⟨k', hk, hk0, hk1⟩ := pick_of a (n + 1) ba.1 ba.2 (by omega)
      obtain ⟨k, rfl⟩ := Int.eq_ofNat_of_zero_le hk0
      obtain ⟨u, hu1, hu2⟩ := hcut k (by omega)
      have hub := runM_bounds m (l.take k) s
      rw [hu1] at hub
      simp only [List.length_take] at hub
      rw [hk]
      simp only [bs, Int.toNat_natCast]
      rw [if_pos hk0, if_pos (by omega), run_eq s m (l.take k) (K + 1) (by simp; omega) (by omega) (by simp; omega), hu1]
      simp only [bs]
      rw [if_pos (by omega), if_pos (by omega), run_eq u m _ (K + 1) (by simp; omega) (by omega) (by simp; omega), hu2]
      simp only [bs, if_true]
      rw [w_id (i := n - (k : Int)) (by omega) (by omega), if_pos rfl, same_yes t t (K + 1) rfl (by omega) (by omega)]
      simp only [bs, Bool.not_true, hatstandlaw5_LifoRuns.j2, Bool.false_eq_true, if_false]
      by_cases hn : n = (l.length : Int)
      · rw [if_pos hn]
      · rw [if_neg hn, if_pos (by omega), if_pos (by omega)]
        obtain ⟨q, rfl⟩ := Int.eq_ofNat_of_zero_le hb.1
        have hq : q < l.length := by omega
        rw [rdT_eq l q hq, do_eq _ _ _ _ _ (by omega), hstop q hq rfl]
        simp [bs]
end Go.Proofs.Ytoafkejmdlcnpaa.Pure
