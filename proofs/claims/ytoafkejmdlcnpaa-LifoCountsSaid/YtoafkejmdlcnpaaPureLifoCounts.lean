/- LifoCounts: how long a stack is, behind answers that are its own, is how many pushes were done, less how many pops: for every bound and answers. -/
import Derived.Test.YtoafkejmdlcnpaaPx9
import Derived.Laws.Bits64
set_option linter.unusedVariables false
set_option linter.unusedSimpArgs false
namespace Go.Proofs.Ytoafkejmdlcnpaa.Pure
open Go.RowKit Go.Proofs.Ytoafkejmdlcnpaa.P Go.Proofs.YtoafkejmdlcnpaaW.PrintWords Go.Proofs.YtoafkejmdlcnpaaW.PrintLast
/-- 'Option.bind_some', but no law by definition: so Lean's kernel need not compare what the two sides unfold to. -/
theorem bs {α β : Type} (x : α) (f : α → Option β) : (some x).bind f = f x := by rw [Option.bind_some]
theorem beq_no {a b : Int} (h : ¬ a = b) : (a == b) = false := beq_eq_false_iff_ne.2 h
theorem w_id {i : Int} (h0 : -9223372036854775808 ≤ i) (h1 : i ≤ 9223372036854775807) : wrap64 i = i := by unfold wrap64; omega
theorem w_nat {i : Nat} (h : i < 1000000000) : wrap64 ((i : Int) + 1) = ((i + 1 : Nat) : Int) := by unfold wrap64; omega
theorem wf_i64 {x : Int} (h : (Lit.int .i64 x).wf = true) : -9223372036854775808 ≤ x ∧ x ≤ 9223372036854775807 := by
  simp [Lit.wf, IntKind.min, IntKind.max, IntKind.signed, IntKind.bits] at h; omega
theorem wf_u64 {x : Int} (h : (Lit.int .u64 x).wf = true) : 0 ≤ x ∧ x < 18446744073709551616 := by
  simp [Lit.wf, IntKind.min, IntKind.max, IntKind.signed, IntKind.bits] at h; omega
theorem wf_u32 {x : Int} (h : (Lit.int .u32 x).wf = true) : 0 ≤ x ∧ x < 4294967296 := by
  simp [Lit.wf, IntKind.min, IntKind.max, IntKind.signed, IntKind.bits] at h; omega
/-- A raw number picks one of n things. -/
theorem pick_of (c n : Int) (h0 : -9223372036854775808 ≤ c) (h1 : c ≤ 9223372036854775807) (hn : 0 < n) : ∃ p, hatstandlaw5_pick.f c n = some p ∧ 0 ≤ p ∧ p < n := by
  unfold hatstandlaw5_pick.f
  have hn0 : ¬ n = 0 := by omega
  by_cases hc : c < 0
  · rw [if_pos hc, if_neg hn0]
    have e : wrap64 (-(wrap64 (c + 1))) = -(c + 1) := by unfold wrap64; omega
    rw [e]
    exact ⟨_, rfl, Int.tmod_nonneg _ (by omega), Int.tmod_lt_of_pos _ hn⟩
  · rw [if_neg hc, if_neg hn0]
    exact ⟨_, rfl, Int.tmod_nonneg _ (by omega), Int.tmod_lt_of_pos _ hn⟩
/-- A push on a stack of at most so many words: the stack behind it, and the status. -/
def pushM (s : List Int) (m v : Int) : List Int × Int := if (s.length : Int) < m then (s ++ [v], 1) else (s, 2)
/-- A pop: the stack behind it, the word, the status. -/
def popM (s : List Int) : List Int × Int × Int := if s.length = 0 then ([], 0, 2) else (s.take (s.length - 1), rd s ((s.length : Int) - 1), 1)
/-- May a stack answer so? -/
def doM (s : List Int) (m : Int) (p : Bool) (v st : Int) : List Int × Bool :=
  if st = 6 then (s, true) else
  if p = true then (if (pushM s m v).2 = st then ((pushM s m v).1, true) else ([], false)) else
  (if (popM s).2.2 = st then (if (popM s).2.1 = v then ((popM s).1, true) else ([], false)) else ([], false))
theorem put_eq (a b : List Int) (h : a.length + b.length < 17592186044416) : lifo_put_uint64.f a b = some (a ++ b) := by
  unfold lifo_put_uint64.f; rw [if_pos h]
theorem push_eq (s : List Int) (m v : Int) (h : s.length < 5000) : lifo_Push.f s m v = some (pushM s m v) := by
  unfold lifo_Push.f pushM
  rw [put_eq s [] (by simp; omega), put_eq s [v] (by simp; omega)]
  simp only [bs, List.append_nil]
  by_cases g : (s.length : Int) < m
  · rw [if_neg (by omega), if_pos g]
  · rw [if_pos (by omega), if_neg g]
theorem pop_eq (s : List Int) (h : s.length < 5000) : lifo_Pop.f s = some (popM s) := by
  unfold lifo_Pop.f popM
  by_cases g : s.length = 0
  · rw [if_pos (by unfold wrap64; omega), if_pos g]
  · have e : wrap64 ((s.length : Int) - 1) = (s.length : Int) - 1 := by unfold wrap64; omega
    rw [e, if_neg (by omega), if_neg g, if_pos (by omega), if_pos (by omega), put_eq _ _ (by simp; omega)]
    simp only [bs, List.append_nil]
    rw [if_pos (by omega)]
    have e2 : ((s.length : Int) - 1).toNat = s.length - 1 := by omega
    rw [e2]
theorem do_eq (s : List Int) (m : Int) (p : Bool) (v st : Int) (h : s.length < 5000) : lifo_Do.f s m p v st = some (doM s m p v st) := by
  unfold lifo_Do.f doM
  rw [put_eq s [] (by simp; omega), push_eq s m v h, pop_eq s h]
  simp only [bs, List.append_nil]
  by_cases g : st = 6
  · rw [if_pos g, if_pos g, if_pos g.symm]
  · rw [if_neg g, if_neg g]
    cases p
    · simp only [Bool.false_eq_true, if_false]
      split
      · split <;> rfl
      · rfl
    · simp only [if_true]
      split <;> rfl
theorem pushM_len (s : List Int) (m v : Int) : (pushM s m v).1.length ≤ s.length + 1 := by
  unfold pushM; split <;> simp
theorem popM_len (s : List Int) : (popM s).1.length ≤ s.length := by
  unfold popM; split <;> simp
theorem doM_len (s : List Int) (m : Int) (p : Bool) (v st : Int) : (doM s m p v st).1.length ≤ s.length + 1 := by
  unfold doM
  have h1 := pushM_len s m v
  have h2 := popM_len s
  split
  · simp
  · split
    · split
      · exact h1
      · simp
    · split
      · split
        · exact Nat.le_trans h2 (by omega)
        · simp
      · simp
/-- All answers, one behind the other: the last stack, and how many there are. -/
def runM (m : Int) : List Int → List S30 → List Int × Int
  | s, [] => (s, 0)
  | s, o :: l => if (doM s m o.f0 o.f1 o.f2).2 = true then ((runM m (doM s m o.f0 o.f1 o.f2).1 l).1, (runM m (doM s m o.f0 o.f1 o.f2).1 l).2 + 1) else (s, 0)
theorem rdT_eq (l : List S30) (i : Nat) (h : i < l.length) : rd_T30 l (i : Int) = l[i] := by
  unfold rd_T30
  simp [List.getD_eq_getElem?_getD, List.getElem?_eq_getElem h]
theorem runM_bounds (m : Int) (l : List S30) : ∀ s, 0 ≤ (runM m s l).2 ∧ (runM m s l).2 ≤ l.length ∧ ((runM m s l).1.length : Int) ≤ s.length + (runM m s l).2 := by
  induction l with
  | nil => intro s; simp [runM]
  | cons o l ih =>
    intro s
    unfold runM
    split
    · have h := ih (doM s m o.f0 o.f1 o.f2).1
      have h2 := doM_len s m o.f0 o.f1 o.f2
      simp only [List.length_cons]
      omega
    · simp only [List.length_cons]; omega
theorem run_loop (m : Int) (l2 l : List S30) (hl : l2.length = l.length) (hb : l.length ≤ 1000) (d : Nat) : ∀ (k : Nat) (cur : List Int) (i : Nat), i ≤ l.length → l.length - i = d → d < k → cur.length + d < 4000 →
    lifo_Run.l0 k m l2 cur l (l.length : Int) (i : Int) = some ((runM m cur (l.drop i)).1, (i : Int) + (runM m cur (l.drop i)).2) := by
  induction d with
  | zero =>
    intro k cur i hi hd hk hc
    obtain ⟨k, rfl⟩ : ∃ q, k = q + 1 := ⟨k - 1, by omega⟩
    simp only [lifo_Run.l0]
    rw [if_neg (by omega), List.drop_of_length_le (by omega)]
    simp only [runM]
    rw [hl]
    congr 2
    omega
  | succ d ih =>
    intro k cur i hi hd hk hc
    obtain ⟨k, rfl⟩ : ∃ q, k = q + 1 := ⟨k - 1, by omega⟩
    have hlt : i < l.length := by omega
    simp only [lifo_Run.l0]
    rw [if_pos (by omega), if_pos (by omega), if_pos (by omega), rdT_eq l i hlt, do_eq _ _ _ _ _ (by omega)]
    simp only [bs]
    rw [List.drop_eq_getElem_cons hlt]
    unfold runM
    have h2 := doM_len cur m l[i].f0 l[i].f1 l[i].f2
    split
    · rw [w_nat (by omega), ih k _ (i + 1) (by omega) (by omega) (by omega) (by omega)]
      congr 2
      omega
    · simp
theorem run_eq (s : List Int) (m : Int) (l : List S30) (k : Nat) (hb : l.length ≤ 1000) (hs : s.length ≤ 1000) (hk : l.length < k) : lifo_Run.f k s m l = some (runM m s l) := by
  unfold lifo_Run.f
  rw [put_eq s [] (by simp; omega)]
  simp only [bs, List.append_nil]
  have h := run_loop m l l rfl hb l.length k s 0 (by omega) (by omega) hk (by omega)
  simp only [List.drop_zero] at h
  rw [show ((0 : Nat) : Int) = 0 from rfl] at h
  rw [h]
  congr 1
  ext1 <;> simp
theorem lifo_shown (k : Nat) (hk : 4 < k) : hatstandlaw5_shown.f k = some true := by
  unfold hatstandlaw5_shown.f
  rw [run_eq [] 1 _ k (by simp) (by simp) (by simpa using hk)]
  simp only [bs]
  decide
theorem same_loop (a b : List Int) (h : a = b) (hb : a.length ≤ 4000) (d : Nat) : ∀ (k : Nat) (i : Int), 0 ≤ i → (a.length : Int) - i = d → d < k → hatstandref5_Same.l0 k a b i = some true := by
  subst h
  induction d with
  | zero =>
    intro k i h0 hd hk
    obtain ⟨k, rfl⟩ : ∃ q, k = q + 1 := ⟨k - 1, by omega⟩
    simp only [hatstandref5_Same.l0]
    rw [if_neg (by omega)]
  | succ d ih =>
    intro k i h0 hd hk
    obtain ⟨k, rfl⟩ : ∃ q, k = q + 1 := ⟨k - 1, by omega⟩
    simp only [hatstandref5_Same.l0]
    have e : wrap64 (i + 1) = i + 1 := by unfold wrap64; omega
    rw [if_pos (by omega), if_pos h0, if_pos (by omega), if_true, e, ih k (i + 1) (by omega) (by omega) (by omega)]
theorem same_yes (a b : List Int) (k : Nat) (h : a = b) (hb : a.length ≤ 4000) (hk : a.length < k) : hatstandref5_Same.f k a b = some true := by
  unfold hatstandref5_Same.f
  rw [if_pos (by rw [h]), same_loop a b h hb a.length k 0 (by omega) (by omega) hk]
attribute [irreducible] pushM popM doM runM
theorem doM_count {s : List Int} {m : Int} {p : Bool} {v st : Int} (h : (doM s m p v st).2 = true) (hm : (s.length : Int) ≤ m) :
    (((doM s m p v st).1.length : Int) = s.length + (if st = 1 then (if p = true then 1 else -1) else 0)) ∧ ((doM s m p v st).1.length : Int) ≤ m := by
  rw [doM] at h ⊢
  by_cases h6 : st = 6
  · rw [if_pos h6] at h ⊢
    rw [if_neg (by omega)]
    exact ⟨by simp, hm⟩
  · rw [if_neg h6] at h ⊢
    cases p
    · rw [if_neg (by simp)] at h ⊢
      rw [popM] at h ⊢
      by_cases h0 : s.length = 0
      · rw [if_pos h0] at h ⊢
        by_cases h2 : (2 : Int) = st
        · simp only [if_pos h2] at h ⊢
          by_cases h3 : (0 : Int) = v
          · rw [if_pos h3] at h ⊢
            rw [if_neg (by omega)]
            simp; omega
          · rw [if_neg h3] at h; simp at h
        · simp only [if_neg h2] at h; simp at h
      · rw [if_neg h0] at h ⊢
        by_cases h2 : (1 : Int) = st
        · simp only [if_pos h2] at h ⊢
          by_cases h3 : rd s ((s.length : Int) - 1) = v
          · rw [if_pos h3] at h ⊢
            rw [if_pos h2.symm]
            simp; omega
          · rw [if_neg h3] at h; simp at h
        · simp only [if_neg h2] at h; simp at h
    · rw [if_pos rfl] at h ⊢
      rw [pushM] at h ⊢
      by_cases h0 : (s.length : Int) < m
      · rw [if_pos h0] at h ⊢
        by_cases h2 : (1 : Int) = st
        · simp only [if_pos h2]
          rw [if_pos h2.symm]
          simp; omega
        · simp only [if_neg h2] at h; simp at h
      · rw [if_neg h0] at h ⊢
        by_cases h2 : (2 : Int) = st
        · simp only [if_pos h2]
          rw [if_neg (by omega)]
          simp; omega
        · simp only [if_neg h2] at h; simp at h
theorem counts_loop (m : Int) (l : List S30) (fin : List Int) (n : Nat) (hm1 : m ≤ 10) (hl : l.length ≤ 200) (hn : n ≤ l.length) (d : Nat) : ∀ (k i : Nat) (u : List Int), i ≤ n → n - i = d → 4 * d + 10 < k → (u.length : Int) ≤ m →
    runM m u (l.drop i) = (fin, (n : Int) - i) → hatstandlaw5_LifoCounts.l0 k l m fin (n : Int) (u.length : Int) (i : Int) = some true := by
  induction d with
  | zero =>
    intro k i u hi hd hk hu hr
    obtain ⟨k, rfl⟩ : ∃ q, k = q + 1 := ⟨k - 1, by omega⟩
    simp only [hatstandlaw5_LifoCounts.l0]
    rw [if_neg (by omega)]
    have e : fin = u := by
      by_cases h : i < l.length
      · rw [List.drop_eq_getElem_cons h, runM] at hr
        split at hr
        · have hb := runM_bounds m (l.drop (i + 1)) (doM u m l[i].f0 l[i].f1 l[i].f2).1
          simp only [Prod.mk.injEq] at hr
          omega
        · simp only [Prod.mk.injEq] at hr; exact hr.1.symm
      · rw [List.drop_of_length_le (by omega), runM] at hr
        simp only [Prod.mk.injEq] at hr; exact hr.1.symm
    rw [e]
    simp
  | succ d ih =>
    intro k i u hi hd hk hu hr
    obtain ⟨k, rfl⟩ : ∃ q, k = q + 4 := ⟨k - 4, by omega⟩
    have hlt : i < l.length := by omega
    rw [List.drop_eq_getElem_cons hlt, runM] at hr
    by_cases hd2 : (doM u m l[i].f0 l[i].f1 l[i].f2).2 = true
    · rw [if_pos hd2] at hr
      have hc := doM_count hd2 hu
      have hr2 : runM m (doM u m l[i].f0 l[i].f1 l[i].f2).1 (l.drop (i + 1)) = (fin, (n : Int) - ((i + 1 : Nat) : Int)) := by
        simp only [Prod.mk.injEq] at hr
        ext1
        · exact hr.1
        · have := hr.2; simp only; omega
      have hI := ih k (i + 1) (doM u m l[i].f0 l[i].f1 l[i].f2).1 (by omega) (by omega) (by omega) hc.2 hr2
      generalize hw : (doM u m l[i].f0 l[i].f1 l[i].f2).1 = w at *
      simp only [hatstandlaw5_LifoCounts.l0]
      rw [if_pos (by omega), if_pos (by omega), if_pos (by omega), rdT_eq l i hlt]
      by_cases h1 : l[i].f2 = 1
      · rw [if_pos h1]
        cases hp : l[i].f0
        · rw [hp, if_pos h1] at hc
          simp only [Bool.false_eq_true, if_false] at hc
          simp only [hatstandlaw5_LifoCounts.j3, Bool.false_eq_true, if_false, hatstandlaw5_LifoCounts.j4]
          rw [if_pos (by omega), if_pos (by omega), rdT_eq l i hlt, if_pos h1, hp]
          simp only [Bool.not_false, hatstandlaw5_LifoCounts.j5, if_true]
          rw [w_id (i := (u.length : Int) - 1) (by omega) (by omega), if_neg (by omega), if_neg (by omega), w_nat (by omega), show (u.length : Int) - 1 = (w.length : Int) by omega]
          exact hI
        · rw [hp, if_pos h1] at hc
          simp only [if_true] at hc
          simp only [hatstandlaw5_LifoCounts.j3, if_true, hatstandlaw5_LifoCounts.j4]
          rw [if_pos (by omega), if_pos (by omega), rdT_eq l i hlt, if_pos h1, hp]
          simp only [Bool.not_true, hatstandlaw5_LifoCounts.j5, Bool.false_eq_true, if_false]
          rw [w_id (i := (u.length : Int) + 1) (by omega) (by omega), if_neg (by omega), if_neg (by omega), w_nat (by omega), show (u.length : Int) + 1 = (w.length : Int) by omega]
          exact hI
      · rw [if_neg h1]
        rw [if_neg h1] at hc
        simp only [hatstandlaw5_LifoCounts.j3, Bool.false_eq_true, if_false, hatstandlaw5_LifoCounts.j4]
        rw [if_pos (by omega), if_pos (by omega), rdT_eq l i hlt, if_neg h1]
        simp only [hatstandlaw5_LifoCounts.j5, Bool.false_eq_true, if_false]
        rw [if_neg (by omega), if_neg (by omega), w_nat (by omega), show (u.length : Int) = (w.length : Int) by omega]
        exact hI
    · rw [if_neg hd2] at hr
      simp only [Prod.mk.injEq] at hr
      omega
theorem LifoCounts : hatstandlaw5_LifoCounts.Pure := by
  intro a l wa _ _ _
  have ba := wf_i64 wa
  obtain ⟨K, hK⟩ : ∃ K : Nat, 3000 < K := ⟨3001, by omega⟩
  refine ⟨K + 3, ?_⟩
  unfold hatstandlaw5_LifoCounts.f
  rw [lifo_shown (K + 3) (by omega)]
  simp only [bs, if_true, hatstandlaw5_LifoCounts.j0]
  by_cases h2 : (l.length : Int) > 200
  · rw [if_pos (by simp [h2])]
  · obtain ⟨m, hm, hm0, hm1⟩ := pick_of a 10 ba.1 ba.2 (by omega)
    rw [if_neg (by simp [h2]), hm]
    simp only [bs]
    rw [run_eq [] m l (K + 2) (by omega) (by simp) (by omega)]
    simp only [bs]
    have hb := runM_bounds m l []
    generalize hr : runM m [] l = r at *
    obtain ⟨n, hn⟩ := Int.eq_ofNat_of_zero_le hb.1
    rw [hn] at hb
    rw [if_neg (by omega), decide_eq_false (by omega)]
    simp only [hatstandlaw5_LifoCounts.j1, Bool.false_eq_true, if_false]
    rw [hn]
    have := counts_loop m l r.1 n (by omega) (by omega) (by omega) n (K + 1) 0 [] (by omega) (by omega) (by omega) (by simpa using hm0) (by
      rw [List.drop_zero, hr]
      ext1
      · rfl
      · simp [hn])
    simpa using this
end Go.Proofs.Ytoafkejmdlcnpaa.Pure
