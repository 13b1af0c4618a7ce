/- LifoSpoils: an answer with another word, or another status, than what a stack tells may not be answered; Retry may: for every input. -/
import Derived.Test.YtoafkejmdlcnpaaPx8
import Derived.Laws.Bits64
set_option linter.unusedVariables false
set_option linter.unusedSimpArgs false
namespace Go.Proofs.Ytoafkejmdlcnpaa.Pure
open Go.RowKit Go.Proofs.Ytoafkejmdlcnpaa.P Go.Proofs.YtoafkejmdlcnpaaW.PrintWords Go.Proofs.YtoafkejmdlcnpaaW.PrintLast
/-- 'Option.bind_some', but no law by definition: so Lean's kernel need not compare what the two sides unfold to. -/
theorem bs {α β : Type} (x : α) (f : α → Option β) : (some x).bind f = f x := by rw [Option.bind_some]
theorem beq_no {a b : Int} (h : ¬ a = b) : (a == b) = false := beq_eq_false_iff_ne.2 h
theorem w_id {i : Int} (h0 : -9223372036854775808 ≤ i) (h1 : i ≤ 9223372036854775807) : wrap64 i = i := by unfold wrap64; omega
theorem w_nat {i : Nat} (h : i < 1000000000) : wrap64 ((i : Int) + 1) = ((i + 1 : Nat) : Int) := by unfold wrap64; omega
theorem wf_i64 {x : Int} (h : (Lit.int .i64 x).wf = true) : -9223372036854775808 ≤ x ∧ x ≤ 9223372036854775807 := by
  simp [Lit.wf, IntKind.min, IntKind.max, IntKind.signed, IntKind.bits] at h; omega
theorem wf_u64 {x : Int} (h : (Lit.int .u64 x).wf = true) : 0 ≤ x ∧ x < 18446744073709551616 := by
  simp [Lit.wf, IntKind.min, IntKind.max, IntKind.signed, IntKind.bits] at h; omega
theorem wf_u32 {x : Int} (h : (Lit.int .u32 x).wf = true) : 0 ≤ x ∧ x < 4294967296 := by
  simp [Lit.wf, IntKind.min, IntKind.max, IntKind.signed, IntKind.bits] at h; omega
/-- A push on a stack of at most so many words: the stack behind it, and the status. -/
def pushM (s : List Int) (m v : Int) : List Int × Int := if (s.length : Int) < m then (s ++ [v], 1) else (s, 2)
/-- A pop: the stack behind it, the word, the status. -/
def popM (s : List Int) : List Int × Int × Int := if s.length = 0 then ([], 0, 2) else (s.take (s.length - 1), rd s ((s.length : Int) - 1), 1)
/-- May a stack answer so? -/
def doM (s : List Int) (m : Int) (p : Bool) (v st : Int) : List Int × Bool :=
  if st = 6 then (s, true) else
  if p = true then (if (pushM s m v).2 = st then ((pushM s m v).1, true) else ([], false)) else
  (if (popM s).2.2 = st then (if (popM s).2.1 = v then ((popM s).1, true) else ([], false)) else ([], false))
theorem put_eq (a b : List Int) (h : a.length + b.length < 17592186044416) : lifo_put_uint64.f a b = some (a ++ b) := by
  unfold lifo_put_uint64.f; rw [if_pos h]
theorem push_eq (s : List Int) (m v : Int) (h : s.length < 5000) : lifo_Push.f s m v = some (pushM s m v) := by
  unfold lifo_Push.f pushM
  rw [put_eq s [] (by simp; omega), put_eq s [v] (by simp; omega)]
  simp only [bs, List.append_nil]
  by_cases g : (s.length : Int) < m
  · rw [if_neg (by omega), if_pos g]
  · rw [if_pos (by omega), if_neg g]
theorem pop_eq (s : List Int) (h : s.length < 5000) : lifo_Pop.f s = some (popM s) := by
  unfold lifo_Pop.f popM
  by_cases g : s.length = 0
  · rw [if_pos (by unfold wrap64; omega), if_pos g]
  · have e : wrap64 ((s.length : Int) - 1) = (s.length : Int) - 1 := by unfold wrap64; omega
    rw [e, if_neg (by omega), if_neg g, if_pos (by omega), if_pos (by omega), put_eq _ _ (by simp; omega)]
    simp only [bs, List.append_nil]
    rw [if_pos (by omega)]
    have e2 : ((s.length : Int) - 1).toNat = s.length - 1 := by omega
    rw [e2]
theorem do_eq (s : List Int) (m : Int) (p : Bool) (v st : Int) (h : s.length < 5000) : lifo_Do.f s m p v st = some (doM s m p v st) := by
  unfold lifo_Do.f doM
  rw [put_eq s [] (by simp; omega), push_eq s m v h, pop_eq s h]
  simp only [bs, List.append_nil]
  by_cases g : st = 6
  · rw [if_pos g, if_pos g, if_pos g.symm]
  · rw [if_neg g, if_neg g]
    cases p
    · simp only [Bool.false_eq_true, if_false]
      split
      · split <;> rfl
      · rfl
    · simp only [if_true]
      split <;> rfl
theorem pushM_len (s : List Int) (m v : Int) : (pushM s m v).1.length ≤ s.length + 1 := by
  unfold pushM; split <;> simp
theorem popM_len (s : List Int) : (popM s).1.length ≤ s.length := by
  unfold popM; split <;> simp
theorem doM_len (s : List Int) (m : Int) (p : Bool) (v st : Int) : (doM s m p v st).1.length ≤ s.length + 1 := by
  unfold doM
  have h1 := pushM_len s m v
  have h2 := popM_len s
  split
  · simp
  · split
    · split
      · exact h1
      · simp
    · split
      · split
        · exact Nat.le_trans h2 (by omega)
        · simp
      · simp
/-- All answers, one behind the other: the last stack, and how many there are. -/
def runM (m : Int) : List Int → List S30 → List Int × Int
  | s, [] => (s, 0)
  | s, o :: l => if (doM s m o.f0 o.f1 o.f2).2 = true then ((runM m (doM s m o.f0 o.f1 o.f2).1 l).1, (runM m (doM s m o.f0 o.f1 o.f2).1 l).2 + 1) else (s, 0)
theorem rdT_eq (l : List S30) (i : Nat) (h : i < l.length) : rd_T30 l (i : Int) = l[i] := by
  unfold rd_T30
  simp [List.getD_eq_getElem?_getD, List.getElem?_eq_getElem h]
theorem runM_bounds (m : Int) (l : List S30) : ∀ s, 0 ≤ (runM m s l).2 ∧ (runM m s l).2 ≤ l.length ∧ ((runM m s l).1.length : Int) ≤ s.length + (runM m s l).2 := by
  induction l with
  | nil => intro s; simp [runM]
  | cons o l ih =>
    intro s
    unfold runM
    split
    · have h := ih (doM s m o.f0 o.f1 o.f2).1
      have h2 := doM_len s m o.f0 o.f1 o.f2
      simp only [List.length_cons]
      omega
    · simp only [List.length_cons]; omega
theorem run_loop (m : Int) (l2 l : List S30) (hl : l2.length = l.length) (hb : l.length ≤ 1000) (d : Nat) : ∀ (k : Nat) (cur : List Int) (i : Nat), i ≤ l.length → l.length - i = d → d < k → cur.length + d < 4000 →
    lifo_Run.l0 k m l2 cur l (l.length : Int) (i : Int) = some ((runM m cur (l.drop i)).1, (i : Int) + (runM m cur (l.drop i)).2) := by
  induction d with
  | zero =>
    intro k cur i hi hd hk hc
    obtain ⟨k, rfl⟩ : ∃ q, k = q + 1 := ⟨k - 1, by omega⟩
    simp only [lifo_Run.l0]
    rw [if_neg (by omega), List.drop_of_length_le (by omega)]
    simp only [runM]
    rw [hl]
    congr 2
    omega
  | succ d ih =>
    intro k cur i hi hd hk hc
    obtain ⟨k, rfl⟩ : ∃ q, k = q + 1 := ⟨k - 1, by omega⟩
    have hlt : i < l.length := by omega
    simp only [lifo_Run.l0]
    rw [if_pos (by omega), if_pos (by omega), if_pos (by omega), rdT_eq l i hlt, do_eq _ _ _ _ _ (by omega)]
    simp only [bs]
    rw [List.drop_eq_getElem_cons hlt]
    unfold runM
    have h2 := doM_len cur m l[i].f0 l[i].f1 l[i].f2
    split
    · rw [w_nat (by omega), ih k _ (i + 1) (by omega) (by omega) (by omega) (by omega)]
      congr 2
      omega
    · simp
theorem run_eq (s : List Int) (m : Int) (l : List S30) (k : Nat) (hb : l.length ≤ 1000) (hs : s.length ≤ 1000) (hk : l.length < k) : lifo_Run.f k s m l = some (runM m s l) := by
  unfold lifo_Run.f
  rw [put_eq s [] (by simp; omega)]
  simp only [bs, List.append_nil]
  have h := run_loop m l l rfl hb l.length k s 0 (by omega) (by omega) hk (by omega)
  simp only [List.drop_zero] at h
  rw [show ((0 : Nat) : Int) = 0 from rfl] at h
  rw [h]
  congr 1
  ext1 <;> simp
theorem lifo_shown (k : Nat) (hk : 4 < k) : hatstandlaw5_shown.f k = some true := by
  unfold hatstandlaw5_shown.f
  rw [run_eq [] 1 _ k (by simp) (by simp) (by simpa using hk)]
  simp only [bs]
  decide
theorem same_loop (a b : List Int) (h : a = b) (hb : a.length ≤ 4000) (d : Nat) : ∀ (k : Nat) (i : Int), 0 ≤ i → (a.length : Int) - i = d → d < k → hatstandref5_Same.l0 k a b i = some true := by
  subst h
  induction d with
  | zero =>
    intro k i h0 hd hk
    obtain ⟨k, rfl⟩ : ∃ q, k = q + 1 := ⟨k - 1, by omega⟩
    simp only [hatstandref5_Same.l0]
    rw [if_neg (by omega)]
  | succ d ih =>
    intro k i h0 hd hk
    obtain ⟨k, rfl⟩ : ∃ q, k = q + 1 := ⟨k - 1, by omega⟩
    simp only [hatstandref5_Same.l0]
    have e : wrap64 (i + 1) = i + 1 := by unfold wrap64; omega
    rw [if_pos (by omega), if_pos h0, if_pos (by omega), if_true, e, ih k (i + 1) (by omega) (by omega) (by omega)]
theorem same_yes (a b : List Int) (k : Nat) (h : a = b) (hb : a.length ≤ 4000) (hk : a.length < k) : hatstandref5_Same.f k a b = some true := by
  unfold hatstandref5_Same.f
  rw [if_pos (by rw [h]), same_loop a b h hb a.length k 0 (by omega) (by omega) hk]
attribute [irreducible] pushM popM doM runM
theorem pushM_st (s : List Int) (m v : Int) : (pushM s m v).2 = 1 ∨ (pushM s m v).2 = 2 := by
  unfold pushM; split <;> simp
theorem popM_st (s : List Int) : (popM s).2.2 = 1 ∨ (popM s).2.2 = 2 := by
  unfold popM; split <;> simp
theorem popM_v (s : List Int) (hw : ∀ x ∈ s, (Lit.int .u64 x).wf = true) : 0 ≤ (popM s).2.1 ∧ (popM s).2.1 < 18446744073709551616 := by
  unfold popM
  split
  · simp
  · rename_i h
    have : rd s ((s.length : Int) - 1) ∈ s := by
      unfold rd
      rw [List.getD_eq_getElem?_getD, List.getElem?_eq_getElem (show ((s.length : Int) - 1).toNat < s.length by omega), Option.getD_some]
      exact List.getElem_mem _
    exact wf_u64 (hw _ this)
theorem LifoSpoils : hatstandlaw5_LifoSpoils.Pure := by
  intro s m p v b _ _ hw _ wv wb
  have bv := wf_u64 wv
  have bb := wf_u64 wb
  obtain ⟨K, hK⟩ : ∃ K : Nat, 3000 < K := ⟨3001, by omega⟩
  refine ⟨K + 2, ?_⟩
  unfold hatstandlaw5_LifoSpoils.f
  rw [lifo_shown (K + 2) (by omega)]
  simp only [bs, if_true, hatstandlaw5_LifoSpoils.j0]
  by_cases h1 : (s.length : Int) > 200
  · rw [if_pos (by simp [h1])]
  · rw [if_neg (by simp [h1]), push_eq s m v (by omega)]
    simp only [bs]
    have hst := pushM_st s m v
    have hpt := popM_st s
    have hpv := popM_v s hw
    have hsame : hatstandref5_Same.f K s s = some true := same_yes s s K rfl (by omega) (by omega)
    have d6 : ∀ p v, doM s m p v 6 = (s, true) := by intro p v; rw [doM, if_pos rfl]
    cases p
    · rw [if_neg (by simp), pop_eq s (by omega)]
      simp only [bs, hatstandlaw5_LifoSpoils.j1]
      generalize hq : popM s = q at *
      rw [do_eq _ _ _ _ _ (by omega), do_eq _ _ _ _ _ (by omega), do_eq _ _ _ _ _ (by omega), do_eq _ _ _ _ _ (by omega), d6]
      simp only [bs]
      have e1 : doM s m false q.2.1 q.2.2 = (q.1, true) := by
        rw [doM, if_neg (by omega), if_neg (by simp), hq, if_pos rfl, if_pos rfl]
      have e2 : doM s m false q.2.1 (wrap64 (3 - q.2.2)) = ([], false) := by
        rw [w_id (by omega) (by omega), doM, if_neg (by omega), if_neg (by simp), hq, if_neg (by omega)]
      have e3 : (doM s m false (IntKind.u64.wrap (q.2.1 + b)) q.2.2).2 = decide (b = 0) := by
        rw [doM, if_neg (by omega), if_neg (by simp), hq, if_pos rfl, IntKind.wrap_u64]
        by_cases h : b = 0
        · rw [if_pos (by omega), decide_eq_true h]
        · rw [if_neg (by omega), decide_eq_false h]
      rw [e1, e2, e3]
      simp only [if_true, Bool.false_eq_true, if_false, decide_eq_true_eq]
      by_cases h : b = 0
      · rw [if_pos h, if_pos h, hsame]; rfl
      · rw [if_neg h, if_neg h, hsame]; rfl
    · rw [if_pos rfl]
      simp only [hatstandlaw5_LifoSpoils.j1]
      have hpp : ∀ v', (pushM s m v').2 = (pushM s m v).2 := by intro v'; unfold pushM; split <;> rfl
      generalize hq : (pushM s m v).2 = st at *
      rw [do_eq _ _ _ _ _ (by omega), do_eq _ _ _ _ _ (by omega), do_eq _ _ _ _ _ (by omega), do_eq _ _ _ _ _ (by omega), d6]
      simp only [bs]
      have e1 : ∀ v', (doM s m true v' st).2 = true := by
        intro v'
        rw [doM, if_neg (by omega), if_pos rfl, hpp v', if_pos rfl]
      have e2 : (doM s m true v (wrap64 (3 - st))).2 = false := by
        rw [w_id (by omega) (by omega), doM, if_neg (by omega), if_pos rfl, hq, if_neg (by omega)]
      rw [e1, e2, e1]
      simp only [if_true, Bool.false_eq_true, if_false, hsame, bs]
end Go.Proofs.Ytoafkejmdlcnpaa.Pure
