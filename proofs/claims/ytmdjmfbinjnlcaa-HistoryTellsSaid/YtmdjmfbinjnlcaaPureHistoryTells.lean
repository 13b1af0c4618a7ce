/- HistoryTells: which of any events is not right, and the calls of those that are, are as the reference says: for every input. -/
import Derived.Test.YtmdjmfbinjnlcaaPx11
import Derived.Laws.Bits64
set_option linter.unusedVariables false
set_option linter.unusedSimpArgs false
namespace Go.Proofs.Ytmdjmfbinjnlcaa.Pure
open Go.RowKit Go.Proofs.Ytmdjmfbinjnlcaa.P Go.Proofs.YtmdjmfbinjnlcaaW.PrintWords Go.Proofs.YtmdjmfbinjnlcaaW.PrintLast
/-! ## What calls tells, said of places alone -/
def ev (L : List S47) (m : Nat) : S47 := L.getD m z47
theorem rd_ev (L : List S47) (m : Nat) : rd_T47 L (m : Int) = ev L m := by
  unfold rd_T47 ev
  rw [Int.toNat_natCast]
/-- The place of the last event of thread T ahead of place i. -/
def lastB (L : List S47) (T : Int) : Nat → Option Nat
  | 0 => none
  | i + 1 => if (ev L i).f0 = T then some i else lastB L T i
/-- The first one's, from place i on, of d places. -/
def nextF (L : List S47) (T : Int) : Nat → Nat → Option Nat
  | _, 0 => none
  | i, d + 1 => if (ev L i).f0 = T then some i else nextF L T (i + 1) d
def nextB (L : List S47) (q m : Nat) : Option Nat := nextF L (ev L q).f0 (q + 1) (m - (q + 1))
def callAt (L : List S47) (m q : Nat) : S45 :=
  match nextB L q m with
  | none => ⟨(ev L q).f0, (ev L q).f2, (ev L q).f3, 0, (q : Int), -1⟩
  | some j => ⟨(ev L q).f0, (ev L q).f2, if (ev L q).f2 = true then (ev L q).f3 else (ev L j).f3, (ev L j).f4, (q : Int), (j : Int)⟩
def questB (L : List S47) : Nat → List Nat
  | 0 => []
  | m + 1 => if (ev L m).f1 = true then questB L m else questB L m ++ [m]
def outB (L : List S47) (m : Nat) : List S45 := (questB L m).map (callAt L m)
def cnt (L : List S47) (m : Nat) : Nat := (questB L m).length
/-- The question that thread T has open at place m. -/
def opens (L : List S47) (T : Int) (m : Nat) : Option Nat := (lastB L T m).bind fun q => if (ev L q).f1 = true then none else some q
def wrongB (L : List S47) (i : Nat) : Int :=
  if (ev L i).f0 < 0 then 4 else if 8 ≤ (ev L i).f0 then 4 else
  match opens L (ev L i).f0 i with
  | none => if (ev L i).f1 = true then 6 else if ¬ (ev L i).f4 = 0 then 3 else if (ev L i).f2 = false ∧ ¬ (ev L i).f3 = 0 then 3 else 0
  | some q => if (ev L i).f1 = true then (if ¬ (ev L i).f2 = (ev L q).f2 then 3 else if ¬ ((ev L i).f4 = 1 ∨ (ev L i).f4 = 2 ∨ (ev L i).f4 = 6 ∨ (ev L i).f4 = 7) then 3 else if ¬ (ev L i).f3 = 0 ∧ ((ev L i).f2 = true ∨ ¬ (ev L i).f4 = 1) then 3 else 0) else 5
theorem lastB_some {L : List S47} {T : Int} {m q : Nat} (h : lastB L T m = some q) : q < m ∧ (ev L q).f0 = T ∧ ∀ j, q < j → j < m → (ev L j).f0 ≠ T := by
  induction m with
  | zero => simp [lastB] at h
  | succ m ih =>
    unfold lastB at h
    by_cases c : (ev L m).f0 = T
    · rw [if_pos c] at h
      obtain rfl := Option.some.inj h
      exact ⟨by omega, c, fun j h1 h2 => by omega⟩
    · rw [if_neg c] at h
      obtain ⟨h1, h2, h3⟩ := ih h
      exact ⟨by omega, h2, fun j j1 j2 => by
        by_cases e : j = m
        · rw [e]; exact c
        · exact h3 j j1 (by omega)⟩
theorem lastB_of {L : List S47} {T : Int} {m q : Nat} (h1 : q < m) (h2 : (ev L q).f0 = T) (h3 : ∀ j, q < j → j < m → (ev L j).f0 ≠ T) : lastB L T m = some q := by
  induction m with
  | zero => omega
  | succ m ih =>
    unfold lastB
    by_cases e : q = m
    · subst e; rw [if_pos h2]
    · rw [if_neg (h3 m (by omega) (by omega))]
      exact ih (by omega) (fun j j1 j2 => h3 j j1 (by omega))
theorem lastB_none {L : List S47} {T : Int} {m : Nat} (h : lastB L T m = none) : ∀ j, j < m → (ev L j).f0 ≠ T := by
  induction m with
  | zero => intro j hj; omega
  | succ m ih =>
    unfold lastB at h
    by_cases c : (ev L m).f0 = T
    · rw [if_pos c] at h; cases h
    · rw [if_neg c] at h
      intro j hj
      by_cases e : j = m
      · rw [e]; exact c
      · exact ih h j (by omega)
theorem nextF_none {L : List S47} {T : Int} {d : Nat} : ∀ {i : Nat}, nextF L T i d = none → ∀ j, i ≤ j → j < i + d → (ev L j).f0 ≠ T := by
  induction d with
  | zero => intro i h j; omega
  | succ d ih =>
    intro i h j h1 h2
    unfold nextF at h
    by_cases c : (ev L i).f0 = T
    · rw [if_pos c] at h; cases h
    · rw [if_neg c] at h
      by_cases e : j = i
      · rw [e]; exact c
      · exact ih h j (by omega) (by omega)
theorem nextF_of_none {L : List S47} {T : Int} {d : Nat} : ∀ {i : Nat}, (∀ j, i ≤ j → j < i + d → (ev L j).f0 ≠ T) → nextF L T i d = none := by
  induction d with
  | zero => intro i h; rfl
  | succ d ih =>
    intro i h
    unfold nextF
    rw [if_neg (h i (by omega) (by omega))]
    exact ih (fun j h1 h2 => h j (by omega) (by omega))
theorem nextF_some {L : List S47} {T : Int} {d : Nat} : ∀ {i j : Nat}, nextF L T i d = some j → i ≤ j ∧ j < i + d ∧ (ev L j).f0 = T ∧ ∀ k, i ≤ k → k < j → (ev L k).f0 ≠ T := by
  induction d with
  | zero => intro i j h; simp [nextF] at h
  | succ d ih =>
    intro i j h
    unfold nextF at h
    by_cases c : (ev L i).f0 = T
    · rw [if_pos c] at h
      obtain rfl := Option.some.inj h
      exact ⟨by omega, by omega, c, fun k h1 h2 => by omega⟩
    · rw [if_neg c] at h
      obtain ⟨h1, h2, h3, h4⟩ := ih h
      exact ⟨by omega, by omega, h3, fun k k1 k2 => by
        by_cases e : k = i
        · rw [e]; exact c
        · exact h4 k (by omega) k2⟩
theorem nextF_of {L : List S47} {T : Int} {d : Nat} : ∀ {i j : Nat}, i ≤ j → j < i + d → (ev L j).f0 = T → (∀ k, i ≤ k → k < j → (ev L k).f0 ≠ T) → nextF L T i d = some j := by
  induction d with
  | zero => intro i j h1 h2; omega
  | succ d ih =>
    intro i j h1 h2 h3 h4
    unfold nextF
    by_cases e : j = i
    · subst e; rw [if_pos h3]
    · rw [if_neg (h4 i (by omega) (by omega))]
      exact ih (by omega) (by omega) h3 (fun k k1 k2 => h4 k (by omega) k2)
theorem nextB_some {L : List S47} {q m j : Nat} (h : nextB L q m = some j) : q < j ∧ j < m ∧ (ev L j).f0 = (ev L q).f0 ∧ ∀ k, q < k → k < j → (ev L k).f0 ≠ (ev L q).f0 := by
  obtain ⟨h1, h2, h3, h4⟩ := nextF_some h
  exact ⟨by omega, by omega, h3, fun k k1 k2 => h4 k (by omega) k2⟩
theorem nextB_of {L : List S47} {q m j : Nat} (h1 : q < j) (h2 : j < m) (h3 : (ev L j).f0 = (ev L q).f0) (h4 : ∀ k, q < k → k < j → (ev L k).f0 ≠ (ev L q).f0) : nextB L q m = some j :=
  nextF_of (by omega) (by omega) h3 (fun k k1 k2 => h4 k (by omega) k2)
theorem nextB_none {L : List S47} {q m : Nat} (h : nextB L q m = none) : ∀ k, q < k → k < m → (ev L k).f0 ≠ (ev L q).f0 :=
  fun k k1 k2 => nextF_none h k (by omega) (by omega)
theorem nextB_of_none {L : List S47} {q m : Nat} (h : ∀ k, q < k → k < m → (ev L k).f0 ≠ (ev L q).f0) : nextB L q m = none :=
  nextF_of_none (fun k k1 k2 => h k (by omega) (by omega))
/-- One more event: what a call's answer is. -/
theorem nextB_succ (L : List S47) {q m : Nat} (hq : q < m) : nextB L q (m + 1) = (nextB L q m).or (if (ev L m).f0 = (ev L q).f0 then some m else none) := by
  cases h : nextB L q m with
  | some j =>
    obtain ⟨h1, h2, h3, h4⟩ := nextB_some h
    rw [Option.some_or]
    exact nextB_of h1 (by omega) h3 h4
  | none =>
    have hn := nextB_none h
    rw [Option.none_or]
    by_cases c : (ev L m).f0 = (ev L q).f0
    · rw [if_pos c]; exact nextB_of hq (by omega) c hn
    · rw [if_neg c]
      refine nextB_of_none (fun k k1 k2 => ?_)
      by_cases e : k = m
      · rw [e]; exact c
      · exact hn k k1 (by omega)
theorem nextB_last {L : List S47} {q m : Nat} (hq : q < m) (h : nextB L q m = none) : lastB L (ev L q).f0 m = some q := lastB_of hq rfl (nextB_none h)
theorem questB_mem {L : List S47} {m q : Nat} : q ∈ questB L m ↔ q < m ∧ (ev L q).f1 = false := by
  induction m with
  | zero => simp [questB]
  | succ m ih =>
    unfold questB
    by_cases c : (ev L m).f1 = true
    · rw [if_pos c, ih]
      constructor
      · rintro ⟨h1, h2⟩; exact ⟨by omega, h2⟩
      · rintro ⟨h1, h2⟩
        refine ⟨?_, h2⟩
        by_cases e : q = m
        · subst e; rw [c] at h2; cases h2
        · omega
    · rw [if_neg c, List.mem_append, ih, List.mem_singleton]
      constructor
      · rintro (⟨h1, h2⟩ | rfl)
        · exact ⟨by omega, h2⟩
        · exact ⟨by omega, by simpa using c⟩
      · rintro ⟨h1, h2⟩
        by_cases e : q = m
        · exact Or.inr e
        · exact Or.inl ⟨by omega, h2⟩
theorem cnt_mono {L : List S47} {a b : Nat} (h : a ≤ b) : cnt L a ≤ cnt L b := by
  induction b with
  | zero => rw [show a = 0 by omega]; exact Nat.le_refl _
  | succ b ih =>
    by_cases e : a = b + 1
    · rw [e]; exact Nat.le_refl _
    · refine Nat.le_trans (ih (by omega)) ?_
      unfold cnt
      rw [questB]
      split
      · exact Nat.le_refl _
      · simp
theorem cnt_succ {L : List S47} {q : Nat} (h : (ev L q).f1 = false) : cnt L (q + 1) = cnt L q + 1 := by
  unfold cnt
  rw [questB, if_neg (by rw [h]; decide), List.length_append]
  rfl
theorem cnt_le (L : List S47) (m : Nat) : cnt L m ≤ m := by
  induction m with
  | zero => exact Nat.le_refl _
  | succ m ih =>
    unfold cnt at *
    rw [questB]
    split
    · omega
    · rw [List.length_append]; simp; omega
theorem questB_at {L : List S47} {m q : Nat} (hq : q < m) (h : (ev L q).f1 = false) : (questB L m)[cnt L q]? = some q := by
  induction m with
  | zero => omega
  | succ m ih =>
    by_cases e : q = m
    · subst e
      rw [questB, if_neg (by rw [h]; decide)]
      unfold cnt
      simp
    · have hk := ih (by omega)
      have hl : cnt L q < (questB L m).length := by
        have := cnt_mono (L := L) (show q + 1 ≤ m by omega)
        rw [cnt_succ h] at this
        exact this
      rw [questB]
      split
      · exact hk
      · rw [List.getElem?_append_left hl]; exact hk
theorem questB_inj {L : List S47} {m q k : Nat} (h : (questB L m)[k]? = some q) : q < m ∧ (ev L q).f1 = false ∧ k = cnt L q := by
  have hm := questB_mem.1 (List.mem_of_getElem? h)
  refine ⟨hm.1, hm.2, ?_⟩
  induction m with
  | zero => omega
  | succ m ih =>
    rw [questB] at h
    by_cases c : (ev L m).f1 = true
    · rw [if_pos c] at h
      exact ih h (questB_mem.1 (List.mem_of_getElem? h))
    · rw [if_neg c] at h
      rcases Nat.lt_or_ge k (questB L m).length with hk | hk
      · rw [List.getElem?_append_left hk] at h
        exact ih h (questB_mem.1 (List.mem_of_getElem? h))
      · rw [List.getElem?_append_right hk] at h
        have e0 : k - (questB L m).length = 0 := by
          rcases Nat.eq_zero_or_pos (k - (questB L m).length) with e | e
          · exact e
          · rw [List.getElem?_eq_none (by simp; omega)] at h; cases h
        rw [e0] at h
        have : q = m := by simpa using h.symm
        subst this
        unfold cnt; omega
theorem opens_some {L : List S47} {T : Int} {m q : Nat} (h : opens L T m = some q) : lastB L T m = some q ∧ (ev L q).f1 = false := by
  unfold opens at h
  obtain ⟨q', h1, h2⟩ := Option.bind_eq_some_iff.1 h
  split at h2
  · cases h2
  · rename_i c
    obtain rfl := Option.some.inj h2
    exact ⟨h1, by simpa using c⟩
theorem opens_of {L : List S47} {T : Int} {m q : Nat} (h : lastB L T m = some q) (h1 : (ev L q).f1 = false) : opens L T m = some q := by
  unfold opens
  rw [h, Option.bind_some, if_neg (by rw [h1]; decide)]
theorem opens_succ_ne {L : List S47} {T : Int} {m : Nat} (h : (ev L m).f0 ≠ T) : opens L T (m + 1) = opens L T m := by
  unfold opens
  rw [lastB, if_neg h]
theorem opens_succ_eq (L : List S47) (m : Nat) : opens L (ev L m).f0 (m + 1) = if (ev L m).f1 = true then none else some m := by
  unfold opens
  rw [lastB, if_pos rfl, Option.bind_some]
/-- What calls has behind m right events. -/
structure At (L : List S47) (m : Nat) (out : List S45) (o : List Int) : Prop where
  len : o.length = 8
  out : out = outB L m
  op : ∀ T : Int, 0 ≤ T → T < 8 → rd o T = match opens L T m with | none => 0 | some q => (cnt L q : Int) + 1
theorem rd_set_eq {o : List Int} {T : Int} (v : Int) (h : T.toNat < o.length) : rd (o.set T.toNat v) T = v := by
  unfold rd
  rw [List.getD_eq_getElem?_getD, List.getElem?_set_self h]
  rfl
theorem rd_set_ne {o : List Int} {T T' : Int} (v : Int) (h : T.toNat ≠ T'.toNat) : rd (o.set T.toNat v) T' = rd o T' := by
  unfold rd
  rw [List.getD_eq_getElem?_getD, List.getElem?_set_ne h, List.getD_eq_getElem?_getD]
theorem outB_at {L : List S47} {m q : Nat} (hq : q < m) (h : (ev L q).f1 = false) : rd_T45 (outB L m) (cnt L q : Int) = callAt L m q := by
  unfold rd_T45 outB
  rw [Int.toNat_natCast, List.getD_eq_getElem?_getD, List.getElem?_map, questB_at hq h]
  rfl
theorem callAt_push (L : List S47) (m q : Nat) : (callAt L m q).f1 = (ev L q).f2 := by
  unfold callAt
  split <;> rfl
theorem callAt_same {L : List S47} {m q : Nat} (hq : q < m) (h : nextB L q m = none → (ev L m).f0 ≠ (ev L q).f0) : callAt L (m + 1) q = callAt L m q := by
  have e : nextB L q (m + 1) = nextB L q m := by
    rw [nextB_succ L hq]
    cases hn : nextB L q m with
    | some j => rfl
    | none => rw [if_neg (h hn), Option.none_or]
  unfold callAt
  rw [e]
theorem At.err {L : List S47} {m : Nat} {out : List S45} {o : List Int} (h : At L m out o) : hist_err (ev L m) out o = wrongB L m := by
  unfold hist_err wrongB
  by_cases c0 : (ev L m).f0 < 0
  · rw [if_pos c0, if_pos c0]
  · by_cases c8 : 8 ≤ (ev L m).f0
    · rw [if_neg c0, if_neg c0, if_pos c8, if_pos c8]
    · rw [if_neg c0, if_neg c0, if_neg c8, if_neg c8]
      have ho := h.op (ev L m).f0 (by omega) (by omega)
      cases hq : opens L (ev L m).f0 m with
      | none =>
        rw [hq] at ho
        simp only at ho ⊢
        rw [ho]
        unfold hist_answersM hist_asksM
        rw [if_pos rfl]
        simp
      | some q =>
        rw [hq] at ho
        simp only at ho ⊢
        obtain ⟨h1, h2⟩ := opens_some hq
        obtain ⟨h3, h4, h5⟩ := lastB_some h1
        have e : (cnt L q : Int) + 1 - 1 = (cnt L q : Int) := by omega
        rw [ho, e, h.out, outB_at h3 h2, callAt_push]
        unfold hist_answersM hist_asksM
        rw [if_neg (show ¬ (cnt L q : Int) + 1 = 0 by omega), if_pos (show 0 < (cnt L q : Int) + 1 by omega)]
theorem wrong_form {L : List S47} {m : Nat} (h : wrongB L m = 0) : 0 ≤ (ev L m).f0 ∧ (ev L m).f0 < 8 ∧
    (((ev L m).f1 = false ∧ opens L (ev L m).f0 m = none ∧ (ev L m).f4 = 0 ∧ ((ev L m).f2 = true ∨ (ev L m).f3 = 0)) ∨
     ((ev L m).f1 = true ∧ ∃ q, opens L (ev L m).f0 m = some q ∧ (ev L m).f2 = (ev L q).f2 ∧ ((ev L m).f4 = 1 ∨ (ev L m).f4 = 2 ∨ (ev L m).f4 = 6 ∨ (ev L m).f4 = 7) ∧ ((ev L m).f3 = 0 ∨ ((ev L m).f2 = false ∧ (ev L m).f4 = 1)))) := by
  unfold wrongB at h
  by_cases c0 : (ev L m).f0 < 0
  · rw [if_pos c0] at h; cases h
  · by_cases c8 : 8 ≤ (ev L m).f0
    · rw [if_neg c0, if_pos c8] at h; cases h
    · rw [if_neg c0, if_neg c8] at h
      refine ⟨by omega, by omega, ?_⟩
      cases hq : opens L (ev L m).f0 m with
      | none =>
        rw [hq] at h
        simp only at h
        by_cases r : (ev L m).f1 = true
        · rw [if_pos r] at h; cases h
        · rw [if_neg r] at h
          by_cases s : (ev L m).f4 = 0
          · rw [if_neg (by simp [s])] at h
            by_cases t : (ev L m).f2 = false ∧ ¬ (ev L m).f3 = 0
            · rw [if_pos t] at h; cases h
            · refine Or.inl ⟨by simpa using r, rfl, s, ?_⟩
              cases hp : (ev L m).f2 with
              | true => exact Or.inl rfl
              | false =>
                right
                by_cases z : (ev L m).f3 = 0
                · exact z
                · exact absurd ⟨hp, z⟩ t
          · rw [if_pos s] at h; cases h
      | some q =>
        rw [hq] at h
        simp only at h
        by_cases r : (ev L m).f1 = true
        · rw [if_pos r] at h
          by_cases p : (ev L m).f2 = (ev L q).f2
          · rw [if_neg (by simp [p])] at h
            by_cases s : (ev L m).f4 = 1 ∨ (ev L m).f4 = 2 ∨ (ev L m).f4 = 6 ∨ (ev L m).f4 = 7
            · rw [if_neg (fun hn => hn s)] at h
              by_cases t : ¬ (ev L m).f3 = 0 ∧ ((ev L m).f2 = true ∨ ¬ (ev L m).f4 = 1)
              · rw [if_pos t] at h; cases h
              · refine Or.inr ⟨r, q, rfl, p, s, ?_⟩
                by_cases z : (ev L m).f3 = 0
                · exact Or.inl z
                · right
                  constructor
                  · cases hp : (ev L m).f2 with
                    | true => exact absurd ⟨z, Or.inl hp⟩ t
                    | false => rfl
                  · by_cases y : (ev L m).f4 = 1
                    · exact y
                    · exact absurd ⟨z, Or.inr y⟩ t
            · rw [if_pos s] at h; cases h
          · rw [if_pos p] at h; cases h
        · rw [if_neg r] at h; cases h
theorem outB_ask {L : List S47} {m : Nat} (h : (ev L m).f1 = false) (ho : opens L (ev L m).f0 m = none) : outB L (m + 1) = outB L m ++ [hist_out (ev L m) (m : Int)] := by
  unfold outB
  rw [questB, if_neg (by rw [h]; decide), List.map_append]
  congr 1
  · refine List.map_congr_left (fun q hq => ?_)
    obtain ⟨h1, h2⟩ := questB_mem.1 hq
    refine callAt_same h1 (fun hn e => ?_)
    have := opens_of (nextB_last h1 hn) h2
    rw [← e, ho] at this
    cases this
  · have e : nextB L m (m + 1) = none := nextB_of_none (fun k k1 k2 => by omega)
    simp only [List.map_cons, List.map_nil, callAt, e]
    rfl
theorem outB_ans {L : List S47} {m q : Nat} (h : (ev L m).f1 = true) (ho : opens L (ev L m).f0 m = some q) (hp : (ev L m).f2 = (ev L q).f2) : outB L (m + 1) = (outB L m).set (cnt L q) (hist_end (callAt L m q) (ev L m) (m : Int)) := by
  obtain ⟨h1, h2⟩ := opens_some ho
  obtain ⟨h3, h4, h5⟩ := lastB_some h1
  unfold outB
  rw [questB, if_pos h]
  refine List.ext_getElem? (fun k => ?_)
  rw [List.getElem?_map]
  by_cases e : cnt L q = k
  · subst e
    have hl : cnt L q < ((questB L m).map (callAt L m)).length := by
      rw [List.length_map]
      exact (List.getElem?_eq_some_iff.1 (questB_at h3 h2)).1
    rw [List.getElem?_set_self hl, questB_at h3 h2]
    have n0 : nextB L q m = none := nextB_of_none (fun j j1 j2 => by rw [h4]; exact h5 j j1 j2)
    have n1 : nextB L q (m + 1) = some m := by
      rw [nextB_succ L h3, n0, Option.none_or, if_pos h4.symm]
    simp only [Option.map_some, callAt, n0, n1, hist_end, hp]
  · rw [List.getElem?_set_ne e, List.getElem?_map]
    cases hk : (questB L m)[k]? with
    | none => rfl
    | some p =>
      obtain ⟨p1, p2, p3⟩ := questB_inj hk
      simp only [Option.map_some]
      congr 1
      refine callAt_same p1 (fun hn e' => ?_)
      have := opens_of (nextB_last p1 hn) p2
      rw [← e', ho] at this
      obtain rfl := Option.some.inj this
      exact e p3.symm
theorem At.ask {L : List S47} {m : Nat} {out : List S45} {o : List Int} (h : At L m out o) (h0 : 0 ≤ (ev L m).f0) (h8 : (ev L m).f0 < 8) (hr : (ev L m).f1 = false) (ho : opens L (ev L m).f0 m = none) :
    At L (m + 1) (out ++ [hist_out (ev L m) (m : Int)]) (o.set (ev L m).f0.toNat ((out.length : Int) + 1)) := by
  refine ⟨by rw [List.length_set]; exact h.len, by rw [h.out]; exact (outB_ask hr ho).symm, fun T t0 t8 => ?_⟩
  by_cases e : (ev L m).f0 = T
  · subst e
    rw [rd_set_eq _ (by have := h.len; omega), opens_succ_eq, if_neg (by rw [hr]; decide), h.out]
    unfold outB cnt
    rw [List.length_map]
  · rw [rd_set_ne _ (by omega), opens_succ_ne e]
    exact h.op T t0 t8
theorem At.ans {L : List S47} {m q : Nat} {out : List S45} {o : List Int} (h : At L m out o) (h0 : 0 ≤ (ev L m).f0) (h8 : (ev L m).f0 < 8) (hr : (ev L m).f1 = true) (ho : opens L (ev L m).f0 m = some q) (hp : (ev L m).f2 = (ev L q).f2) :
    At L (m + 1) (out.set (rd o (ev L m).f0 - 1).toNat (hist_end (rd_T45 out (rd o (ev L m).f0 - 1)) (ev L m) (m : Int))) (o.set (ev L m).f0.toNat 0) := by
  obtain ⟨h1, h2⟩ := opens_some ho
  obtain ⟨h3, h4, h5⟩ := lastB_some h1
  have hx := h.op _ h0 h8
  rw [ho] at hx
  simp only at hx
  have e : (cnt L q : Int) + 1 - 1 = (cnt L q : Int) := by omega
  refine ⟨by rw [List.length_set]; exact h.len, ?_, fun T t0 t8 => ?_⟩
  · rw [hx, e, h.out, outB_at h3 h2, Int.toNat_natCast]
    exact (outB_ans hr ho hp).symm
  · by_cases e : (ev L m).f0 = T
    · subst e
      rw [rd_set_eq _ (by have := h.len; omega), opens_succ_eq, if_pos hr]
    · rw [rd_set_ne _ (by omega), opens_succ_ne e]
      exact h.op T t0 t8
theorem ev_drop {L : List S47} {i : Nat} (h : i < L.length) : L.drop i = ev L i :: L.drop (i + 1) := by
  rw [List.drop_eq_getElem_cons h]
  congr 1
  unfold ev
  simp [h]
theorem hist_go_cons (n : Int) (e : S47) (l : List S47) (i : Int) (out : List S45) (o : List Int) : hist_go n (e :: l) i out o = if ¬ hist_err e out o = 0 then ([], i, hist_err e out o)
    else if e.f1 = true then hist_go n l (i + 1) (out.set (rd o e.f0 - 1).toNat (hist_end (rd_T45 out (rd o e.f0 - 1)) e i)) (o.set e.f0.toNat 0)
    else hist_go n l (i + 1) (out ++ [hist_out e i]) (o.set e.f0.toNat ((out.length : Int) + 1)) := rfl
/-- The events up to place m are right: then calls goes on from there with what is said of places. -/
theorem go_right {L : List S47} {m : Nat} (hm : m ≤ L.length) (h : ∀ i, i < m → wrongB L i = 0) : ∃ out o, At L m out o ∧ hist_go (L.length : Int) L 0 ([] : List S45) [0, 0, 0, 0, 0, 0, 0, 0] = hist_go (L.length : Int) (L.drop m) (m : Int) out o := by
  induction m with
  | zero =>
    refine ⟨[], [0, 0, 0, 0, 0, 0, 0, 0], ⟨rfl, rfl, fun T _ _ => ?_⟩, rfl⟩
    rw [hist_rd_zero]
    rfl
  | succ m ih =>
    obtain ⟨out, o, ha, hg⟩ := ih (by omega) (fun i hi => h i (by omega))
    have hw := h m (by omega)
    rw [ev_drop (by omega)] at hg
    rw [hist_go_cons] at hg
    rw [if_neg (by rw [ha.err, hw]; simp)] at hg
    obtain ⟨f0, f8, hf⟩ := wrong_form hw
    rcases hf with ⟨hr, ho, _⟩ | ⟨hr, q, ho, hp, _⟩
    · rw [if_neg (by rw [hr]; decide)] at hg
      refine ⟨_, _, ha.ask f0 f8 hr ho, ?_⟩
      push_cast
      exact hg
    · rw [if_pos hr] at hg
      refine ⟨_, _, ha.ans f0 f8 hr ho hp, ?_⟩
      push_cast
      exact hg
/-- All events are right. -/
theorem calls_right {L : List S47} (hl : L.length < 2932031007402) (h : ∀ i, i < L.length → wrongB L i = 0) : history_calls.f L = some (outB L L.length, (L.length : Int), 0) := by
  obtain ⟨out, o, ha, hg⟩ := go_right (Nat.le_refl _) h
  unfold history_calls.f
  rw [if_pos hl, hg, List.drop_length, ha.out]
  rfl
/-- The first wrong event is the one at m. -/
theorem calls_wrong {L : List S47} {m : Nat} (hl : L.length < 2932031007402) (hm : m < L.length) (h : ∀ i, i < m → wrongB L i = 0) (hw : wrongB L m ≠ 0) : history_calls.f L = some ([], (m : Int), wrongB L m) := by
  obtain ⟨out, o, ha, hg⟩ := go_right (Nat.le_of_lt hm) h
  unfold history_calls.f
  rw [if_pos hl, hg, ev_drop hm]
  rw [hist_go_cons, ha.err, if_pos hw]
theorem bs {α β : Type} (x : α) (f : α → Option β) : (some x).bind f = f x := by rw [Option.bind_some]
theorem w_nat (n : Nat) (h : n < 9223372036854775807) : wrap64 ((n : Int) + 1) = ((n + 1 : Nat) : Int) := by unfold wrap64; push_cast; omega
def c45 (x : S45) : S55 := ⟨x.f0, x.f1, x.f2, x.f3, x.f4, x.f5⟩
def c47 (x : S47) : S59 := ⟨x.f0, x.f1, x.f2, x.f3, x.f4⟩
theorem rd_c47 (L : List S47) (i : Nat) : rd_T59 (L.map c47) (i : Int) = c47 (ev L i) := by
  unfold rd_T59 ev
  rw [Int.toNat_natCast, List.getD_eq_getElem?_getD, List.getElem?_map, List.getD_eq_getElem?_getD]
  cases L[i]? <;> rfl
theorem as_loop (L : List S47) (hL : L.length < 4398046511104) (d : Nat) : ∀ (i k : Nat) (acc : List S59), i + d = L.length → d < k → acc.length = i → hatstandlaw14_as.l0 k L acc (i : Int) = some (acc ++ (L.drop i).map c47) := by
  induction d with
  | zero =>
    intro i k acc h hk ha
    obtain ⟨k, rfl⟩ : ∃ k', k = k' + 1 := ⟨k - 1, by omega⟩
    rw [hatstandlaw14_as.l0, if_neg (by omega), List.drop_eq_nil_of_le (by omega)]
    simp
  | succ d ih =>
    intro i k acc h hk ha
    obtain ⟨k, rfl⟩ : ∃ k', k = k' + 1 := ⟨k - 1, by omega⟩
    rw [hatstandlaw14_as.l0, if_pos (by omega), if_pos (by omega), if_pos (by omega), w_nat i (by omega), ih (i + 1) k _ (by omega) (by omega) (by rw [List.length_append]; simp; omega), ev_drop (show i < L.length by omega), rd_ev, List.map_cons, List.append_assoc]
    rfl
theorem as_all (L : List S47) (hL : L.length < 4398046511104) (k : Nat) (hk : L.length < k) : hatstandlaw14_as.f k L = some (L.map c47) := by
  unfold hatstandlaw14_as.f
  have := as_loop L hL L.length 0 k [] (by omega) hk rfl
  simpa using this
theorem asCalls_loop (C : List S45) (hC : C.length < 2932031007402) (d : Nat) : ∀ (i k : Nat) (acc : List S55), i + d = C.length → d < k → acc.length = i → hatstandlaw14_asCalls.l0 k C acc (i : Int) = some (acc ++ (C.drop i).map c45) := by
  induction d with
  | zero =>
    intro i k acc h hk ha
    obtain ⟨k, rfl⟩ : ∃ k', k = k' + 1 := ⟨k - 1, by omega⟩
    rw [hatstandlaw14_asCalls.l0, if_neg (by omega), List.drop_eq_nil_of_le (by omega)]
    simp
  | succ d ih =>
    intro i k acc h hk ha
    obtain ⟨k, rfl⟩ : ∃ k', k = k' + 1 := ⟨k - 1, by omega⟩
    have e : C.drop i = rd_T45 C (i : Int) :: C.drop (i + 1) := by
      rw [List.drop_eq_getElem_cons (show i < C.length by omega)]
      congr 1
      unfold rd_T45
      simp [show i < C.length by omega]
    rw [hatstandlaw14_asCalls.l0, if_pos (by omega), if_pos (by omega), if_pos (by omega), w_nat i (by omega), ih (i + 1) k _ (by omega) (by omega) (by rw [List.length_append]; simp; omega), e, List.map_cons, List.append_assoc]
    rfl
theorem asCalls_all (C : List S45) (hC : C.length < 2932031007402) (k : Nat) (hk : C.length < k) : hatstandlaw14_asCalls.f k C = some (C.map c45) := by
  unfold hatstandlaw14_asCalls.f
  have := asCalls_loop C hC C.length 0 k [] (by omega) hk rfl
  simpa using this
theorem same_loop (C : List S55) (hC : C.length < 9223372036854775807) (d : Nat) : ∀ (i k : Nat), i + d = C.length → d < k → hatstandref14_Same.l0 k C C (i : Int) = some true := by
  induction d with
  | zero =>
    intro i k h hk
    obtain ⟨k, rfl⟩ : ∃ k', k = k' + 1 := ⟨k - 1, by omega⟩
    rw [hatstandref14_Same.l0, if_neg (by omega)]
  | succ d ih =>
    intro i k h hk
    obtain ⟨k, rfl⟩ : ∃ k', k = k' + 1 := ⟨k - 1, by omega⟩
    rw [hatstandref14_Same.l0, if_pos (by omega), if_pos (by omega), if_pos (by omega), if_neg (by simp), w_nat i (by omega)]
    exact ih (i + 1) k (by omega) (by omega)
theorem same_all (C : List S55) (hC : C.length < 9223372036854775807) (k : Nat) (hk : C.length < k) : hatstandref14_Same.f k C C = some true := by
  unfold hatstandref14_Same.f
  rw [if_pos rfl]
  exact same_loop C hC C.length 0 k (by omega) hk
theorem hist_shown (k : Nat) : hatstandlaw14_shown.f (k + 4) = some true := by
  have h1 : history_calls.f [(⟨0, false, true, 5, 0⟩ : S47), (⟨1, false, false, 0, 0⟩ : S47), (⟨0, true, true, 0, 1⟩ : S47), (⟨1, true, false, 5, 1⟩ : S47)] = some ([(⟨0, true, 5, 1, 0, 2⟩ : S45), (⟨1, false, 5, 1, 1, 3⟩ : S45)], 4, 0) := by rfl
  have h2 : history_calls.f [(⟨9, false, false, 0, 0⟩ : S47)] = some ([], 0, 4) := by rfl
  unfold hatstandlaw14_shown.f history_Calls.f history_Check.f
  rw [h1, h2]
  simp only [bs, if_true]
  rw [asCalls_all _ (by decide) _ (by simp)]
  simp only [bs]
  have e : ([(⟨0, true, 5, 1, 0, 2⟩ : S45), (⟨1, false, 5, 1, 1, 3⟩ : S45)].map c45) = [(⟨0, true, 5, 1, 0, 2⟩ : S55), (⟨1, false, 5, 1, 1, 3⟩ : S55)] := rfl
  rw [e, same_all _ (by decide) _ (by simp), bs]
theorem rdc0 (L : List S47) (i : Nat) : (rd_T59 (L.map c47) (i : Int)).f0 = (ev L i).f0 := by rw [rd_c47]; rfl
theorem rdc1 (L : List S47) (i : Nat) : (rd_T59 (L.map c47) (i : Int)).f1 = (ev L i).f1 := by rw [rd_c47]; rfl
theorem rdc2 (L : List S47) (i : Nat) : (rd_T59 (L.map c47) (i : Int)).f2 = (ev L i).f2 := by rw [rd_c47]; rfl
theorem rdc3 (L : List S47) (i : Nat) : (rd_T59 (L.map c47) (i : Int)).f3 = (ev L i).f3 := by rw [rd_c47]; rfl
theorem rdc4 (L : List S47) (i : Nat) : (rd_T59 (L.map c47) (i : Int)).f4 = (ev L i).f4 := by rw [rd_c47]; rfl
theorem ref_last (L : List S47) (i : Nat) (hi : i < L.length) (hL : L.length < 4398046511104) (j : Nat) : ∀ k : Nat, j ≤ i → j < k → hatstandref14_last.l0 k (L.map c47) (i : Int) ((j : Int) - 1) = some (match lastB L (ev L i).f0 j with | none => -1 | some q => (q : Int)) := by
  induction j with
  | zero =>
    intro k _ hk
    obtain ⟨k, rfl⟩ : ∃ k', k = k' + 1 := ⟨k - 1, by omega⟩
    rw [hatstandref14_last.l0, if_neg (by omega)]
    rfl
  | succ j ih =>
    intro k hj hk
    obtain ⟨k, rfl⟩ : ∃ k', k = k' + 1 := ⟨k - 1, by omega⟩
    have e : ((j + 1 : Nat) : Int) - 1 = (j : Int) := by omega
    rw [e, hatstandref14_last.l0, if_pos (by omega), if_pos (by omega), if_pos (by rw [List.length_map]; omega), if_pos (by omega), if_pos (by rw [List.length_map]; omega), rdc0, rdc0, lastB]
    by_cases c : (ev L j).f0 = (ev L i).f0
    · rw [if_pos c, if_pos c]
    · rw [if_neg c, if_neg c]
      rw [show wrap64 ((j : Int) - 1) = (j : Int) - 1 by unfold wrap64; omega]
      exact ih k (by omega) (by omega)
theorem ref_wrong (L : List S47) (i : Nat) (hi : i < L.length) (hL : L.length < 4398046511104) (k : Nat) (hk : i + 4 < k) : hatstandref14_wrong.f k (L.map c47) (i : Int) = some (wrongB L i) := by
  obtain ⟨k, rfl⟩ : ∃ k', k = k' + 4 := ⟨k - 4, by omega⟩
  unfold hatstandref14_wrong.f
  rw [if_pos (by omega), if_pos (by rw [List.length_map]; omega), rdc0, rdc1, rdc2, rdc3, rdc4]
  unfold wrongB
  by_cases c0 : (ev L i).f0 < 0
  · rw [if_pos c0, if_pos c0, hatstandref14_wrong.j0, if_pos rfl]
  · rw [if_neg c0, if_neg c0]
    by_cases c8 : 8 ≤ (ev L i).f0
    · rw [decide_eq_true (show (ev L i).f0 > 7 by omega), hatstandref14_wrong.j0, if_pos rfl, if_pos c8]
    · rw [decide_eq_false (show ¬ (ev L i).f0 > 7 by omega), hatstandref14_wrong.j0, if_neg (by decide), if_neg c8]
      have hl : hatstandref14_last.f (k + 3) (L.map c47) (i : Int) = some (match lastB L (ev L i).f0 i with | none => -1 | some q => (q : Int)) := by
        unfold hatstandref14_last.f
        rw [show wrap64 ((i : Int) - 1) = (i : Int) - 1 by unfold wrap64; omega]
        exact ref_last L i hi hL i (k + 3) (Nat.le_refl _) (by omega)
      rw [hl, bs]
      unfold opens
      cases hq : lastB L (ev L i).f0 i with
      | none =>
        simp only [Option.bind_none]
        rw [if_neg (by decide), hatstandref14_wrong.j1]
        cases r : (ev L i).f1
        · simp only [Bool.false_eq_true, if_false]
          by_cases s : (ev L i).f4 = 0
          · rw [if_pos s, if_neg (show ¬ ¬ (ev L i).f4 = 0 from fun hn => hn s)]
            cases p : (ev L i).f2
            · simp only [Bool.false_eq_true, if_false]
              rw [hatstandref14_wrong.j2]
              by_cases v : (ev L i).f3 = 0 <;> simp [v]
            · simp only [if_true]
              rw [hatstandref14_wrong.j2]
              simp
          · rw [if_neg s, if_pos s, hatstandref14_wrong.j2, if_pos rfl]
        · simp only [Bool.false_eq_true, if_false, if_true]
      | some q =>
        obtain ⟨q1, q2, q3⟩ := lastB_some hq
        simp only [Option.bind_some]
        rw [if_pos (by omega), if_pos (by omega), if_pos (by rw [List.length_map]; omega), rdc1, hatstandref14_wrong.j1]
        cases r : (ev L i).f1
        · simp only [Bool.false_eq_true, if_false]
          cases rq : (ev L q).f1
          · simp
          · simp only [Bool.not_true, Bool.false_eq_true, if_false, if_true]
            by_cases s : (ev L i).f4 = 0
            · rw [if_pos s, if_neg (show ¬ ¬ (ev L i).f4 = 0 from fun hn => hn s)]
              cases p : (ev L i).f2
              · simp only [Bool.false_eq_true, if_false]
                rw [hatstandref14_wrong.j2]
                by_cases v : (ev L i).f3 = 0 <;> simp [v]
              · simp only [if_true]
                rw [hatstandref14_wrong.j2]
                simp
            · rw [if_neg s, if_pos s, hatstandref14_wrong.j2, if_pos rfl]
        · simp only [if_true]
          cases rq : (ev L q).f1
          · simp only [Bool.not_false, Bool.false_eq_true, if_false, if_true]
            rw [if_pos (by omega), if_pos (by rw [List.length_map]; omega), rdc2]
            have fin : hatstandref14_wrong.j3 (k + 1 + 1) false (ev L i).f0 true (ev L i).f2 (ev L i).f3 (ev L i).f4 = some (if ¬ (ev L i).f3 = 0 ∧ ((ev L i).f2 = true ∨ ¬ (ev L i).f4 = 1) then 3 else 0) := by
              rw [hatstandref14_wrong.j3, if_neg (by decide)]
              by_cases v : (ev L i).f3 = 0
              · rw [if_pos v, hatstandref14_wrong.j4]; simp [v]
              · rw [if_neg v]
                cases p : (ev L i).f2
                · rw [if_neg (by decide), hatstandref14_wrong.j4]
                  by_cases s : (ev L i).f4 = 1 <;> simp [v, s]
                · rw [if_pos rfl, hatstandref14_wrong.j4]; simp [v]
            have bad : hatstandref14_wrong.j3 (k + 1 + 1) true (ev L i).f0 true (ev L i).f2 (ev L i).f3 (ev L i).f4 = some 3 := by
              rw [hatstandref14_wrong.j3, if_pos rfl]
            by_cases e : (ev L i).f2 = (ev L q).f2
            · rw [show ((ev L i).f2 != (ev L q).f2) = false by simp [e]]
              simp only [Bool.false_eq_true, if_false]
              rw [if_neg (show ¬ ¬ (ev L i).f2 = (ev L q).f2 from fun hn => hn e)]
              by_cases s1 : (ev L i).f4 = 1
              · rw [if_pos s1, if_neg (fun hn => hn (Or.inl s1)), fin]
              · rw [if_neg s1]
                by_cases s2 : (ev L i).f4 = 2
                · rw [if_pos s2, if_neg (fun hn => hn (Or.inr (Or.inl s2))), fin]
                · rw [if_neg s2]
                  by_cases s6 : (ev L i).f4 = 6
                  · rw [if_pos s6, if_neg (fun hn => hn (Or.inr (Or.inr (Or.inl s6)))), fin]
                  · rw [if_neg s6]
                    by_cases s7 : (ev L i).f4 = 7
                    · rw [show ((ev L i).f4 != 7) = false by simp [s7], if_neg (fun hn => hn (Or.inr (Or.inr (Or.inr s7)))), fin]
                    · rw [show ((ev L i).f4 != 7) = true by simp [s7], if_pos (by simp [s1, s2, s6, s7]), bad]
            · rw [show ((ev L i).f2 != (ev L q).f2) = true by simp [e], if_pos rfl, if_pos e, bad]
          · simp
theorem hist_cases (L : List S47) (n : Nat) : (∀ i, i < n → wrongB L i = 0) ∨ ∃ m, m < n ∧ (∀ i, i < m → wrongB L i = 0) ∧ wrongB L m ≠ 0 := by
  induction n with
  | zero => exact Or.inl (fun i hi => by omega)
  | succ n ih =>
    rcases ih with h | ⟨m, h1, h2, h3⟩
    · by_cases c : wrongB L n = 0
      · refine Or.inl (fun i hi => ?_)
        by_cases e : i = n
        · rw [e]; exact c
        · exact h i (by omega)
      · exact Or.inr ⟨n, by omega, h, c⟩
    · exact Or.inr ⟨m, by omega, h2, h3⟩
theorem ref_check_right (L : List S47) (hL : L.length < 4398046511104) (h : ∀ i, i < L.length → wrongB L i = 0) (d : Nat) : ∀ i k : Nat, i + d = L.length → d + L.length + 5 < k → hatstandref14_Check.l0 k (L.map c47) (i : Int) = some ((L.length : Int), 0) := by
  induction d with
  | zero =>
    intro i k hi hk
    obtain ⟨k, rfl⟩ : ∃ k', k = k' + 1 := ⟨k - 1, by omega⟩
    rw [hatstandref14_Check.l0, if_neg (by rw [List.length_map]; omega), List.length_map]
  | succ d ih =>
    intro i k hi hk
    obtain ⟨k, rfl⟩ : ∃ k', k = k' + 1 := ⟨k - 1, by omega⟩
    rw [hatstandref14_Check.l0, if_pos (by rw [List.length_map]; omega), ref_wrong L i (by omega) hL k (by omega), bs, if_pos (h i (by omega)), w_nat i (by omega)]
    exact ih (i + 1) k (by omega) (by omega)
theorem ref_check_wrong (L : List S47) (hL : L.length < 4398046511104) (m : Nat) (hm : m < L.length) (h : ∀ i, i < m → wrongB L i = 0) (hw : wrongB L m ≠ 0) (d : Nat) : ∀ i k : Nat, i + d = m → d + L.length + 5 < k → hatstandref14_Check.l0 k (L.map c47) (i : Int) = some ((m : Int), wrongB L m) := by
  induction d with
  | zero =>
    intro i k hi hk
    obtain ⟨k, rfl⟩ : ∃ k', k = k' + 1 := ⟨k - 1, by omega⟩
    obtain rfl : i = m := by omega
    rw [hatstandref14_Check.l0, if_pos (by rw [List.length_map]; omega), ref_wrong L i (by omega) hL k (by omega), bs, if_neg hw]
  | succ d ih =>
    intro i k hi hk
    obtain ⟨k, rfl⟩ : ∃ k', k = k' + 1 := ⟨k - 1, by omega⟩
    rw [hatstandref14_Check.l0, if_pos (by rw [List.length_map]; omega), ref_wrong L i (by omega) hL k (by omega), bs, if_pos (h i (by omega)), w_nat i (by omega)]
    exact ih (i + 1) k (by omega) (by omega)
theorem ref_found (L : List S47) (hL : L.length < 2932031007402) (acc : List S55) (ha : acc.length < 2932031007402) (R : List S55 × Int) (B i t : Nat) (hi : i < L.length) (ht : t < L.length) (hn : nextB L i L.length = some t)
    (hR : ∀ k, B ≤ k → hatstandref14_Calls.l0 k (L.map c47) (acc ++ [c45 (callAt L L.length i)]) ((i + 1 : Nat) : Int) = some R) (x : Int) (k : Nat) (hk : B + 3 ≤ k) :
    hatstandref14_Calls.l1 k (L.map c47) acc (i : Int) x (ev L i).f0 (ev L i).f2 (ev L i).f3 (ev L t).f4 (i : Int) (t : Int) = some R := by
  obtain ⟨k, rfl⟩ : ∃ k', k = k' + 3 := ⟨k - 3, by omega⟩
  have e2 : hatstandref14_Calls.j2 (k + 2) (L.map c47) acc (i : Int) x false (ev L i).f0 (ev L i).f2 (ev L i).f3 (ev L t).f4 (i : Int) (t : Int) = some R := by
    rw [hatstandref14_Calls.j2, if_neg (by decide), if_pos (by omega), hatstandref14_Calls.j3]
    have hr := hR k (by omega)
    cases p : (ev L i).f2
    · rw [if_pos (by simp), if_pos (by omega), if_pos (by rw [List.length_map]; omega), if_pos ha, rdc3, w_nat i (by omega)]
      simp only [callAt, hn, p, c45, Bool.false_eq_true, if_false] at hr
      exact hr
    · rw [if_neg (by simp), if_pos ha, w_nat i (by omega)]
      simp only [callAt, hn, p, c45, if_true] at hr
      exact hr
  rw [hatstandref14_Calls.l1, decide_eq_false (show ¬ (t : Int) < 0 by omega)]
  split <;> exact e2
theorem ref_scan (L : List S47) (hL : L.length < 2932031007402) (acc : List S55) (ha : acc.length < 2932031007402) (R : List S55 × Int) (B i : Nat) (hi : i < L.length)
    (hR : ∀ k, B ≤ k → hatstandref14_Calls.l0 k (L.map c47) (acc ++ [c45 (callAt L L.length i)]) ((i + 1 : Nat) : Int) = some R) (d : Nat) :
    ∀ j k : Nat, j + d = L.length → i < j → (∀ m, i < m → m < j → (ev L m).f0 ≠ (ev L i).f0) → B + 2 * d + 3 ≤ k → hatstandref14_Calls.l1 k (L.map c47) acc (i : Int) (j : Int) (ev L i).f0 (ev L i).f2 (ev L i).f3 0 (i : Int) (-1) = some R := by
  induction d with
  | zero =>
    intro j k hj hij hn hk
    obtain ⟨k, rfl⟩ : ∃ k', k = k' + 3 := ⟨k - 3, by omega⟩
    have hb : nextB L i L.length = none := nextB_of_none (fun m m1 m2 => hn m m1 (by omega))
    have hr := hR k (by omega)
    simp only [callAt, hb, c45] at hr
    rw [hatstandref14_Calls.l1, if_neg (by rw [List.length_map]; omega), hatstandref14_Calls.j2, if_neg (by decide), if_neg (by decide), hatstandref14_Calls.j3, if_neg (by decide), if_pos ha, w_nat i (by omega)]
    exact hr
  | succ d ih =>
    intro j k hj hij hn hk
    obtain ⟨k, rfl⟩ : ∃ k', k = k' + 2 := ⟨k - 2, by omega⟩
    rw [hatstandref14_Calls.l1, if_pos (by rw [List.length_map]; omega), decide_eq_true (show (-1 : Int) < 0 by decide), hatstandref14_Calls.j2, if_pos rfl, if_pos (by omega), if_pos (by rw [List.length_map]; omega), rdc0, rdc4]
    by_cases c : (ev L j).f0 = (ev L i).f0
    · rw [if_pos c]
      exact ref_found L hL acc ha R B i j hi (by omega) (nextB_of hij (by omega) c hn) hR _ k (by omega)
    · rw [if_neg c, w_nat j (by omega)]
      refine ih (j + 1) k (by omega) (by omega) (fun m m1 m2 => ?_) (by omega)
      by_cases e : m = j
      · rw [e]; exact c
      · exact hn m m1 (by omega)
theorem ref_calls_loop (L : List S47) (hL : L.length < 1000000) (d : Nat) : ∀ i k : Nat, i + d = L.length → d * (2 * L.length + 10) + 1 ≤ k →
    hatstandref14_Calls.l0 k (L.map c47) (((questB L i).map (callAt L L.length)).map c45) (i : Int) = some ((outB L L.length).map c45, 0) := by
  induction d with
  | zero =>
    intro i k hi hk
    obtain ⟨k, rfl⟩ : ∃ k', k = k' + 1 := ⟨k - 1, by omega⟩
    rw [hatstandref14_Calls.l0, if_neg (by rw [List.length_map]; omega), show i = L.length by omega]
    rfl
  | succ d ih =>
    intro i k hi hk
    obtain ⟨k, rfl⟩ : ∃ k', k = k' + 1 := ⟨k - 1, by omega⟩
    have hb : (d + 1) * (2 * L.length + 10) = d * (2 * L.length + 10) + (2 * L.length + 10) := by rw [Nat.add_mul, Nat.one_mul]
    have hacc : (((questB L i).map (callAt L L.length)).map c45).length < 2932031007402 := by
      rw [List.length_map, List.length_map]
      have := cnt_le L i
      unfold cnt at this
      omega
    rw [hatstandref14_Calls.l0, if_pos (by rw [List.length_map]; omega), if_pos (by omega), rdc0, rdc1, rdc2, rdc3, w_nat i (by omega)]
    by_cases r : (ev L i).f1 = true
    · rw [if_pos r]
      have := ih (i + 1) k (by omega) (by omega)
      rw [questB, if_pos r] at this
      exact this
    · rw [if_neg r]
      refine ref_scan L (by omega) _ hacc _ (d * (2 * L.length + 10) + 1) i (by omega) (fun k' hk' => ?_) d (i + 1) k (by omega) (by omega) (fun m m1 m2 => by omega) (by omega)
      have := ih (i + 1) k' (by omega) hk'
      rw [questB, if_neg r, List.map_append, List.map_append] at this
      exact this
theorem HistoryTells : hatstandlaw14_HistoryTells.Pure := by
  intro l0 h1 h2 h3
  by_cases c : (l0.length : Int) > 200
  · refine ⟨5, ?_⟩
    unfold hatstandlaw14_HistoryTells.f
    rw [hist_shown 1, bs, if_pos rfl, decide_eq_true c, hatstandlaw14_HistoryTells.j0, if_pos rfl]
  · have hn : l0.length ≤ 200 := by omega
    have hk : l0.length * (2 * l0.length + 10) ≤ 200 * (2 * 200 + 10) := Nat.mul_le_mul hn (by omega)
    generalize hK : 200 * (2 * 200 + 10) + 1000 = K
    have hK' : 83000 = K := by rw [← hK]
    refine ⟨K + 4 + 1, ?_⟩
    unfold hatstandlaw14_HistoryTells.f
    rw [show K + 4 + 1 = (K + 1) + 4 by omega, hist_shown, bs, if_pos rfl, decide_eq_false c, show K + 1 + 4 = K + 4 + 1 by omega, hatstandlaw14_HistoryTells.j0, if_neg (by decide)]
    rw [as_all l0 (by omega) _ (by omega)]
    unfold history_Check.f history_Calls.f hatstandref14_Calls.f hatstandref14_Check.f
    rcases hist_cases l0 l0.length with h | ⟨m, m1, m2, m3⟩
    · rw [calls_right (by omega) h]
      have e1 := ref_check_right l0 (by omega) h l0.length 0 (K + 4) (by omega) (by omega)
      have e2 := ref_calls_loop l0 (by omega) l0.length 0 (K + 4) (by omega) (by omega)
      have hlen : (outB l0 l0.length).length ≤ l0.length := by
        unfold outB
        rw [List.length_map]
        exact cnt_le l0 l0.length
      simp only [Int.natCast_zero, questB, List.map_nil] at e1 e2
      simp only [bs, e1, e2, if_true]
      rw [asCalls_all _ (by omega) _ (by omega)]
      simp only [bs]
      rw [same_all _ (by rw [List.length_map]; omega) _ (by rw [List.length_map]; omega)]
      simp
    · rw [calls_wrong (by omega) m1 m2 m3]
      have e1 := ref_check_wrong l0 (by omega) m m1 m2 m3 m 0 (K + 4) (by omega) (by omega)
      simp only [Int.natCast_zero] at e1
      simp only [bs, e1, if_true, if_neg m3]
      rw [asCalls_all _ (by simp) _ (by simp)]
      simp only [bs, List.map_nil]
      rw [same_all _ (by simp) _ (by simp)]
      simp
end Go.Proofs.Ytmdjmfbinjnlcaa.Pure
