/- HistoryCuts: the calls of the beginning of events are the first ones of all their calls, but that those which are answered behind it are not yet: the plain law. -/
import Derived.Test.YtmdjmfbinjnlcaaPx7
import Derived.Laws.Bits64
set_option linter.unusedVariables false
set_option linter.unusedSimpArgs false
namespace Go.Proofs.Ytmdjmfbinjnlcaa.Pure
open Go.RowKit Go.Proofs.Ytmdjmfbinjnlcaa.P Go.Proofs.YtmdjmfbinjnlcaaW.PrintWords Go.Proofs.YtmdjmfbinjnlcaaW.PrintLast
/-! ## What calls tells, said of places alone -/
def ev (L : List S47) (m : Nat) : S47 := L.getD m z47
theorem rd_ev (L : List S47) (m : Nat) : rd_T47 L (m : Int) = ev L m := by
  unfold rd_T47 ev
  rw [Int.toNat_natCast]
/-- The place of the last event of thread T ahead of place i. -/
def lastB (L : List S47) (T : Int) : Nat → Option Nat
  | 0 => none
  | i + 1 => if (ev L i).f0 = T then some i else lastB L T i
/-- The first one's, from place i on, of d places. -/
def nextF (L : List S47) (T : Int) : Nat → Nat → Option Nat
  | _, 0 => none
  | i, d + 1 => if (ev L i).f0 = T then some i else nextF L T (i + 1) d
def nextB (L : List S47) (q m : Nat) : Option Nat := nextF L (ev L q).f0 (q + 1) (m - (q + 1))
def callAt (L : List S47) (m q : Nat) : S45 :=
  match nextB L q m with
  | none => ⟨(ev L q).f0, (ev L q).f2, (ev L q).f3, 0, (q : Int), -1⟩
  | some j => ⟨(ev L q).f0, (ev L q).f2, if (ev L q).f2 = true then (ev L q).f3 else (ev L j).f3, (ev L j).f4, (q : Int), (j : Int)⟩
def questB (L : List S47) : Nat → List Nat
  | 0 => []
  | m + 1 => if (ev L m).f1 = true then questB L m else questB L m ++ [m]
def outB (L : List S47) (m : Nat) : List S45 := (questB L m).map (callAt L m)
def cnt (L : List S47) (m : Nat) : Nat := (questB L m).length
/-- The question that thread T has open at place m. -/
def opens (L : List S47) (T : Int) (m : Nat) : Option Nat := (lastB L T m).bind fun q => if (ev L q).f1 = true then none else some q
def wrongB (L : List S47) (i : Nat) : Int :=
  if (ev L i).f0 < 0 then 4 else if 8 ≤ (ev L i).f0 then 4 else
  match opens L (ev L i).f0 i with
  | none => if (ev L i).f1 = true then 6 else if ¬ (ev L i).f4 = 0 then 3 else if (ev L i).f2 = false ∧ ¬ (ev L i).f3 = 0 then 3 else 0
  | some q => if (ev L i).f1 = true then (if ¬ (ev L i).f2 = (ev L q).f2 then 3 else if ¬ ((ev L i).f4 = 1 ∨ (ev L i).f4 = 2 ∨ (ev L i).f4 = 6 ∨ (ev L i).f4 = 7) then 3 else if ¬ (ev L i).f3 = 0 ∧ ((ev L i).f2 = true ∨ ¬ (ev L i).f4 = 1) then 3 else 0) else 5
theorem lastB_some {L : List S47} {T : Int} {m q : Nat} (h : lastB L T m = some q) : q < m ∧ (ev L q).f0 = T ∧ ∀ j, q < j → j < m → (ev L j).f0 ≠ T := by
  induction m with
  | zero => simp [lastB] at h
  | succ m ih =>
    unfold lastB at h
    by_cases c : (ev L m).f0 = T
    · rw [if_pos c] at h
      obtain rfl := Option.some.inj h
      exact ⟨by omega, c, fun j h1 h2 => by omega⟩
    · rw [if_neg c] at h
      obtain ⟨h1, h2, h3⟩ := ih h
      exact ⟨by omega, h2, fun j j1 j2 => by
        by_cases e : j = m
        · rw [e]; exact c
        · exact h3 j j1 (by omega)⟩
theorem lastB_of {L : List S47} {T : Int} {m q : Nat} (h1 : q < m) (h2 : (ev L q).f0 = T) (h3 : ∀ j, q < j → j < m → (ev L j).f0 ≠ T) : lastB L T m = some q := by
  induction m with
  | zero => omega
  | succ m ih =>
    unfold lastB
    by_cases e : q = m
    · subst e; rw [if_pos h2]
    · rw [if_neg (h3 m (by omega) (by omega))]
      exact ih (by omega) (fun j j1 j2 => h3 j j1 (by omega))
theorem lastB_none {L : List S47} {T : Int} {m : Nat} (h : lastB L T m = none) : ∀ j, j < m → (ev L j).f0 ≠ T := by
  induction m with
  | zero => intro j hj; omega
  | succ m ih =>
    unfold lastB at h
    by_cases c : (ev L m).f0 = T
    · rw [if_pos c] at h; cases h
    · rw [if_neg c] at h
      intro j hj
      by_cases e : j = m
      · rw [e]; exact c
      · exact ih h j (by omega)
theorem nextF_none {L : List S47} {T : Int} {d : Nat} : ∀ {i : Nat}, nextF L T i d = none → ∀ j, i ≤ j → j < i + d → (ev L j).f0 ≠ T := by
  induction d with
  | zero => intro i h j; omega
  | succ d ih =>
    intro i h j h1 h2
    unfold nextF at h
    by_cases c : (ev L i).f0 = T
    · rw [if_pos c] at h; cases h
    · rw [if_neg c] at h
      by_cases e : j = i
      · rw [e]; exact c
      · exact ih h j (by omega) (by omega)
theorem nextF_of_none {L : List S47} {T : Int} {d : Nat} : ∀ {i : Nat}, (∀ j, i ≤ j → j < i + d → (ev L j).f0 ≠ T) → nextF L T i d = none := by
  induction d with
  | zero => intro i h; rfl
  | succ d ih =>
    intro i h
    unfold nextF
    rw [if_neg (h i (by omega) (by omega))]
    exact ih (fun j h1 h2 => h j (by omega) (by omega))
theorem nextF_some {L : List S47} {T : Int} {d : Nat} : ∀ {i j : Nat}, nextF L T i d = some j → i ≤ j ∧ j < i + d ∧ (ev L j).f0 = T ∧ ∀ k, i ≤ k → k < j → (ev L k).f0 ≠ T := by
  induction d with
  | zero => intro i j h; simp [nextF] at h
  | succ d ih =>
    intro i j h
    unfold nextF at h
    by_cases c : (ev L i).f0 = T
    · rw [if_pos c] at h
      obtain rfl := Option.some.inj h
      exact ⟨by omega, by omega, c, fun k h1 h2 => by omega⟩
    · rw [if_neg c] at h
      obtain ⟨h1, h2, h3, h4⟩ := ih h
      exact ⟨by omega, by omega, h3, fun k k1 k2 => by
        by_cases e : k = i
        · rw [e]; exact c
        · exact h4 k (by omega) k2⟩
theorem nextF_of {L : List S47} {T : Int} {d : Nat} : ∀ {i j : Nat}, i ≤ j → j < i + d → (ev L j).f0 = T → (∀ k, i ≤ k → k < j → (ev L k).f0 ≠ T) → nextF L T i d = some j := by
  induction d with
  | zero => intro i j h1 h2; omega
  | succ d ih =>
    intro i j h1 h2 h3 h4
    unfold nextF
    by_cases e : j = i
    · subst e; rw [if_pos h3]
    · rw [if_neg (h4 i (by omega) (by omega))]
      exact ih (by omega) (by omega) h3 (fun k k1 k2 => h4 k (by omega) k2)
theorem nextB_some {L : List S47} {q m j : Nat} (h : nextB L q m = some j) : q < j ∧ j < m ∧ (ev L j).f0 = (ev L q).f0 ∧ ∀ k, q < k → k < j → (ev L k).f0 ≠ (ev L q).f0 := by
  obtain ⟨h1, h2, h3, h4⟩ := nextF_some h
  exact ⟨by omega, by omega, h3, fun k k1 k2 => h4 k (by omega) k2⟩
theorem nextB_of {L : List S47} {q m j : Nat} (h1 : q < j) (h2 : j < m) (h3 : (ev L j).f0 = (ev L q).f0) (h4 : ∀ k, q < k → k < j → (ev L k).f0 ≠ (ev L q).f0) : nextB L q m = some j :=
  nextF_of (by omega) (by omega) h3 (fun k k1 k2 => h4 k (by omega) k2)
theorem nextB_none {L : List S47} {q m : Nat} (h : nextB L q m = none) : ∀ k, q < k → k < m → (ev L k).f0 ≠ (ev L q).f0 :=
  fun k k1 k2 => nextF_none h k (by omega) (by omega)
theorem nextB_of_none {L : List S47} {q m : Nat} (h : ∀ k, q < k → k < m → (ev L k).f0 ≠ (ev L q).f0) : nextB L q m = none :=
  nextF_of_none (fun k k1 k2 => h k (by omega) (by omega))
/-- One more event: what a call's answer is. -/
theorem nextB_succ (L : List S47) {q m : Nat} (hq : q < m) : nextB L q (m + 1) = (nextB L q m).or (if (ev L m).f0 = (ev L q).f0 then some m else none) := by
  cases h : nextB L q m with
  | some j =>
    obtain ⟨h1, h2, h3, h4⟩ := nextB_some h
    rw [Option.some_or]
    exact nextB_of h1 (by omega) h3 h4
  | none =>
    have hn := nextB_none h
    rw [Option.none_or]
    by_cases c : (ev L m).f0 = (ev L q).f0
    · rw [if_pos c]; exact nextB_of hq (by omega) c hn
    · rw [if_neg c]
      refine nextB_of_none (fun k k1 k2 => ?_)
      by_cases e : k = m
      · rw [e]; exact c
      · exact hn k k1 (by omega)
theorem nextB_last {L : List S47} {q m : Nat} (hq : q < m) (h : nextB L q m = none) : lastB L (ev L q).f0 m = some q := lastB_of hq rfl (nextB_none h)
theorem questB_mem {L : List S47} {m q : Nat} : q ∈ questB L m ↔ q < m ∧ (ev L q).f1 = false := by
  induction m with
  | zero => simp [questB]
  | succ m ih =>
    unfold questB
    by_cases c : (ev L m).f1 = true
    · rw [if_pos c, ih]
      constructor
      · rintro ⟨h1, h2⟩; exact ⟨by omega, h2⟩
      · rintro ⟨h1, h2⟩
        refine ⟨?_, h2⟩
        by_cases e : q = m
        · subst e; rw [c] at h2; cases h2
        · omega
    · rw [if_neg c, List.mem_append, ih, List.mem_singleton]
      constructor
      · rintro (⟨h1, h2⟩ | rfl)
        · exact ⟨by omega, h2⟩
        · exact ⟨by omega, by simpa using c⟩
      · rintro ⟨h1, h2⟩
        by_cases e : q = m
        · exact Or.inr e
        · exact Or.inl ⟨by omega, h2⟩
theorem cnt_mono {L : List S47} {a b : Nat} (h : a ≤ b) : cnt L a ≤ cnt L b := by
  induction b with
  | zero => rw [show a = 0 by omega]; exact Nat.le_refl _
  | succ b ih =>
    by_cases e : a = b + 1
    · rw [e]; exact Nat.le_refl _
    · refine Nat.le_trans (ih (by omega)) ?_
      unfold cnt
      rw [questB]
      split
      · exact Nat.le_refl _
      · simp
theorem cnt_succ {L : List S47} {q : Nat} (h : (ev L q).f1 = false) : cnt L (q + 1) = cnt L q + 1 := by
  unfold cnt
  rw [questB, if_neg (by rw [h]; decide), List.length_append]
  rfl
theorem cnt_le (L : List S47) (m : Nat) : cnt L m ≤ m := by
  induction m with
  | zero => exact Nat.le_refl _
  | succ m ih =>
    unfold cnt at *
    rw [questB]
    split
    · omega
    · rw [List.length_append]; simp; omega
theorem questB_at {L : List S47} {m q : Nat} (hq : q < m) (h : (ev L q).f1 = false) : (questB L m)[cnt L q]? = some q := by
  induction m with
  | zero => omega
  | succ m ih =>
    by_cases e : q = m
    · subst e
      rw [questB, if_neg (by rw [h]; decide)]
      unfold cnt
      simp
    · have hk := ih (by omega)
      have hl : cnt L q < (questB L m).length := by
        have := cnt_mono (L := L) (show q + 1 ≤ m by omega)
        rw [cnt_succ h] at this
        exact this
      rw [questB]
      split
      · exact hk
      · rw [List.getElem?_append_left hl]; exact hk
theorem questB_inj {L : List S47} {m q k : Nat} (h : (questB L m)[k]? = some q) : q < m ∧ (ev L q).f1 = false ∧ k = cnt L q := by
  have hm := questB_mem.1 (List.mem_of_getElem? h)
  refine ⟨hm.1, hm.2, ?_⟩
  induction m with
  | zero => omega
  | succ m ih =>
    rw [questB] at h
    by_cases c : (ev L m).f1 = true
    · rw [if_pos c] at h
      exact ih h (questB_mem.1 (List.mem_of_getElem? h))
    · rw [if_neg c] at h
      rcases Nat.lt_or_ge k (questB L m).length with hk | hk
      · rw [List.getElem?_append_left hk] at h
        exact ih h (questB_mem.1 (List.mem_of_getElem? h))
      · rw [List.getElem?_append_right hk] at h
        have e0 : k - (questB L m).length = 0 := by
          rcases Nat.eq_zero_or_pos (k - (questB L m).length) with e | e
          · exact e
          · rw [List.getElem?_eq_none (by simp; omega)] at h; cases h
        rw [e0] at h
        have : q = m := by simpa using h.symm
        subst this
        unfold cnt; omega
theorem opens_some {L : List S47} {T : Int} {m q : Nat} (h : opens L T m = some q) : lastB L T m = some q ∧ (ev L q).f1 = false := by
  unfold opens at h
  obtain ⟨q', h1, h2⟩ := Option.bind_eq_some_iff.1 h
  split at h2
  · cases h2
  · rename_i c
    obtain rfl := Option.some.inj h2
    exact ⟨h1, by simpa using c⟩
theorem opens_of {L : List S47} {T : Int} {m q : Nat} (h : lastB L T m = some q) (h1 : (ev L q).f1 = false) : opens L T m = some q := by
  unfold opens
  rw [h, Option.bind_some, if_neg (by rw [h1]; decide)]
theorem opens_succ_ne {L : List S47} {T : Int} {m : Nat} (h : (ev L m).f0 ≠ T) : opens L T (m + 1) = opens L T m := by
  unfold opens
  rw [lastB, if_neg h]
theorem opens_succ_eq (L : List S47) (m : Nat) : opens L (ev L m).f0 (m + 1) = if (ev L m).f1 = true then none else some m := by
  unfold opens
  rw [lastB, if_pos rfl, Option.bind_some]
/-- What calls has behind m right events. -/
structure At (L : List S47) (m : Nat) (out : List S45) (o : List Int) : Prop where
  len : o.length = 8
  out : out = outB L m
  op : ∀ T : Int, 0 ≤ T → T < 8 → rd o T = match opens L T m with | none => 0 | some q => (cnt L q : Int) + 1
theorem rd_set_eq {o : List Int} {T : Int} (v : Int) (h : T.toNat < o.length) : rd (o.set T.toNat v) T = v := by
  unfold rd
  rw [List.getD_eq_getElem?_getD, List.getElem?_set_self h]
  rfl
theorem rd_set_ne {o : List Int} {T T' : Int} (v : Int) (h : T.toNat ≠ T'.toNat) : rd (o.set T.toNat v) T' = rd o T' := by
  unfold rd
  rw [List.getD_eq_getElem?_getD, List.getElem?_set_ne h, List.getD_eq_getElem?_getD]
theorem outB_at {L : List S47} {m q : Nat} (hq : q < m) (h : (ev L q).f1 = false) : rd_T45 (outB L m) (cnt L q : Int) = callAt L m q := by
  unfold rd_T45 outB
  rw [Int.toNat_natCast, List.getD_eq_getElem?_getD, List.getElem?_map, questB_at hq h]
  rfl
theorem callAt_push (L : List S47) (m q : Nat) : (callAt L m q).f1 = (ev L q).f2 := by
  unfold callAt
  split <;> rfl
theorem callAt_same {L : List S47} {m q : Nat} (hq : q < m) (h : nextB L q m = none → (ev L m).f0 ≠ (ev L q).f0) : callAt L (m + 1) q = callAt L m q := by
  have e : nextB L q (m + 1) = nextB L q m := by
    rw [nextB_succ L hq]
    cases hn : nextB L q m with
    | some j => rfl
    | none => rw [if_neg (h hn), Option.none_or]
  unfold callAt
  rw [e]
theorem At.err {L : List S47} {m : Nat} {out : List S45} {o : List Int} (h : At L m out o) : hist_err (ev L m) out o = wrongB L m := by
  unfold hist_err wrongB
  by_cases c0 : (ev L m).f0 < 0
  · rw [if_pos c0, if_pos c0]
  · by_cases c8 : 8 ≤ (ev L m).f0
    · rw [if_neg c0, if_neg c0, if_pos c8, if_pos c8]
    · rw [if_neg c0, if_neg c0, if_neg c8, if_neg c8]
      have ho := h.op (ev L m).f0 (by omega) (by omega)
      cases hq : opens L (ev L m).f0 m with
      | none =>
        rw [hq] at ho
        simp only at ho ⊢
        rw [ho]
        unfold hist_answersM hist_asksM
        rw [if_pos rfl]
        simp
      | some q =>
        rw [hq] at ho
        simp only at ho ⊢
        obtain ⟨h1, h2⟩ := opens_some hq
        obtain ⟨h3, h4, h5⟩ := lastB_some h1
        have e : (cnt L q : Int) + 1 - 1 = (cnt L q : Int) := by omega
        rw [ho, e, h.out, outB_at h3 h2, callAt_push]
        unfold hist_answersM hist_asksM
        rw [if_neg (show ¬ (cnt L q : Int) + 1 = 0 by omega), if_pos (show 0 < (cnt L q : Int) + 1 by omega)]
theorem wrong_form {L : List S47} {m : Nat} (h : wrongB L m = 0) : 0 ≤ (ev L m).f0 ∧ (ev L m).f0 < 8 ∧
    (((ev L m).f1 = false ∧ opens L (ev L m).f0 m = none ∧ (ev L m).f4 = 0 ∧ ((ev L m).f2 = true ∨ (ev L m).f3 = 0)) ∨
     ((ev L m).f1 = true ∧ ∃ q, opens L (ev L m).f0 m = some q ∧ (ev L m).f2 = (ev L q).f2 ∧ ((ev L m).f4 = 1 ∨ (ev L m).f4 = 2 ∨ (ev L m).f4 = 6 ∨ (ev L m).f4 = 7) ∧ ((ev L m).f3 = 0 ∨ ((ev L m).f2 = false ∧ (ev L m).f4 = 1)))) := by
  unfold wrongB at h
  by_cases c0 : (ev L m).f0 < 0
  · rw [if_pos c0] at h; cases h
  · by_cases c8 : 8 ≤ (ev L m).f0
    · rw [if_neg c0, if_pos c8] at h; cases h
    · rw [if_neg c0, if_neg c8] at h
      refine ⟨by omega, by omega, ?_⟩
      cases hq : opens L (ev L m).f0 m with
      | none =>
        rw [hq] at h
        simp only at h
        by_cases r : (ev L m).f1 = true
        · rw [if_pos r] at h; cases h
        · rw [if_neg r] at h
          by_cases s : (ev L m).f4 = 0
          · rw [if_neg (by simp [s])] at h
            by_cases t : (ev L m).f2 = false ∧ ¬ (ev L m).f3 = 0
            · rw [if_pos t] at h; cases h
            · refine Or.inl ⟨by simpa using r, rfl, s, ?_⟩
              cases hp : (ev L m).f2 with
              | true => exact Or.inl rfl
              | false =>
                right
                by_cases z : (ev L m).f3 = 0
                · exact z
                · exact absurd ⟨hp, z⟩ t
          · rw [if_pos s] at h; cases h
      | some q =>
        rw [hq] at h
        simp only at h
        by_cases r : (ev L m).f1 = true
        · rw [if_pos r] at h
          by_cases p : (ev L m).f2 = (ev L q).f2
          · rw [if_neg (by simp [p])] at h
            by_cases s : (ev L m).f4 = 1 ∨ (ev L m).f4 = 2 ∨ (ev L m).f4 = 6 ∨ (ev L m).f4 = 7
            · rw [if_neg (fun hn => hn s)] at h
              by_cases t : ¬ (ev L m).f3 = 0 ∧ ((ev L m).f2 = true ∨ ¬ (ev L m).f4 = 1)
              · rw [if_pos t] at h; cases h
              · refine Or.inr ⟨r, q, rfl, p, s, ?_⟩
                by_cases z : (ev L m).f3 = 0
                · exact Or.inl z
                · right
                  constructor
                  · cases hp : (ev L m).f2 with
                    | true => exact absurd ⟨z, Or.inl hp⟩ t
                    | false => rfl
                  · by_cases y : (ev L m).f4 = 1
                    · exact y
                    · exact absurd ⟨z, Or.inr y⟩ t
            · rw [if_pos s] at h; cases h
          · rw [if_pos p] at h; cases h
        · rw [if_neg r] at h; cases h
theorem outB_ask {L : List S47} {m : Nat} (h : (ev L m).f1 = false) (ho : opens L (ev L m).f0 m = none) : outB L (m + 1) = outB L m ++ [hist_out (ev L m) (m : Int)] := by
  unfold outB
  rw [questB, if_neg (by rw [h]; decide), List.map_append]
  congr 1
  · refine List.map_congr_left (fun q hq => ?_)
    obtain ⟨h1, h2⟩ := questB_mem.1 hq
    refine callAt_same h1 (fun hn e => ?_)
    have := opens_of (nextB_last h1 hn) h2
    rw [← e, ho] at this
    cases this
  · have e : nextB L m (m + 1) = none := nextB_of_none (fun k k1 k2 => by omega)
    simp only [List.map_cons, List.map_nil, callAt, e]
    rfl
theorem outB_ans {L : List S47} {m q : Nat} (h : (ev L m).f1 = true) (ho : opens L (ev L m).f0 m = some q) (hp : (ev L m).f2 = (ev L q).f2) : outB L (m + 1) = (outB L m).set (cnt L q) (hist_end (callAt L m q) (ev L m) (m : Int)) := by
  obtain ⟨h1, h2⟩ := opens_some ho
  obtain ⟨h3, h4, h5⟩ := lastB_some h1
  unfold outB
  rw [questB, if_pos h]
  refine List.ext_getElem? (fun k => ?_)
  rw [List.getElem?_map]
  by_cases e : cnt L q = k
  · subst e
    have hl : cnt L q < ((questB L m).map (callAt L m)).length := by
      rw [List.length_map]
      exact (List.getElem?_eq_some_iff.1 (questB_at h3 h2)).1
    rw [List.getElem?_set_self hl, questB_at h3 h2]
    have n0 : nextB L q m = none := nextB_of_none (fun j j1 j2 => by rw [h4]; exact h5 j j1 j2)
    have n1 : nextB L q (m + 1) = some m := by
      rw [nextB_succ L h3, n0, Option.none_or, if_pos h4.symm]
    simp only [Option.map_some, callAt, n0, n1, hist_end, hp]
  · rw [List.getElem?_set_ne e, List.getElem?_map]
    cases hk : (questB L m)[k]? with
    | none => rfl
    | some p =>
      obtain ⟨p1, p2, p3⟩ := questB_inj hk
      simp only [Option.map_some]
      congr 1
      refine callAt_same p1 (fun hn e' => ?_)
      have := opens_of (nextB_last p1 hn) p2
      rw [← e', ho] at this
      obtain rfl := Option.some.inj this
      exact e p3.symm
theorem At.ask {L : List S47} {m : Nat} {out : List S45} {o : List Int} (h : At L m out o) (h0 : 0 ≤ (ev L m).f0) (h8 : (ev L m).f0 < 8) (hr : (ev L m).f1 = false) (ho : opens L (ev L m).f0 m = none) :
    At L (m + 1) (out ++ [hist_out (ev L m) (m : Int)]) (o.set (ev L m).f0.toNat ((out.length : Int) + 1)) := by
  refine ⟨by rw [List.length_set]; exact h.len, by rw [h.out]; exact (outB_ask hr ho).symm, fun T t0 t8 => ?_⟩
  by_cases e : (ev L m).f0 = T
  · subst e
    rw [rd_set_eq _ (by have := h.len; omega), opens_succ_eq, if_neg (by rw [hr]; decide), h.out]
    unfold outB cnt
    rw [List.length_map]
  · rw [rd_set_ne _ (by omega), opens_succ_ne e]
    exact h.op T t0 t8
theorem At.ans {L : List S47} {m q : Nat} {out : List S45} {o : List Int} (h : At L m out o) (h0 : 0 ≤ (ev L m).f0) (h8 : (ev L m).f0 < 8) (hr : (ev L m).f1 = true) (ho : opens L (ev L m).f0 m = some q) (hp : (ev L m).f2 = (ev L q).f2) :
    At L (m + 1) (out.set (rd o (ev L m).f0 - 1).toNat (hist_end (rd_T45 out (rd o (ev L m).f0 - 1)) (ev L m) (m : Int))) (o.set (ev L m).f0.toNat 0) := by
  obtain ⟨h1, h2⟩ := opens_some ho
  obtain ⟨h3, h4, h5⟩ := lastB_some h1
  have hx := h.op _ h0 h8
  rw [ho] at hx
  simp only at hx
  have e : (cnt L q : Int) + 1 - 1 = (cnt L q : Int) := by omega
  refine ⟨by rw [List.length_set]; exact h.len, ?_, fun T t0 t8 => ?_⟩
  · rw [hx, e, h.out, outB_at h3 h2, Int.toNat_natCast]
    exact (outB_ans hr ho hp).symm
  · by_cases e : (ev L m).f0 = T
    · subst e
      rw [rd_set_eq _ (by have := h.len; omega), opens_succ_eq, if_pos hr]
    · rw [rd_set_ne _ (by omega), opens_succ_ne e]
      exact h.op T t0 t8
theorem ev_drop {L : List S47} {i : Nat} (h : i < L.length) : L.drop i = ev L i :: L.drop (i + 1) := by
  rw [List.drop_eq_getElem_cons h]
  congr 1
  unfold ev
  simp [h]
theorem hist_go_cons (n : Int) (e : S47) (l : List S47) (i : Int) (out : List S45) (o : List Int) : hist_go n (e :: l) i out o = if ¬ hist_err e out o = 0 then ([], i, hist_err e out o)
    else if e.f1 = true then hist_go n l (i + 1) (out.set (rd o e.f0 - 1).toNat (hist_end (rd_T45 out (rd o e.f0 - 1)) e i)) (o.set e.f0.toNat 0)
    else hist_go n l (i + 1) (out ++ [hist_out e i]) (o.set e.f0.toNat ((out.length : Int) + 1)) := rfl
/-- The events up to place m are right: then calls goes on from there with what is said of places. -/
theorem go_right {L : List S47} {m : Nat} (hm : m ≤ L.length) (h : ∀ i, i < m → wrongB L i = 0) : ∃ out o, At L m out o ∧ hist_go (L.length : Int) L 0 ([] : List S45) [0, 0, 0, 0, 0, 0, 0, 0] = hist_go (L.length : Int) (L.drop m) (m : Int) out o := by
  induction m with
  | zero =>
    refine ⟨[], [0, 0, 0, 0, 0, 0, 0, 0], ⟨rfl, rfl, fun T _ _ => ?_⟩, rfl⟩
    rw [hist_rd_zero]
    rfl
  | succ m ih =>
    obtain ⟨out, o, ha, hg⟩ := ih (by omega) (fun i hi => h i (by omega))
    have hw := h m (by omega)
    rw [ev_drop (by omega)] at hg
    rw [hist_go_cons] at hg
    rw [if_neg (by rw [ha.err, hw]; simp)] at hg
    obtain ⟨f0, f8, hf⟩ := wrong_form hw
    rcases hf with ⟨hr, ho, _⟩ | ⟨hr, q, ho, hp, _⟩
    · rw [if_neg (by rw [hr]; decide)] at hg
      refine ⟨_, _, ha.ask f0 f8 hr ho, ?_⟩
      push_cast
      exact hg
    · rw [if_pos hr] at hg
      refine ⟨_, _, ha.ans f0 f8 hr ho hp, ?_⟩
      push_cast
      exact hg
/-- All events are right. -/
theorem calls_right {L : List S47} (hl : L.length < 2932031007402) (h : ∀ i, i < L.length → wrongB L i = 0) : history_calls.f L = some (outB L L.length, (L.length : Int), 0) := by
  obtain ⟨out, o, ha, hg⟩ := go_right (Nat.le_refl _) h
  unfold history_calls.f
  rw [if_pos hl, hg, List.drop_length, ha.out]
  rfl
/-- The first wrong event is the one at m. -/
theorem calls_wrong {L : List S47} {m : Nat} (hl : L.length < 2932031007402) (hm : m < L.length) (h : ∀ i, i < m → wrongB L i = 0) (hw : wrongB L m ≠ 0) : history_calls.f L = some ([], (m : Int), wrongB L m) := by
  obtain ⟨out, o, ha, hg⟩ := go_right (Nat.le_of_lt hm) h
  unfold history_calls.f
  rw [if_pos hl, hg, ev_drop hm]
  rw [hist_go_cons, ha.err, if_pos hw]
theorem bs {α β : Type} (x : α) (f : α → Option β) : (some x).bind f = f x := by rw [Option.bind_some]
theorem w_nat (n : Nat) (h : n < 9223372036854775807) : wrap64 ((n : Int) + 1) = ((n + 1 : Nat) : Int) := by unfold wrap64; push_cast; omega
def c45 (x : S45) : S55 := ⟨x.f0, x.f1, x.f2, x.f3, x.f4, x.f5⟩
theorem asCalls_loop (C : List S45) (hC : C.length < 2932031007402) (d : Nat) : ∀ (i k : Nat) (acc : List S55), i + d = C.length → d < k → acc.length = i → hatstandlaw14_asCalls.l0 k C acc (i : Int) = some (acc ++ (C.drop i).map c45) := by
  induction d with
  | zero =>
    intro i k acc h hk ha
    obtain ⟨k, rfl⟩ : ∃ k', k = k' + 1 := ⟨k - 1, by omega⟩
    rw [hatstandlaw14_asCalls.l0, if_neg (by omega), List.drop_eq_nil_of_le (by omega)]
    simp
  | succ d ih =>
    intro i k acc h hk ha
    obtain ⟨k, rfl⟩ : ∃ k', k = k' + 1 := ⟨k - 1, by omega⟩
    have e : C.drop i = rd_T45 C (i : Int) :: C.drop (i + 1) := by
      rw [List.drop_eq_getElem_cons (show i < C.length by omega)]
      congr 1
      unfold rd_T45
      simp [show i < C.length by omega]
    rw [hatstandlaw14_asCalls.l0, if_pos (by omega), if_pos (by omega), if_pos (by omega), w_nat i (by omega), ih (i + 1) k _ (by omega) (by omega) (by rw [List.length_append]; simp; omega), e, List.map_cons, List.append_assoc]
    rfl
theorem asCalls_all (C : List S45) (hC : C.length < 2932031007402) (k : Nat) (hk : C.length < k) : hatstandlaw14_asCalls.f k C = some (C.map c45) := by
  unfold hatstandlaw14_asCalls.f
  have := asCalls_loop C hC C.length 0 k [] (by omega) hk rfl
  simpa using this
theorem same_loop (C : List S55) (hC : C.length < 9223372036854775807) (d : Nat) : ∀ (i k : Nat), i + d = C.length → d < k → hatstandref14_Same.l0 k C C (i : Int) = some true := by
  induction d with
  | zero =>
    intro i k h hk
    obtain ⟨k, rfl⟩ : ∃ k', k = k' + 1 := ⟨k - 1, by omega⟩
    rw [hatstandref14_Same.l0, if_neg (by omega)]
  | succ d ih =>
    intro i k h hk
    obtain ⟨k, rfl⟩ : ∃ k', k = k' + 1 := ⟨k - 1, by omega⟩
    rw [hatstandref14_Same.l0, if_pos (by omega), if_pos (by omega), if_pos (by omega), if_neg (by simp), w_nat i (by omega)]
    exact ih (i + 1) k (by omega) (by omega)
theorem same_all (C : List S55) (hC : C.length < 9223372036854775807) (k : Nat) (hk : C.length < k) : hatstandref14_Same.f k C C = some true := by
  unfold hatstandref14_Same.f
  rw [if_pos rfl]
  exact same_loop C hC C.length 0 k (by omega) hk
theorem hist_shown (k : Nat) : hatstandlaw14_shown.f (k + 4) = some true := by
  have h1 : history_calls.f [(⟨0, false, true, 5, 0⟩ : S47), (⟨1, false, false, 0, 0⟩ : S47), (⟨0, true, true, 0, 1⟩ : S47), (⟨1, true, false, 5, 1⟩ : S47)] = some ([(⟨0, true, 5, 1, 0, 2⟩ : S45), (⟨1, false, 5, 1, 1, 3⟩ : S45)], 4, 0) := by rfl
  have h2 : history_calls.f [(⟨9, false, false, 0, 0⟩ : S47)] = some ([], 0, 4) := by rfl
  unfold hatstandlaw14_shown.f history_Calls.f history_Check.f
  rw [h1, h2]
  simp only [bs, if_true]
  rw [asCalls_all _ (by decide) _ (by simp)]
  simp only [bs]
  have e : ([(⟨0, true, 5, 1, 0, 2⟩ : S45), (⟨1, false, 5, 1, 1, 3⟩ : S45)].map c45) = [(⟨0, true, 5, 1, 0, 2⟩ : S55), (⟨1, false, 5, 1, 1, 3⟩ : S55)] := rfl
  rw [e, same_all _ (by decide) _ (by simp), bs]
theorem wf_i64 {x : Int} (h : (Lit.int .i64 x).wf = true) : -9223372036854775808 ≤ x ∧ x ≤ 9223372036854775807 := by
  simp [Lit.wf, IntKind.min, IntKind.max, IntKind.signed, IntKind.bits] at h; omega
theorem pick_some (c n : Int) (hn : 0 < n) (h0 : -9223372036854775808 ≤ c) (h1 : c ≤ 9223372036854775807) : ∃ r, hatstandlaw14_pick.f c n = some r ∧ 0 ≤ r ∧ r < n := by
  unfold hatstandlaw14_pick.f
  by_cases h : c < 0
  · rw [if_pos h, if_neg (by omega)]
    have e : wrap64 (-(wrap64 (c + 1))) = -(c + 1) := by unfold wrap64; omega
    rw [e, Int.tmod_eq_emod_of_nonneg (by omega)]
    exact ⟨_, rfl, Int.emod_nonneg _ (by omega), Int.emod_lt_of_pos _ hn⟩
  · rw [if_neg h, if_neg (by omega), Int.tmod_eq_emod_of_nonneg (by omega)]
    exact ⟨_, rfl, Int.emod_nonneg _ (by omega), Int.emod_lt_of_pos _ hn⟩
/-! ### What is ahead of a place is all that counts there -/
theorem lastB_congr {L L' : List S47} {T : Int} (m : Nat) (h : ∀ j, j < m → ev L' j = ev L j) : lastB L' T m = lastB L T m := by
  induction m with
  | zero => rfl
  | succ m ih =>
    unfold lastB
    rw [h m (by omega), ih (fun j hj => h j (by omega))]
theorem opens_congr {L L' : List S47} {T : Int} {m : Nat} (h : ∀ j, j < m → ev L' j = ev L j) : opens L' T m = opens L T m := by
  unfold opens
  rw [lastB_congr m h]
  cases hq : lastB L T m with
  | none => rfl
  | some q =>
    simp only [Option.bind_some]
    rw [h q (lastB_some hq).1]
theorem wrongB_congr {L L' : List S47} {m : Nat} (h : ∀ j, j ≤ m → ev L' j = ev L j) : wrongB L' m = wrongB L m := by
  unfold wrongB
  rw [h m (Nat.le_refl m), opens_congr (fun j hj => h j (by omega))]
  cases hq : opens L (ev L m).f0 m with
  | none => rfl
  | some q =>
    simp only
    rw [h q (by have := (lastB_some (opens_some hq).1).1; omega)]
theorem ev_app {L : List S47} (e : S47) {j : Nat} (h : j < L.length) : ev (L ++ [e]) j = ev L j := by
  unfold ev
  rw [List.getD_eq_getElem?_getD, List.getD_eq_getElem?_getD, List.getElem?_append_left h]
theorem ev_new (L : List S47) (e : S47) : ev (L ++ [e]) L.length = e := by
  unfold ev
  rw [List.getD_eq_getElem?_getD, List.getElem?_append_right (Nat.le_refl _)]
  simp
theorem right_app {L : List S47} (e : S47) (h : ∀ i, i < L.length → wrongB L i = 0) (he : wrongB (L ++ [e]) L.length = 0) : ∀ i, i < (L ++ [e]).length → wrongB (L ++ [e]) i = 0 := by
  intro i hi
  rw [List.length_append] at hi
  simp only [List.length_cons, List.length_nil] at hi
  by_cases c : i = L.length
  · rw [c]; exact he
  · rw [wrongB_congr (L := L) (fun j hj => ev_app e (by omega))]
    exact h i (by omega)
/-- What events made so far, and which are open. -/
structure Made (L : List S47) (o : List Int) : Prop where
  len : o.length = 8
  right : ∀ i, i < L.length → wrongB L i = 0
  op : ∀ T : Int, 0 ≤ T → T < 8 → rd o T = match opens L T L.length with | none => 0 | some q => (q : Int) + 1
theorem Made.ask {L : List S47} {o : List Int} (h : Made L o) (t V : Int) (P : Bool) (h0 : 0 ≤ t) (h8 : t < 8) (ho : rd o t = 0) (hv : P = false → V = 0) :
    Made (L ++ [⟨t, false, P, V, 0⟩]) (o.set t.toNat (((L ++ [(⟨t, false, P, V, 0⟩ : S47)]).length : Nat) : Int)) := by
  have hop : opens L t L.length = none := by
    have := h.op t h0 h8
    cases hq : opens L t L.length with
    | none => rfl
    | some q => rw [hq, ho] at this; simp only at this; omega
  have e1 : opens (L ++ [(⟨t, false, P, V, 0⟩ : S47)]) t L.length = none := by rw [opens_congr (fun j hj => ev_app _ hj)]; exact hop
  refine ⟨by rw [List.length_set]; exact h.len, right_app _ h.right ?_, fun T t0 t8 => ?_⟩
  · unfold wrongB
    rw [ev_new, if_neg (by show ¬ t < 0; omega), if_neg (by show ¬ 8 ≤ t; omega)]
    simp only [e1]
    cases P
    · simp [hv rfl]
    · simp
  · have hl : (L ++ [(⟨t, false, P, V, 0⟩ : S47)]).length = L.length + 1 := by simp
    by_cases e : t = T
    · subst e
      rw [rd_set_eq _ (by have := h.len; omega), hl]
      have := opens_succ_eq (L ++ [(⟨t, false, P, V, 0⟩ : S47)]) L.length
      rw [ev_new] at this
      simp only [Bool.false_eq_true, if_false] at this
      rw [this]
      push_cast
      rfl
    · rw [rd_set_ne _ (by omega), hl, opens_succ_ne (by rw [ev_new]; exact e), opens_congr (fun j hj => ev_app _ hj)]
      exact h.op T t0 t8
theorem Made.ans {L : List S47} {o : List Int} (h : Made L o) (t V St : Int) (h0 : 0 ≤ t) (h8 : t < 8) (q : Nat) (ho : opens L t L.length = some q) (hs : St = 1 ∨ St = 2 ∨ St = 6) (hv : V = 0 ∨ ((ev L q).f2 = false ∧ St = 1)) :
    Made (L ++ [⟨t, true, (ev L q).f2, V, St⟩]) (o.set t.toNat 0) := by
  have hq := (lastB_some (opens_some ho).1).1
  have e1 : opens (L ++ [(⟨t, true, (ev L q).f2, V, St⟩ : S47)]) t L.length = some q := by rw [opens_congr (fun j hj => ev_app _ hj)]; exact ho
  refine ⟨by rw [List.length_set]; exact h.len, right_app _ h.right ?_, fun T t0 t8 => ?_⟩
  · unfold wrongB
    rw [ev_new, if_neg (by show ¬ t < 0; omega), if_neg (by show ¬ 8 ≤ t; omega)]
    simp only [e1, if_true]
    rw [ev_app _ hq, if_neg (by simp), if_neg (fun hn => hn (by rcases hs with s | s | s <;> simp [s])), if_neg (by
      rintro ⟨h1, h2⟩
      rcases hv with v | ⟨v1, v2⟩
      · exact h1 v
      · rcases h2 with w | w
        · rw [v1] at w; cases w
        · exact w v2)]
  · have hl : (L ++ [(⟨t, true, (ev L q).f2, V, St⟩ : S47)]).length = L.length + 1 := by simp
    by_cases e : t = T
    · subst e
      rw [rd_set_eq _ (by have := h.len; omega), hl]
      have := opens_succ_eq (L ++ [(⟨t, true, (ev L q).f2, V, St⟩ : S47)]) L.length
      rw [ev_new] at this
      simp only [if_true] at this
      rw [this]
    · rw [rd_set_ne _ (by omega), hl, opens_succ_ne (by rw [ev_new]; exact e), opens_congr (fun j hj => ev_app _ hj)]
      exact h.op T t0 t8
theorem events_loop (l : List S61) (hl : l.length < 1000000) (hw : ∀ i : Nat, i < l.length → (Lit.int .i64 (rd_T61 l i).f0).wf = true ∧ (Lit.int .i64 (rd_T61 l i).f1).wf = true) (d : Nat) :
    ∀ (i k : Nat) (L : List S47) (o : List Int), i + d = l.length → 2 * d + 1 ≤ k → L.length = i → Made L o → ∃ E, hatstandlaw14_events.l0 k l L o (i : Int) = some E ∧ E.length = l.length ∧ ∀ i, i < E.length → wrongB E i = 0 := by
  induction d with
  | zero =>
    intro i k L o hi hk hL hm
    obtain ⟨k, rfl⟩ : ∃ k', k = k' + 1 := ⟨k - 1, by omega⟩
    rw [hatstandlaw14_events.l0, if_neg (by omega)]
    exact ⟨L, rfl, by omega, hm.right⟩
  | succ d ih =>
    intro i k L o hi hk hL hm
    obtain ⟨k, rfl⟩ : ∃ k', k = k' + 2 := ⟨k - 2, by omega⟩
    obtain ⟨w0, w1⟩ := hw i (by omega)
    have b0 := wf_i64 w0
    have b1 := wf_i64 w1
    obtain ⟨t, ht, t0, t8⟩ := pick_some (rd_T61 l i).f0 8 (by decide) b0.1 b0.2
    obtain ⟨c, hc, c0, c4⟩ := pick_some (rd_T61 l i).f1 4 (by decide) b1.1 b1.2
    have hlen := hm.len
    rw [hatstandlaw14_events.l0, if_pos (by omega), if_pos (by omega), ht, bs, if_pos t0, if_pos (by omega), w_nat i (by omega)]
    have hop := hm.op t t0 t8
    cases ho : opens L t L.length with
    | none =>
      rw [ho] at hop
      simp only at hop
      rw [if_pos hop]
      cases p : (rd_T61 l i).f2
      · rw [if_neg (by decide), if_pos (by omega)]
        simp only [bs]
        exact ih (i + 1) (k + 1) _ _ (by omega) (by omega) (by rw [List.length_append]; simp; omega) (hm.ask t 0 false t0 t8 hop (fun _ => rfl))
      · rw [if_pos rfl, if_pos (by omega)]
        simp only [bs]
        exact ih (i + 1) (k + 1) _ _ (by omega) (by omega) (by rw [List.length_append]; simp; omega) (hm.ask t _ true t0 t8 hop (fun h => by cases h))
    | some q =>
      have hq := (lastB_some (opens_some ho).1).1
      have ho' := ho
      rw [ho] at hop
      simp only at hop
      have e1 : wrap64 (rd o t - 1) = (q : Int) := by rw [hop]; unfold wrap64; omega
      rw [if_neg (by omega), e1, if_pos (by omega), if_pos (by omega)]
      simp only [bs]
      rw [hc, bs, if_pos c0, if_pos (by exact c4)]
      have hs : rd [1, 1, 2, 6] c = 1 ∨ rd [1, 1, 2, 6] c = 2 ∨ rd [1, 1, 2, 6] c = 6 := by
        rcases (show c = 0 ∨ c = 1 ∨ c = 2 ∨ c = 3 by omega) with rfl | rfl | rfl | rfl
        · exact Or.inl rfl
        · exact Or.inl rfl
        · exact Or.inr (Or.inl rfl)
        · exact Or.inr (Or.inr rfl)
      generalize rd [1, 1, 2, 6] c = St at hs
      rw [rd_ev]
      have step : ∀ V : Int, (V = 0 ∨ ((ev L q).f2 = false ∧ St = 1)) → ∃ E, hatstandlaw14_events.l0 k l (L ++ [(⟨t, true, (ev L q).f2, V, St⟩ : S47)]) (o.set t.toNat 0) ((i + 1 : Nat) : Int) = some E ∧ E.length = l.length ∧ ∀ i, i < E.length → wrongB E i = 0 := by
        intro V hV
        exact ih (i + 1) k _ _ (by omega) (by omega) (by rw [List.length_append]; simp; omega) (hm.ans t V St t0 t8 q ho' hs hV)
      have no : ∃ E, hatstandlaw14_events.j1 (k + 1) l L o (i : Int) t false t true (ev L q).f2 0 St = some E ∧ E.length = l.length ∧ ∀ i, i < E.length → wrongB E i = 0 := by
        rw [hatstandlaw14_events.j1, if_neg (by decide), if_pos (by omega), if_pos t0, if_pos (by omega), w_nat i (by omega)]
        exact step 0 (Or.inl rfl)
      cases p : (ev L q).f2
      · rw [if_neg (by decide)]
        rw [p] at no
        by_cases s : St = 1
        · rw [show (St == 1) = true by simp [s], hatstandlaw14_events.j1, if_pos rfl, if_pos (by omega), if_pos (by omega), if_pos (by omega), if_pos t0, if_pos (by omega), w_nat i (by omega)]
          have := step (rd_T61 l i).f3 (Or.inr ⟨p, s⟩)
          rw [p] at this
          exact this
        · rw [show (St == 1) = false by simp [s]]
          exact no
      · rw [if_pos rfl]
        rw [p] at no
        exact no
theorem events_all (l : List S61) (hl : l.length < 1000000) (hw : ∀ x ∈ l, (Lit.int .i64 x.f0).wf = true ∧ (Lit.int .i64 x.f1).wf = true ∧ (Lit.int .u64 x.f3).wf = true) (k : Nat) (hk : 2 * l.length + 1 ≤ k) :
    ∃ E, hatstandlaw14_events.f k l = some E ∧ E.length = l.length ∧ ∀ i, i < E.length → wrongB E i = 0 := by
  unfold hatstandlaw14_events.f
  rw [if_pos (by decide)]
  refine events_loop l hl (fun i hi => ?_) l.length 0 k [] (List.replicate 8 0) (by omega) hk rfl ⟨rfl, fun i hi => by simp at hi, fun T t0 t8 => ?_⟩
  · have hm : rd_T61 l (i : Int) ∈ l := by
      unfold rd_T61
      rw [Int.toNat_natCast, List.getD_eq_getElem?_getD, List.getElem?_eq_getElem hi]
      exact List.getElem_mem _
    exact ⟨(hw _ hm).1, (hw _ hm).2.1⟩
  · rw [show (List.replicate 8 (0 : Int)) = [0, 0, 0, 0, 0, 0, 0, 0] from rfl, hist_rd_zero]
    rfl
theorem nextB_congr {L L' : List S47} {q m : Nat} (hq : q < m) (h : ∀ j, j < m → ev L' j = ev L j) : nextB L' q m = nextB L q m := by
  cases hn : nextB L q m with
  | none =>
    have := nextB_none hn
    exact nextB_of_none (fun k h1 h2 => by rw [h k h2, h q hq]; exact this k h1 h2)
  | some j =>
    obtain ⟨h1, h2, h3, h4⟩ := nextB_some hn
    exact nextB_of h1 h2 (by rw [h j h2, h q hq]; exact h3) (fun k k1 k2 => by rw [h k (by omega), h q hq]; exact h4 k k1 k2)
theorem callAt_congr {L L' : List S47} {q m : Nat} (hq : q < m) (h : ∀ j, j < m → ev L' j = ev L j) : callAt L' m q = callAt L m q := by
  unfold callAt
  rw [nextB_congr hq h, h q hq]
  cases hn : nextB L q m with
  | none => rfl
  | some j => simp only; rw [h j (nextB_some hn).2.1]
theorem questB_congr {L L' : List S47} (m : Nat) (h : ∀ j, j < m → ev L' j = ev L j) : questB L' m = questB L m := by
  induction m with
  | zero => rfl
  | succ m ih =>
    unfold questB
    rw [h m (by omega), ih (fun j hj => h j (by omega))]
theorem outB_congr {L L' : List S47} (m : Nat) (h : ∀ j, j < m → ev L' j = ev L j) : outB L' m = outB L m := by
  unfold outB
  rw [questB_congr m h]
  exact List.map_congr_left (fun q hq => callAt_congr (questB_mem.1 hq).1 h)
theorem ev_take {L : List S47} {k j : Nat} (h : j < k) : ev (L.take k) j = ev L j := by
  unfold ev
  rw [List.getD_eq_getElem?_getD, List.getElem?_take, if_pos h, ← List.getD_eq_getElem?_getD]
/-- A call, and the same one where its events are cut at p. -/
def CutOK (p : Int) (c d : S45) : Prop :=
  ((p ≤ c.f5 ∨ c.f5 < 0) → (c.f1 = true → d.f2 = c.f2) ∧ (c.f1 = false → d.f2 = 0) ∧ d = ⟨c.f0, c.f1, d.f2, 0, c.f4, -1⟩) ∧ (¬ (p ≤ c.f5 ∨ c.f5 < 0) → d = c)
theorem cut_call {E : List S47} {k q : Nat} (hr : ∀ i, i < E.length → wrongB E i = 0) (hk : k ≤ E.length) (hq : q < k) (h1 : (ev E q).f1 = false) : CutOK (k : Int) (callAt E E.length q) (callAt E k q) := by
  have hv : (ev E q).f2 = false → (ev E q).f3 = 0 := by
    intro hp
    rcases (wrong_form (hr q (by omega))).2.2 with ⟨_, _, _, h⟩ | ⟨h, _⟩
    · rcases h with h | h
      · rw [hp] at h; cases h
      · exact h
    · rw [h1] at h; cases h
  cases hn : nextB E q E.length with
  | none =>
    have hn2 : nextB E q k = none := nextB_of_none (fun j j1 j2 => nextB_none hn j j1 (by omega))
    have e1 : callAt E E.length q = ⟨(ev E q).f0, (ev E q).f2, (ev E q).f3, 0, (q : Int), -1⟩ := by unfold callAt; rw [hn]
    have e2 : callAt E k q = ⟨(ev E q).f0, (ev E q).f2, (ev E q).f3, 0, (q : Int), -1⟩ := by unfold callAt; rw [hn2]
    rw [e1, e2]
    exact ⟨fun _ => ⟨fun _ => rfl, hv, rfl⟩, fun _ => rfl⟩
  | some j =>
    obtain ⟨j1, j2, j3, j4⟩ := nextB_some hn
    have e1 : callAt E E.length q = ⟨(ev E q).f0, (ev E q).f2, if (ev E q).f2 = true then (ev E q).f3 else (ev E j).f3, (ev E j).f4, (q : Int), (j : Int)⟩ := by unfold callAt; rw [hn]
    by_cases hj : j < k
    · have hn2 : nextB E q k = some j := nextB_of j1 hj j3 j4
      have e2 : callAt E k q = callAt E E.length q := by rw [e1]; unfold callAt; rw [hn2]
      rw [e2, e1]
      exact ⟨fun h => absurd h (by simp only; omega), fun _ => rfl⟩
    · have hn2 : nextB E q k = none := nextB_of_none (fun m m1 m2 => j4 m m1 (by omega))
      have e2 : callAt E k q = ⟨(ev E q).f0, (ev E q).f2, (ev E q).f3, 0, (q : Int), -1⟩ := by unfold callAt; rw [hn2]
      rw [e1, e2]
      exact ⟨fun _ => ⟨fun hp => by simp only at hp ⊢; rw [if_pos hp], hv, rfl⟩, fun h => absurd (Or.inl (by simp only; omega)) h⟩
theorem callAt_f4 (E : List S47) (m q : Nat) : (callAt E m q).f4 = (q : Int) := by
  unfold callAt
  split <;> rfl
/-- All that the law asks. -/
theorem cuts_pure (l0 : List S61) (a1 : Int) (hl : l0.length ≤ 100) (hw : ∀ x ∈ l0, (Lit.int .i64 x.f0).wf = true ∧ (Lit.int .i64 x.f1).wf = true ∧ (Lit.int .u64 x.f3).wf = true) (ha : (Lit.int .i64 a1).wf = true) :
    ∃ (K : Nat) (E : List S47) (p : Nat) (C D : List S45), hatstandlaw14_shown.f K = some true ∧ hatstandlaw14_events.f K l0 = some E ∧ E.length ≤ 100 ∧ hatstandlaw14_pick.f a1 ((E.length : Int) + 1) = some (p : Int) ∧ p ≤ E.length ∧ history_Calls.f E = some (C, 0) ∧ history_Calls.f (E.take p) = some (D, 0) ∧
      D.length ≤ C.length ∧ C.length ≤ 100 ∧ ∀ i : Nat, i < C.length → (decide ((rd_T45 C (i : Int)).f4 < (p : Int)) = decide (i < D.length)) ∧ (i < D.length → CutOK (p : Int) (rd_T45 C (i : Int)) (rd_T45 D (i : Int))) := by
  obtain ⟨E, hE, hlen, hr⟩ := events_all l0 (by omega) hw (2 * l0.length + 5) (by omega)
  obtain ⟨r, hp, hp0, hp1⟩ := pick_some a1 ((E.length : Int) + 1) (by omega) (wf_i64 ha).1 (wf_i64 ha).2
  obtain ⟨p, rfl⟩ : ∃ p : Nat, r = (p : Int) := ⟨r.toNat, by omega⟩
  have hpE : p ≤ E.length := by omega
  have hlt : (E.take p).length = p := by simp; omega
  have hev : ∀ j, j < p → ev (E.take p) j = ev E j := fun j hj => ev_take hj
  have c1 := calls_right (L := E) (by omega) hr
  have c2 := calls_right (L := E.take p) (by omega) (fun i hi => by rw [wrongB_congr (L := E) (fun j hj => hev j (by omega))]; exact hr i (by omega))
  rw [hlt, outB_congr p hev] at c2
  have hC : (outB E E.length).length = cnt E E.length := by unfold outB cnt; rw [List.length_map]
  have hD : (outB E p).length = cnt E p := by unfold outB cnt; rw [List.length_map]
  refine ⟨2 * l0.length + 5, E, p, outB E E.length, outB E p, by rw [show 2 * l0.length + 5 = (2 * l0.length + 1) + 4 by omega]; exact hist_shown _, hE, by omega, hp, hpE, ?_, ?_, ?_, ?_, ?_⟩
  · unfold history_Calls.f; rw [c1]; rfl
  · unfold history_Calls.f; rw [c2]; rfl
  · rw [hC, hD]; exact cnt_mono hpE
  · rw [hC]; have := cnt_le E E.length; omega
  · intro i hi
    rw [hC] at hi
    obtain ⟨q, hq⟩ : ∃ q, (questB E E.length)[i]? = some q := ⟨_, List.getElem?_eq_getElem hi⟩
    obtain ⟨hq1, hq2, rfl⟩ := questB_inj hq
    rw [outB_at hq1 hq2, callAt_f4, hD]
    by_cases hqp : q < p
    · have h1 : cnt E q < cnt E p := by have := cnt_mono (L := E) (show q + 1 ≤ p by omega); rw [cnt_succ hq2] at this; omega
      refine ⟨by rw [decide_eq_true h1, decide_eq_true (by omega)], fun _ => ?_⟩
      rw [outB_at hqp hq2]
      exact cut_call hr hpE hqp hq2
    · have h1 : ¬ cnt E q < cnt E p := by have := cnt_mono (L := E) (show p ≤ q by omega); omega
      exact ⟨by rw [decide_eq_false h1, decide_eq_false (by omega)], fun h => absurd h h1⟩
end Go.Proofs.Ytmdjmfbinjnlcaa.Pure
