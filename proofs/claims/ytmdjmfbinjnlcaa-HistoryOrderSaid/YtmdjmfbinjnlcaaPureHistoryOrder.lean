/- HistoryOrder: no call is ahead of itself, ahead is an order, calls of one thread stand in it, and alone is where each is ahead of all behind it: for every input. -/
import Derived.Test.YtmdjmfbinjnlcaaPx12
import Derived.Laws.Bits64
set_option linter.unusedVariables false
set_option linter.unusedSimpArgs false
namespace Go.Proofs.Ytmdjmfbinjnlcaa.Pure
open Go.RowKit Go.Proofs.Ytmdjmfbinjnlcaa.P Go.Proofs.YtmdjmfbinjnlcaaW.PrintWords Go.Proofs.YtmdjmfbinjnlcaaW.PrintLast
/-! ## What calls tells, said of places alone -/
def ev (L : List S47) (m : Nat) : S47 := L.getD m z47
theorem rd_ev (L : List S47) (m : Nat) : rd_T47 L (m : Int) = ev L m := by
  unfold rd_T47 ev
  rw [Int.toNat_natCast]
/-- The place of the last event of thread T ahead of place i. -/
def lastB (L : List S47) (T : Int) : Nat → Option Nat
  | 0 => none
  | i + 1 => if (ev L i).f0 = T then some i else lastB L T i
/-- The first one's, from place i on, of d places. -/
def nextF (L : List S47) (T : Int) : Nat → Nat → Option Nat
  | _, 0 => none
  | i, d + 1 => if (ev L i).f0 = T then some i else nextF L T (i + 1) d
def nextB (L : List S47) (q m : Nat) : Option Nat := nextF L (ev L q).f0 (q + 1) (m - (q + 1))
def callAt (L : List S47) (m q : Nat) : S45 :=
  match nextB L q m with
  | none => ⟨(ev L q).f0, (ev L q).f2, (ev L q).f3, 0, (q : Int), -1⟩
  | some j => ⟨(ev L q).f0, (ev L q).f2, if (ev L q).f2 = true then (ev L q).f3 else (ev L j).f3, (ev L j).f4, (q : Int), (j : Int)⟩
def questB (L : List S47) : Nat → List Nat
  | 0 => []
  | m + 1 => if (ev L m).f1 = true then questB L m else questB L m ++ [m]
def outB (L : List S47) (m : Nat) : List S45 := (questB L m).map (callAt L m)
def cnt (L : List S47) (m : Nat) : Nat := (questB L m).length
/-- The question that thread T has open at place m. -/
def opens (L : List S47) (T : Int) (m : Nat) : Option Nat := (lastB L T m).bind fun q => if (ev L q).f1 = true then none else some q
def wrongB (L : List S47) (i : Nat) : Int :=
  if (ev L i).f0 < 0 then 4 else if 8 ≤ (ev L i).f0 then 4 else
  match opens L (ev L i).f0 i with
  | none => if (ev L i).f1 = true then 6 else if ¬ (ev L i).f4 = 0 then 3 else if (ev L i).f2 = false ∧ ¬ (ev L i).f3 = 0 then 3 else 0
  | some q => if (ev L i).f1 = true then (if ¬ (ev L i).f2 = (ev L q).f2 then 3 else if ¬ ((ev L i).f4 = 1 ∨ (ev L i).f4 = 2 ∨ (ev L i).f4 = 6 ∨ (ev L i).f4 = 7) then 3 else if ¬ (ev L i).f3 = 0 ∧ ((ev L i).f2 = true ∨ ¬ (ev L i).f4 = 1) then 3 else 0) else 5
theorem lastB_some {L : List S47} {T : Int} {m q : Nat} (h : lastB L T m = some q) : q < m ∧ (ev L q).f0 = T ∧ ∀ j, q < j → j < m → (ev L j).f0 ≠ T := by
  induction m with
  | zero => simp [lastB] at h
  | succ m ih =>
    unfold lastB at h
    by_cases c : (ev L m).f0 = T
    · rw [if_pos c] at h
      obtain rfl := Option.some.inj h
      exact ⟨by omega, c, fun j h1 h2 => by omega⟩
    · rw [if_neg c] at h
      obtain ⟨h1, h2, h3⟩ := ih h
      exact ⟨by omega, h2, fun j j1 j2 => by
        by_cases e : j = m
        · rw [e]; exact c
        · exact h3 j j1 (by omega)⟩
theorem lastB_of {L : List S47} {T : Int} {m q : Nat} (h1 : q < m) (h2 : (ev L q).f0 = T) (h3 : ∀ j, q < j → j < m → (ev L j).f0 ≠ T) : lastB L T m = some q := by
  induction m with
  | zero => omega
  | succ m ih =>
    unfold lastB
    by_cases e : q = m
    · subst e; rw [if_pos h2]
    · rw [if_neg (h3 m (by omega) (by omega))]
      exact ih (by omega) (fun j j1 j2 => h3 j j1 (by omega))
theorem lastB_none {L : List S47} {T : Int} {m : Nat} (h : lastB L T m = none) : ∀ j, j < m → (ev L j).f0 ≠ T := by
  induction m with
  | zero => intro j hj; omega
  | succ m ih =>
    unfold lastB at h
    by_cases c : (ev L m).f0 = T
    · rw [if_pos c] at h; cases h
    · rw [if_neg c] at h
      intro j hj
      by_cases e : j = m
      · rw [e]; exact c
      · exact ih h j (by omega)
theorem nextF_none {L : List S47} {T : Int} {d : Nat} : ∀ {i : Nat}, nextF L T i d = none → ∀ j, i ≤ j → j < i + d → (ev L j).f0 ≠ T := by
  induction d with
  | zero => intro i h j; omega
  | succ d ih =>
    intro i h j h1 h2
    unfold nextF at h
    by_cases c : (ev L i).f0 = T
    · rw [if_pos c] at h; cases h
    · rw [if_neg c] at h
      by_cases e : j = i
      · rw [e]; exact c
      · exact ih h j (by omega) (by omega)
theorem nextF_of_none {L : List S47} {T : Int} {d : Nat} : ∀ {i : Nat}, (∀ j, i ≤ j → j < i + d → (ev L j).f0 ≠ T) → nextF L T i d = none := by
  induction d with
  | zero => intro i h; rfl
  | succ d ih =>
    intro i h
    unfold nextF
    rw [if_neg (h i (by omega) (by omega))]
    exact ih (fun j h1 h2 => h j (by omega) (by omega))
theorem nextF_some {L : List S47} {T : Int} {d : Nat} : ∀ {i j : Nat}, nextF L T i d = some j → i ≤ j ∧ j < i + d ∧ (ev L j).f0 = T ∧ ∀ k, i ≤ k → k < j → (ev L k).f0 ≠ T := by
  induction d with
  | zero => intro i j h; simp [nextF] at h
  | succ d ih =>
    intro i j h
    unfold nextF at h
    by_cases c : (ev L i).f0 = T
    · rw [if_pos c] at h
      obtain rfl := Option.some.inj h
      exact ⟨by omega, by omega, c, fun k h1 h2 => by omega⟩
    · rw [if_neg c] at h
      obtain ⟨h1, h2, h3, h4⟩ := ih h
      exact ⟨by omega, by omega, h3, fun k k1 k2 => by
        by_cases e : k = i
        · rw [e]; exact c
        · exact h4 k (by omega) k2⟩
theorem nextF_of {L : List S47} {T : Int} {d : Nat} : ∀ {i j : Nat}, i ≤ j → j < i + d → (ev L j).f0 = T → (∀ k, i ≤ k → k < j → (ev L k).f0 ≠ T) → nextF L T i d = some j := by
  induction d with
  | zero => intro i j h1 h2; omega
  | succ d ih =>
    intro i j h1 h2 h3 h4
    unfold nextF
    by_cases e : j = i
    · subst e; rw [if_pos h3]
    · rw [if_neg (h4 i (by omega) (by omega))]
      exact ih (by omega) (by omega) h3 (fun k k1 k2 => h4 k (by omega) k2)
theorem nextB_some {L : List S47} {q m j : Nat} (h : nextB L q m = some j) : q < j ∧ j < m ∧ (ev L j).f0 = (ev L q).f0 ∧ ∀ k, q < k → k < j → (ev L k).f0 ≠ (ev L q).f0 := by
  obtain ⟨h1, h2, h3, h4⟩ := nextF_some h
  exact ⟨by omega, by omega, h3, fun k k1 k2 => h4 k (by omega) k2⟩
theorem nextB_of {L : List S47} {q m j : Nat} (h1 : q < j) (h2 : j < m) (h3 : (ev L j).f0 = (ev L q).f0) (h4 : ∀ k, q < k → k < j → (ev L k).f0 ≠ (ev L q).f0) : nextB L q m = some j :=
  nextF_of (by omega) (by omega) h3 (fun k k1 k2 => h4 k (by omega) k2)
theorem nextB_none {L : List S47} {q m : Nat} (h : nextB L q m = none) : ∀ k, q < k → k < m → (ev L k).f0 ≠ (ev L q).f0 :=
  fun k k1 k2 => nextF_none h k (by omega) (by omega)
theorem nextB_of_none {L : List S47} {q m : Nat} (h : ∀ k, q < k → k < m → (ev L k).f0 ≠ (ev L q).f0) : nextB L q m = none :=
  nextF_of_none (fun k k1 k2 => h k (by omega) (by omega))
/-- One more event: what a call's answer is. -/
theorem nextB_succ (L : List S47) {q m : Nat} (hq : q < m) : nextB L q (m + 1) = (nextB L q m).or (if (ev L m).f0 = (ev L q).f0 then some m else none) := by
  cases h : nextB L q m with
  | some j =>
    obtain ⟨h1, h2, h3, h4⟩ := nextB_some h
    rw [Option.some_or]
    exact nextB_of h1 (by omega) h3 h4
  | none =>
    have hn := nextB_none h
    rw [Option.none_or]
    by_cases c : (ev L m).f0 = (ev L q).f0
    · rw [if_pos c]; exact nextB_of hq (by omega) c hn
    · rw [if_neg c]
      refine nextB_of_none (fun k k1 k2 => ?_)
      by_cases e : k = m
      · rw [e]; exact c
      · exact hn k k1 (by omega)
theorem nextB_last {L : List S47} {q m : Nat} (hq : q < m) (h : nextB L q m = none) : lastB L (ev L q).f0 m = some q := lastB_of hq rfl (nextB_none h)
theorem questB_mem {L : List S47} {m q : Nat} : q ∈ questB L m ↔ q < m ∧ (ev L q).f1 = false := by
  induction m with
  | zero => simp [questB]
  | succ m ih =>
    unfold questB
    by_cases c : (ev L m).f1 = true
    · rw [if_pos c, ih]
      constructor
      · rintro ⟨h1, h2⟩; exact ⟨by omega, h2⟩
      · rintro ⟨h1, h2⟩
        refine ⟨?_, h2⟩
        by_cases e : q = m
        · subst e; rw [c] at h2; cases h2
        · omega
    · rw [if_neg c, List.mem_append, ih, List.mem_singleton]
      constructor
      · rintro (⟨h1, h2⟩ | rfl)
        · exact ⟨by omega, h2⟩
        · exact ⟨by omega, by simpa using c⟩
      · rintro ⟨h1, h2⟩
        by_cases e : q = m
        · exact Or.inr e
        · exact Or.inl ⟨by omega, h2⟩
theorem cnt_mono {L : List S47} {a b : Nat} (h : a ≤ b) : cnt L a ≤ cnt L b := by
  induction b with
  | zero => rw [show a = 0 by omega]; exact Nat.le_refl _
  | succ b ih =>
    by_cases e : a = b + 1
    · rw [e]; exact Nat.le_refl _
    · refine Nat.le_trans (ih (by omega)) ?_
      unfold cnt
      rw [questB]
      split
      · exact Nat.le_refl _
      · simp
theorem cnt_succ {L : List S47} {q : Nat} (h : (ev L q).f1 = false) : cnt L (q + 1) = cnt L q + 1 := by
  unfold cnt
  rw [questB, if_neg (by rw [h]; decide), List.length_append]
  rfl
theorem cnt_le (L : List S47) (m : Nat) : cnt L m ≤ m := by
  induction m with
  | zero => exact Nat.le_refl _
  | succ m ih =>
    unfold cnt at *
    rw [questB]
    split
    · omega
    · rw [List.length_append]; simp; omega
theorem questB_at {L : List S47} {m q : Nat} (hq : q < m) (h : (ev L q).f1 = false) : (questB L m)[cnt L q]? = some q := by
  induction m with
  | zero => omega
  | succ m ih =>
    by_cases e : q = m
    · subst e
      rw [questB, if_neg (by rw [h]; decide)]
      unfold cnt
      simp
    · have hk := ih (by omega)
      have hl : cnt L q < (questB L m).length := by
        have := cnt_mono (L := L) (show q + 1 ≤ m by omega)
        rw [cnt_succ h] at this
        exact this
      rw [questB]
      split
      · exact hk
      · rw [List.getElem?_append_left hl]; exact hk
theorem questB_inj {L : List S47} {m q k : Nat} (h : (questB L m)[k]? = some q) : q < m ∧ (ev L q).f1 = false ∧ k = cnt L q := by
  have hm := questB_mem.1 (List.mem_of_getElem? h)
  refine ⟨hm.1, hm.2, ?_⟩
  induction m with
  | zero => omega
  | succ m ih =>
    rw [questB] at h
    by_cases c : (ev L m).f1 = true
    · rw [if_pos c] at h
      exact ih h (questB_mem.1 (List.mem_of_getElem? h))
    · rw [if_neg c] at h
      rcases Nat.lt_or_ge k (questB L m).length with hk | hk
      · rw [List.getElem?_append_left hk] at h
        exact ih h (questB_mem.1 (List.mem_of_getElem? h))
      · rw [List.getElem?_append_right hk] at h
        have e0 : k - (questB L m).length = 0 := by
          rcases Nat.eq_zero_or_pos (k - (questB L m).length) with e | e
          · exact e
          · rw [List.getElem?_eq_none (by simp; omega)] at h; cases h
        rw [e0] at h
        have : q = m := by simpa using h.symm
        subst this
        unfold cnt; omega
theorem opens_some {L : List S47} {T : Int} {m q : Nat} (h : opens L T m = some q) : lastB L T m = some q ∧ (ev L q).f1 = false := by
  unfold opens at h
  obtain ⟨q', h1, h2⟩ := Option.bind_eq_some_iff.1 h
  split at h2
  · cases h2
  · rename_i c
    obtain rfl := Option.some.inj h2
    exact ⟨h1, by simpa using c⟩
theorem opens_of {L : List S47} {T : Int} {m q : Nat} (h : lastB L T m = some q) (h1 : (ev L q).f1 = false) : opens L T m = some q := by
  unfold opens
  rw [h, Option.bind_some, if_neg (by rw [h1]; decide)]
theorem opens_succ_ne {L : List S47} {T : Int} {m : Nat} (h : (ev L m).f0 ≠ T) : opens L T (m + 1) = opens L T m := by
  unfold opens
  rw [lastB, if_neg h]
theorem opens_succ_eq (L : List S47) (m : Nat) : opens L (ev L m).f0 (m + 1) = if (ev L m).f1 = true then none else some m := by
  unfold opens
  rw [lastB, if_pos rfl, Option.bind_some]
/-- What calls has behind m right events. -/
structure At (L : List S47) (m : Nat) (out : List S45) (o : List Int) : Prop where
  len : o.length = 8
  out : out = outB L m
  op : ∀ T : Int, 0 ≤ T → T < 8 → rd o T = match opens L T m with | none => 0 | some q => (cnt L q : Int) + 1
theorem rd_set_eq {o : List Int} {T : Int} (v : Int) (h : T.toNat < o.length) : rd (o.set T.toNat v) T = v := by
  unfold rd
  rw [List.getD_eq_getElem?_getD, List.getElem?_set_self h]
  rfl
theorem rd_set_ne {o : List Int} {T T' : Int} (v : Int) (h : T.toNat ≠ T'.toNat) : rd (o.set T.toNat v) T' = rd o T' := by
  unfold rd
  rw [List.getD_eq_getElem?_getD, List.getElem?_set_ne h, List.getD_eq_getElem?_getD]
theorem outB_at {L : List S47} {m q : Nat} (hq : q < m) (h : (ev L q).f1 = false) : rd_T45 (outB L m) (cnt L q : Int) = callAt L m q := by
  unfold rd_T45 outB
  rw [Int.toNat_natCast, List.getD_eq_getElem?_getD, List.getElem?_map, questB_at hq h]
  rfl
theorem callAt_push (L : List S47) (m q : Nat) : (callAt L m q).f1 = (ev L q).f2 := by
  unfold callAt
  split <;> rfl
theorem callAt_same {L : List S47} {m q : Nat} (hq : q < m) (h : nextB L q m = none → (ev L m).f0 ≠ (ev L q).f0) : callAt L (m + 1) q = callAt L m q := by
  have e : nextB L q (m + 1) = nextB L q m := by
    rw [nextB_succ L hq]
    cases hn : nextB L q m with
    | some j => rfl
    | none => rw [if_neg (h hn), Option.none_or]
  unfold callAt
  rw [e]
theorem At.err {L : List S47} {m : Nat} {out : List S45} {o : List Int} (h : At L m out o) : hist_err (ev L m) out o = wrongB L m := by
  unfold hist_err wrongB
  by_cases c0 : (ev L m).f0 < 0
  · rw [if_pos c0, if_pos c0]
  · by_cases c8 : 8 ≤ (ev L m).f0
    · rw [if_neg c0, if_neg c0, if_pos c8, if_pos c8]
    · rw [if_neg c0, if_neg c0, if_neg c8, if_neg c8]
      have ho := h.op (ev L m).f0 (by omega) (by omega)
      cases hq : opens L (ev L m).f0 m with
      | none =>
        rw [hq] at ho
        simp only at ho ⊢
        rw [ho]
        unfold hist_answersM hist_asksM
        rw [if_pos rfl]
        simp
      | some q =>
        rw [hq] at ho
        simp only at ho ⊢
        obtain ⟨h1, h2⟩ := opens_some hq
        obtain ⟨h3, h4, h5⟩ := lastB_some h1
        have e : (cnt L q : Int) + 1 - 1 = (cnt L q : Int) := by omega
        rw [ho, e, h.out, outB_at h3 h2, callAt_push]
        unfold hist_answersM hist_asksM
        rw [if_neg (show ¬ (cnt L q : Int) + 1 = 0 by omega), if_pos (show 0 < (cnt L q : Int) + 1 by omega)]
theorem wrong_form {L : List S47} {m : Nat} (h : wrongB L m = 0) : 0 ≤ (ev L m).f0 ∧ (ev L m).f0 < 8 ∧
    (((ev L m).f1 = false ∧ opens L (ev L m).f0 m = none ∧ (ev L m).f4 = 0 ∧ ((ev L m).f2 = true ∨ (ev L m).f3 = 0)) ∨
     ((ev L m).f1 = true ∧ ∃ q, opens L (ev L m).f0 m = some q ∧ (ev L m).f2 = (ev L q).f2 ∧ ((ev L m).f4 = 1 ∨ (ev L m).f4 = 2 ∨ (ev L m).f4 = 6 ∨ (ev L m).f4 = 7) ∧ ((ev L m).f3 = 0 ∨ ((ev L m).f2 = false ∧ (ev L m).f4 = 1)))) := by
  unfold wrongB at h
  by_cases c0 : (ev L m).f0 < 0
  · rw [if_pos c0] at h; cases h
  · by_cases c8 : 8 ≤ (ev L m).f0
    · rw [if_neg c0, if_pos c8] at h; cases h
    · rw [if_neg c0, if_neg c8] at h
      refine ⟨by omega, by omega, ?_⟩
      cases hq : opens L (ev L m).f0 m with
      | none =>
        rw [hq] at h
        simp only at h
        by_cases r : (ev L m).f1 = true
        · rw [if_pos r] at h; cases h
        · rw [if_neg r] at h
          by_cases s : (ev L m).f4 = 0
          · rw [if_neg (by simp [s])] at h
            by_cases t : (ev L m).f2 = false ∧ ¬ (ev L m).f3 = 0
            · rw [if_pos t] at h; cases h
            · refine Or.inl ⟨by simpa using r, rfl, s, ?_⟩
              cases hp : (ev L m).f2 with
              | true => exact Or.inl rfl
              | false =>
                right
                by_cases z : (ev L m).f3 = 0
                · exact z
                · exact absurd ⟨hp, z⟩ t
          · rw [if_pos s] at h; cases h
      | some q =>
        rw [hq] at h
        simp only at h
        by_cases r : (ev L m).f1 = true
        · rw [if_pos r] at h
          by_cases p : (ev L m).f2 = (ev L q).f2
          · rw [if_neg (by simp [p])] at h
            by_cases s : (ev L m).f4 = 1 ∨ (ev L m).f4 = 2 ∨ (ev L m).f4 = 6 ∨ (ev L m).f4 = 7
            · rw [if_neg (fun hn => hn s)] at h
              by_cases t : ¬ (ev L m).f3 = 0 ∧ ((ev L m).f2 = true ∨ ¬ (ev L m).f4 = 1)
              · rw [if_pos t] at h; cases h
              · refine Or.inr ⟨r, q, rfl, p, s, ?_⟩
                by_cases z : (ev L m).f3 = 0
                · exact Or.inl z
                · right
                  constructor
                  · cases hp : (ev L m).f2 with
                    | true => exact absurd ⟨z, Or.inl hp⟩ t
                    | false => rfl
                  · by_cases y : (ev L m).f4 = 1
                    · exact y
                    · exact absurd ⟨z, Or.inr y⟩ t
            · rw [if_pos s] at h; cases h
          · rw [if_pos p] at h; cases h
        · rw [if_neg r] at h; cases h
theorem outB_ask {L : List S47} {m : Nat} (h : (ev L m).f1 = false) (ho : opens L (ev L m).f0 m = none) : outB L (m + 1) = outB L m ++ [hist_out (ev L m) (m : Int)] := by
  unfold outB
  rw [questB, if_neg (by rw [h]; decide), List.map_append]
  congr 1
  · refine List.map_congr_left (fun q hq => ?_)
    obtain ⟨h1, h2⟩ := questB_mem.1 hq
    refine callAt_same h1 (fun hn e => ?_)
    have := opens_of (nextB_last h1 hn) h2
    rw [← e, ho] at this
    cases this
  · have e : nextB L m (m + 1) = none := nextB_of_none (fun k k1 k2 => by omega)
    simp only [List.map_cons, List.map_nil, callAt, e]
    rfl
theorem outB_ans {L : List S47} {m q : Nat} (h : (ev L m).f1 = true) (ho : opens L (ev L m).f0 m = some q) (hp : (ev L m).f2 = (ev L q).f2) : outB L (m + 1) = (outB L m).set (cnt L q) (hist_end (callAt L m q) (ev L m) (m : Int)) := by
  obtain ⟨h1, h2⟩ := opens_some ho
  obtain ⟨h3, h4, h5⟩ := lastB_some h1
  unfold outB
  rw [questB, if_pos h]
  refine List.ext_getElem? (fun k => ?_)
  rw [List.getElem?_map]
  by_cases e : cnt L q = k
  · subst e
    have hl : cnt L q < ((questB L m).map (callAt L m)).length := by
      rw [List.length_map]
      exact (List.getElem?_eq_some_iff.1 (questB_at h3 h2)).1
    rw [List.getElem?_set_self hl, questB_at h3 h2]
    have n0 : nextB L q m = none := nextB_of_none (fun j j1 j2 => by rw [h4]; exact h5 j j1 j2)
    have n1 : nextB L q (m + 1) = some m := by
      rw [nextB_succ L h3, n0, Option.none_or, if_pos h4.symm]
    simp only [Option.map_some, callAt, n0, n1, hist_end, hp]
  · rw [List.getElem?_set_ne e, List.getElem?_map]
    cases hk : (questB L m)[k]? with
    | none => rfl
    | some p =>
      obtain ⟨p1, p2, p3⟩ := questB_inj hk
      simp only [Option.map_some]
      congr 1
      refine callAt_same p1 (fun hn e' => ?_)
      have := opens_of (nextB_last p1 hn) p2
      rw [← e', ho] at this
      obtain rfl := Option.some.inj this
      exact e p3.symm
theorem At.ask {L : List S47} {m : Nat} {out : List S45} {o : List Int} (h : At L m out o) (h0 : 0 ≤ (ev L m).f0) (h8 : (ev L m).f0 < 8) (hr : (ev L m).f1 = false) (ho : opens L (ev L m).f0 m = none) :
    At L (m + 1) (out ++ [hist_out (ev L m) (m : Int)]) (o.set (ev L m).f0.toNat ((out.length : Int) + 1)) := by
  refine ⟨by rw [List.length_set]; exact h.len, by rw [h.out]; exact (outB_ask hr ho).symm, fun T t0 t8 => ?_⟩
  by_cases e : (ev L m).f0 = T
  · subst e
    rw [rd_set_eq _ (by have := h.len; omega), opens_succ_eq, if_neg (by rw [hr]; decide), h.out]
    unfold outB cnt
    rw [List.length_map]
  · rw [rd_set_ne _ (by omega), opens_succ_ne e]
    exact h.op T t0 t8
theorem At.ans {L : List S47} {m q : Nat} {out : List S45} {o : List Int} (h : At L m out o) (h0 : 0 ≤ (ev L m).f0) (h8 : (ev L m).f0 < 8) (hr : (ev L m).f1 = true) (ho : opens L (ev L m).f0 m = some q) (hp : (ev L m).f2 = (ev L q).f2) :
    At L (m + 1) (out.set (rd o (ev L m).f0 - 1).toNat (hist_end (rd_T45 out (rd o (ev L m).f0 - 1)) (ev L m) (m : Int))) (o.set (ev L m).f0.toNat 0) := by
  obtain ⟨h1, h2⟩ := opens_some ho
  obtain ⟨h3, h4, h5⟩ := lastB_some h1
  have hx := h.op _ h0 h8
  rw [ho] at hx
  simp only at hx
  have e : (cnt L q : Int) + 1 - 1 = (cnt L q : Int) := by omega
  refine ⟨by rw [List.length_set]; exact h.len, ?_, fun T t0 t8 => ?_⟩
  · rw [hx, e, h.out, outB_at h3 h2, Int.toNat_natCast]
    exact (outB_ans hr ho hp).symm
  · by_cases e : (ev L m).f0 = T
    · subst e
      rw [rd_set_eq _ (by have := h.len; omega), opens_succ_eq, if_pos hr]
    · rw [rd_set_ne _ (by omega), opens_succ_ne e]
      exact h.op T t0 t8
theorem ev_drop {L : List S47} {i : Nat} (h : i < L.length) : L.drop i = ev L i :: L.drop (i + 1) := by
  rw [List.drop_eq_getElem_cons h]
  congr 1
  unfold ev
  simp [h]
theorem hist_go_cons (n : Int) (e : S47) (l : List S47) (i : Int) (out : List S45) (o : List Int) : hist_go n (e :: l) i out o = if ¬ hist_err e out o = 0 then ([], i, hist_err e out o)
    else if e.f1 = true then hist_go n l (i + 1) (out.set (rd o e.f0 - 1).toNat (hist_end (rd_T45 out (rd o e.f0 - 1)) e i)) (o.set e.f0.toNat 0)
    else hist_go n l (i + 1) (out ++ [hist_out e i]) (o.set e.f0.toNat ((out.length : Int) + 1)) := rfl
/-- The events up to place m are right: then calls goes on from there with what is said of places. -/
theorem go_right {L : List S47} {m : Nat} (hm : m ≤ L.length) (h : ∀ i, i < m → wrongB L i = 0) : ∃ out o, At L m out o ∧ hist_go (L.length : Int) L 0 ([] : List S45) [0, 0, 0, 0, 0, 0, 0, 0] = hist_go (L.length : Int) (L.drop m) (m : Int) out o := by
  induction m with
  | zero =>
    refine ⟨[], [0, 0, 0, 0, 0, 0, 0, 0], ⟨rfl, rfl, fun T _ _ => ?_⟩, rfl⟩
    rw [hist_rd_zero]
    rfl
  | succ m ih =>
    obtain ⟨out, o, ha, hg⟩ := ih (by omega) (fun i hi => h i (by omega))
    have hw := h m (by omega)
    rw [ev_drop (by omega)] at hg
    rw [hist_go_cons] at hg
    rw [if_neg (by rw [ha.err, hw]; simp)] at hg
    obtain ⟨f0, f8, hf⟩ := wrong_form hw
    rcases hf with ⟨hr, ho, _⟩ | ⟨hr, q, ho, hp, _⟩
    · rw [if_neg (by rw [hr]; decide)] at hg
      refine ⟨_, _, ha.ask f0 f8 hr ho, ?_⟩
      push_cast
      exact hg
    · rw [if_pos hr] at hg
      refine ⟨_, _, ha.ans f0 f8 hr ho hp, ?_⟩
      push_cast
      exact hg
/-- All events are right. -/
theorem calls_right {L : List S47} (hl : L.length < 2932031007402) (h : ∀ i, i < L.length → wrongB L i = 0) : history_calls.f L = some (outB L L.length, (L.length : Int), 0) := by
  obtain ⟨out, o, ha, hg⟩ := go_right (Nat.le_refl _) h
  unfold history_calls.f
  rw [if_pos hl, hg, List.drop_length, ha.out]
  rfl
/-- The first wrong event is the one at m. -/
theorem calls_wrong {L : List S47} {m : Nat} (hl : L.length < 2932031007402) (hm : m < L.length) (h : ∀ i, i < m → wrongB L i = 0) (hw : wrongB L m ≠ 0) : history_calls.f L = some ([], (m : Int), wrongB L m) := by
  obtain ⟨out, o, ha, hg⟩ := go_right (Nat.le_of_lt hm) h
  unfold history_calls.f
  rw [if_pos hl, hg, ev_drop hm]
  rw [hist_go_cons, ha.err, if_pos hw]
theorem bs {α β : Type} (x : α) (f : α → Option β) : (some x).bind f = f x := by rw [Option.bind_some]
theorem w_nat (n : Nat) (h : n < 9223372036854775807) : wrap64 ((n : Int) + 1) = ((n + 1 : Nat) : Int) := by unfold wrap64; push_cast; omega
def c45 (x : S45) : S55 := ⟨x.f0, x.f1, x.f2, x.f3, x.f4, x.f5⟩
theorem asCalls_loop (C : List S45) (hC : C.length < 2932031007402) (d : Nat) : ∀ (i k : Nat) (acc : List S55), i + d = C.length → d < k → acc.length = i → hatstandlaw14_asCalls.l0 k C acc (i : Int) = some (acc ++ (C.drop i).map c45) := by
  induction d with
  | zero =>
    intro i k acc h hk ha
    obtain ⟨k, rfl⟩ : ∃ k', k = k' + 1 := ⟨k - 1, by omega⟩
    rw [hatstandlaw14_asCalls.l0, if_neg (by omega), List.drop_eq_nil_of_le (by omega)]
    simp
  | succ d ih =>
    intro i k acc h hk ha
    obtain ⟨k, rfl⟩ : ∃ k', k = k' + 1 := ⟨k - 1, by omega⟩
    have e : C.drop i = rd_T45 C (i : Int) :: C.drop (i + 1) := by
      rw [List.drop_eq_getElem_cons (show i < C.length by omega)]
      congr 1
      unfold rd_T45
      simp [show i < C.length by omega]
    rw [hatstandlaw14_asCalls.l0, if_pos (by omega), if_pos (by omega), if_pos (by omega), w_nat i (by omega), ih (i + 1) k _ (by omega) (by omega) (by rw [List.length_append]; simp; omega), e, List.map_cons, List.append_assoc]
    rfl
theorem asCalls_all (C : List S45) (hC : C.length < 2932031007402) (k : Nat) (hk : C.length < k) : hatstandlaw14_asCalls.f k C = some (C.map c45) := by
  unfold hatstandlaw14_asCalls.f
  have := asCalls_loop C hC C.length 0 k [] (by omega) hk rfl
  simpa using this
theorem same_loop (C : List S55) (hC : C.length < 9223372036854775807) (d : Nat) : ∀ (i k : Nat), i + d = C.length → d < k → hatstandref14_Same.l0 k C C (i : Int) = some true := by
  induction d with
  | zero =>
    intro i k h hk
    obtain ⟨k, rfl⟩ : ∃ k', k = k' + 1 := ⟨k - 1, by omega⟩
    rw [hatstandref14_Same.l0, if_neg (by omega)]
  | succ d ih =>
    intro i k h hk
    obtain ⟨k, rfl⟩ : ∃ k', k = k' + 1 := ⟨k - 1, by omega⟩
    rw [hatstandref14_Same.l0, if_pos (by omega), if_pos (by omega), if_pos (by omega), if_neg (by simp), w_nat i (by omega)]
    exact ih (i + 1) k (by omega) (by omega)
theorem same_all (C : List S55) (hC : C.length < 9223372036854775807) (k : Nat) (hk : C.length < k) : hatstandref14_Same.f k C C = some true := by
  unfold hatstandref14_Same.f
  rw [if_pos rfl]
  exact same_loop C hC C.length 0 k (by omega) hk
theorem hist_shown (k : Nat) : hatstandlaw14_shown.f (k + 4) = some true := by
  have h1 : history_calls.f [(⟨0, false, true, 5, 0⟩ : S47), (⟨1, false, false, 0, 0⟩ : S47), (⟨0, true, true, 0, 1⟩ : S47), (⟨1, true, false, 5, 1⟩ : S47)] = some ([(⟨0, true, 5, 1, 0, 2⟩ : S45), (⟨1, false, 5, 1, 1, 3⟩ : S45)], 4, 0) := by rfl
  have h2 : history_calls.f [(⟨9, false, false, 0, 0⟩ : S47)] = some ([], 0, 4) := by rfl
  unfold hatstandlaw14_shown.f history_Calls.f history_Check.f
  rw [h1, h2]
  simp only [bs, if_true]
  rw [asCalls_all _ (by decide) _ (by simp)]
  simp only [bs]
  have e : ([(⟨0, true, 5, 1, 0, 2⟩ : S45), (⟨1, false, 5, 1, 1, 3⟩ : S45)].map c45) = [(⟨0, true, 5, 1, 0, 2⟩ : S55), (⟨1, false, 5, 1, 1, 3⟩ : S55)] := rfl
  rw [e, same_all _ (by decide) _ (by simp), bs]
theorem wf_i64 {x : Int} (h : (Lit.int .i64 x).wf = true) : -9223372036854775808 ≤ x ∧ x ≤ 9223372036854775807 := by
  simp [Lit.wf, IntKind.min, IntKind.max, IntKind.signed, IntKind.bits] at h; omega
theorem pick_some (c n : Int) (hn : 0 < n) (h0 : -9223372036854775808 ≤ c) (h1 : c ≤ 9223372036854775807) : ∃ r, hatstandlaw14_pick.f c n = some r ∧ 0 ≤ r ∧ r < n := by
  unfold hatstandlaw14_pick.f
  by_cases h : c < 0
  · rw [if_pos h, if_neg (by omega)]
    have e : wrap64 (-(wrap64 (c + 1))) = -(c + 1) := by unfold wrap64; omega
    rw [e, Int.tmod_eq_emod_of_nonneg (by omega)]
    exact ⟨_, rfl, Int.emod_nonneg _ (by omega), Int.emod_lt_of_pos _ hn⟩
  · rw [if_neg h, if_neg (by omega), Int.tmod_eq_emod_of_nonneg (by omega)]
    exact ⟨_, rfl, Int.emod_nonneg _ (by omega), Int.emod_lt_of_pos _ hn⟩
/-! ### What is ahead of a place is all that counts there -/
theorem lastB_congr {L L' : List S47} {T : Int} (m : Nat) (h : ∀ j, j < m → ev L' j = ev L j) : lastB L' T m = lastB L T m := by
  induction m with
  | zero => rfl
  | succ m ih =>
    unfold lastB
    rw [h m (by omega), ih (fun j hj => h j (by omega))]
theorem opens_congr {L L' : List S47} {T : Int} {m : Nat} (h : ∀ j, j < m → ev L' j = ev L j) : opens L' T m = opens L T m := by
  unfold opens
  rw [lastB_congr m h]
  cases hq : lastB L T m with
  | none => rfl
  | some q =>
    simp only [Option.bind_some]
    rw [h q (lastB_some hq).1]
theorem wrongB_congr {L L' : List S47} {m : Nat} (h : ∀ j, j ≤ m → ev L' j = ev L j) : wrongB L' m = wrongB L m := by
  unfold wrongB
  rw [h m (Nat.le_refl m), opens_congr (fun j hj => h j (by omega))]
  cases hq : opens L (ev L m).f0 m with
  | none => rfl
  | some q =>
    simp only
    rw [h q (by have := (lastB_some (opens_some hq).1).1; omega)]
theorem ev_app {L : List S47} (e : S47) {j : Nat} (h : j < L.length) : ev (L ++ [e]) j = ev L j := by
  unfold ev
  rw [List.getD_eq_getElem?_getD, List.getD_eq_getElem?_getD, List.getElem?_append_left h]
theorem ev_new (L : List S47) (e : S47) : ev (L ++ [e]) L.length = e := by
  unfold ev
  rw [List.getD_eq_getElem?_getD, List.getElem?_append_right (Nat.le_refl _)]
  simp
theorem right_app {L : List S47} (e : S47) (h : ∀ i, i < L.length → wrongB L i = 0) (he : wrongB (L ++ [e]) L.length = 0) : ∀ i, i < (L ++ [e]).length → wrongB (L ++ [e]) i = 0 := by
  intro i hi
  rw [List.length_append] at hi
  simp only [List.length_cons, List.length_nil] at hi
  by_cases c : i = L.length
  · rw [c]; exact he
  · rw [wrongB_congr (L := L) (fun j hj => ev_app e (by omega))]
    exact h i (by omega)
/-- What events made so far, and which are open. -/
structure Made (L : List S47) (o : List Int) : Prop where
  len : o.length = 8
  right : ∀ i, i < L.length → wrongB L i = 0
  op : ∀ T : Int, 0 ≤ T → T < 8 → rd o T = match opens L T L.length with | none => 0 | some q => (q : Int) + 1
theorem Made.ask {L : List S47} {o : List Int} (h : Made L o) (t V : Int) (P : Bool) (h0 : 0 ≤ t) (h8 : t < 8) (ho : rd o t = 0) (hv : P = false → V = 0) :
    Made (L ++ [⟨t, false, P, V, 0⟩]) (o.set t.toNat (((L ++ [(⟨t, false, P, V, 0⟩ : S47)]).length : Nat) : Int)) := by
  have hop : opens L t L.length = none := by
    have := h.op t h0 h8
    cases hq : opens L t L.length with
    | none => rfl
    | some q => rw [hq, ho] at this; simp only at this; omega
  have e1 : opens (L ++ [(⟨t, false, P, V, 0⟩ : S47)]) t L.length = none := by rw [opens_congr (fun j hj => ev_app _ hj)]; exact hop
  refine ⟨by rw [List.length_set]; exact h.len, right_app _ h.right ?_, fun T t0 t8 => ?_⟩
  · unfold wrongB
    rw [ev_new, if_neg (by show ¬ t < 0; omega), if_neg (by show ¬ 8 ≤ t; omega)]
    simp only [e1]
    cases P
    · simp [hv rfl]
    · simp
  · have hl : (L ++ [(⟨t, false, P, V, 0⟩ : S47)]).length = L.length + 1 := by simp
    by_cases e : t = T
    · subst e
      rw [rd_set_eq _ (by have := h.len; omega), hl]
      have := opens_succ_eq (L ++ [(⟨t, false, P, V, 0⟩ : S47)]) L.length
      rw [ev_new] at this
      simp only [Bool.false_eq_true, if_false] at this
      rw [this]
      push_cast
      rfl
    · rw [rd_set_ne _ (by omega), hl, opens_succ_ne (by rw [ev_new]; exact e), opens_congr (fun j hj => ev_app _ hj)]
      exact h.op T t0 t8
theorem Made.ans {L : List S47} {o : List Int} (h : Made L o) (t V St : Int) (h0 : 0 ≤ t) (h8 : t < 8) (q : Nat) (ho : opens L t L.length = some q) (hs : St = 1 ∨ St = 2 ∨ St = 6) (hv : V = 0 ∨ ((ev L q).f2 = false ∧ St = 1)) :
    Made (L ++ [⟨t, true, (ev L q).f2, V, St⟩]) (o.set t.toNat 0) := by
  have hq := (lastB_some (opens_some ho).1).1
  have e1 : opens (L ++ [(⟨t, true, (ev L q).f2, V, St⟩ : S47)]) t L.length = some q := by rw [opens_congr (fun j hj => ev_app _ hj)]; exact ho
  refine ⟨by rw [List.length_set]; exact h.len, right_app _ h.right ?_, fun T t0 t8 => ?_⟩
  · unfold wrongB
    rw [ev_new, if_neg (by show ¬ t < 0; omega), if_neg (by show ¬ 8 ≤ t; omega)]
    simp only [e1, if_true]
    rw [ev_app _ hq, if_neg (by simp), if_neg (fun hn => hn (by rcases hs with s | s | s <;> simp [s])), if_neg (by
      rintro ⟨h1, h2⟩
      rcases hv with v | ⟨v1, v2⟩
      · exact h1 v
      · rcases h2 with w | w
        · rw [v1] at w; cases w
        · exact w v2)]
  · have hl : (L ++ [(⟨t, true, (ev L q).f2, V, St⟩ : S47)]).length = L.length + 1 := by simp
    by_cases e : t = T
    · subst e
      rw [rd_set_eq _ (by have := h.len; omega), hl]
      have := opens_succ_eq (L ++ [(⟨t, true, (ev L q).f2, V, St⟩ : S47)]) L.length
      rw [ev_new] at this
      simp only [if_true] at this
      rw [this]
    · rw [rd_set_ne _ (by omega), hl, opens_succ_ne (by rw [ev_new]; exact e), opens_congr (fun j hj => ev_app _ hj)]
      exact h.op T t0 t8
theorem events_loop (l : List S61) (hl : l.length < 1000000) (hw : ∀ i : Nat, i < l.length → (Lit.int .i64 (rd_T61 l i).f0).wf = true ∧ (Lit.int .i64 (rd_T61 l i).f1).wf = true) (d : Nat) :
    ∀ (i k : Nat) (L : List S47) (o : List Int), i + d = l.length → 2 * d + 1 ≤ k → L.length = i → Made L o → ∃ E, hatstandlaw14_events.l0 k l L o (i : Int) = some E ∧ E.length = l.length ∧ ∀ i, i < E.length → wrongB E i = 0 := by
  induction d with
  | zero =>
    intro i k L o hi hk hL hm
    obtain ⟨k, rfl⟩ : ∃ k', k = k' + 1 := ⟨k - 1, by omega⟩
    rw [hatstandlaw14_events.l0, if_neg (by omega)]
    exact ⟨L, rfl, by omega, hm.right⟩
  | succ d ih =>
    intro i k L o hi hk hL hm
    obtain ⟨k, rfl⟩ : ∃ k', k = k' + 2 := ⟨k - 2, by omega⟩
    obtain ⟨w0, w1⟩ := hw i (by omega)
    have b0 := wf_i64 w0
    have b1 := wf_i64 w1
    obtain ⟨t, ht, t0, t8⟩ := pick_some (rd_T61 l i).f0 8 (by decide) b0.1 b0.2
    obtain ⟨c, hc, c0, c4⟩ := pick_some (rd_T61 l i).f1 4 (by decide) b1.1 b1.2
    have hlen := hm.len
    rw [hatstandlaw14_events.l0, if_pos (by omega), if_pos (by omega), ht, bs, if_pos t0, if_pos (by omega), w_nat i (by omega)]
    have hop := hm.op t t0 t8
    cases ho : opens L t L.length with
    | none =>
      rw [ho] at hop
      simp only at hop
      rw [if_pos hop]
      cases p : (rd_T61 l i).f2
      · rw [if_neg (by decide), if_pos (by omega)]
        simp only [bs]
        exact ih (i + 1) (k + 1) _ _ (by omega) (by omega) (by rw [List.length_append]; simp; omega) (hm.ask t 0 false t0 t8 hop (fun _ => rfl))
      · rw [if_pos rfl, if_pos (by omega)]
        simp only [bs]
        exact ih (i + 1) (k + 1) _ _ (by omega) (by omega) (by rw [List.length_append]; simp; omega) (hm.ask t _ true t0 t8 hop (fun h => by cases h))
    | some q =>
      have hq := (lastB_some (opens_some ho).1).1
      have ho' := ho
      rw [ho] at hop
      simp only at hop
      have e1 : wrap64 (rd o t - 1) = (q : Int) := by rw [hop]; unfold wrap64; omega
      rw [if_neg (by omega), e1, if_pos (by omega), if_pos (by omega)]
      simp only [bs]
      rw [hc, bs, if_pos c0, if_pos (by exact c4)]
      have hs : rd [1, 1, 2, 6] c = 1 ∨ rd [1, 1, 2, 6] c = 2 ∨ rd [1, 1, 2, 6] c = 6 := by
        rcases (show c = 0 ∨ c = 1 ∨ c = 2 ∨ c = 3 by omega) with rfl | rfl | rfl | rfl
        · exact Or.inl rfl
        · exact Or.inl rfl
        · exact Or.inr (Or.inl rfl)
        · exact Or.inr (Or.inr rfl)
      generalize rd [1, 1, 2, 6] c = St at hs
      rw [rd_ev]
      have step : ∀ V : Int, (V = 0 ∨ ((ev L q).f2 = false ∧ St = 1)) → ∃ E, hatstandlaw14_events.l0 k l (L ++ [(⟨t, true, (ev L q).f2, V, St⟩ : S47)]) (o.set t.toNat 0) ((i + 1 : Nat) : Int) = some E ∧ E.length = l.length ∧ ∀ i, i < E.length → wrongB E i = 0 := by
        intro V hV
        exact ih (i + 1) k _ _ (by omega) (by omega) (by rw [List.length_append]; simp; omega) (hm.ans t V St t0 t8 q ho' hs hV)
      have no : ∃ E, hatstandlaw14_events.j1 (k + 1) l L o (i : Int) t false t true (ev L q).f2 0 St = some E ∧ E.length = l.length ∧ ∀ i, i < E.length → wrongB E i = 0 := by
        rw [hatstandlaw14_events.j1, if_neg (by decide), if_pos (by omega), if_pos t0, if_pos (by omega), w_nat i (by omega)]
        exact step 0 (Or.inl rfl)
      cases p : (ev L q).f2
      · rw [if_neg (by decide)]
        rw [p] at no
        by_cases s : St = 1
        · rw [show (St == 1) = true by simp [s], hatstandlaw14_events.j1, if_pos rfl, if_pos (by omega), if_pos (by omega), if_pos (by omega), if_pos t0, if_pos (by omega), w_nat i (by omega)]
          have := step (rd_T61 l i).f3 (Or.inr ⟨p, s⟩)
          rw [p] at this
          exact this
        · rw [show (St == 1) = false by simp [s]]
          exact no
      · rw [if_pos rfl]
        rw [p] at no
        exact no
theorem events_all (l : List S61) (hl : l.length < 1000000) (hw : ∀ x ∈ l, (Lit.int .i64 x.f0).wf = true ∧ (Lit.int .i64 x.f1).wf = true ∧ (Lit.int .u64 x.f3).wf = true) (k : Nat) (hk : 2 * l.length + 1 ≤ k) :
    ∃ E, hatstandlaw14_events.f k l = some E ∧ E.length = l.length ∧ ∀ i, i < E.length → wrongB E i = 0 := by
  unfold hatstandlaw14_events.f
  rw [if_pos (by decide)]
  refine events_loop l hl (fun i hi => ?_) l.length 0 k [] (List.replicate 8 0) (by omega) hk rfl ⟨rfl, fun i hi => by simp at hi, fun T t0 t8 => ?_⟩
  · have hm : rd_T61 l (i : Int) ∈ l := by
      unfold rd_T61
      rw [Int.toNat_natCast, List.getD_eq_getElem?_getD, List.getElem?_eq_getElem hi]
      exact List.getElem_mem _
    exact ⟨(hw _ hm).1, (hw _ hm).2.1⟩
  · rw [show (List.replicate 8 (0 : Int)) = [0, 0, 0, 0, 0, 0, 0, 0] from rfl, hist_rd_zero]
    rfl
def ahd (x y : S45) : Bool := if x.f5 ≥ 0 then decide (x.f5 < y.f4) else false
theorem ahead_eq (x y : S45) : history_Ahead.f x.f0 x.f1 x.f2 x.f3 x.f4 x.f5 y.f0 y.f1 y.f2 y.f3 y.f4 y.f5 = some (ahd x y) := by
  unfold history_Ahead.f ahd
  split <;> rfl
theorem ahd_true {x y : S45} : ahd x y = true ↔ 0 ≤ x.f5 ∧ x.f5 < y.f4 := by
  unfold ahd
  by_cases h : x.f5 ≥ 0
  · rw [if_pos h]; simp; omega
  · rw [if_neg h]; simp; omega
/-- Calls in an order: each one's end is behind its beginning, the beginnings rise, and of one thread the first one ends ahead. -/
structure Line (C : List S45) : Prop where
  own : ∀ i : Nat, i < C.length → (rd_T45 C (i : Int)).f5 ≥ 0 → (rd_T45 C (i : Int)).f4 < (rd_T45 C (i : Int)).f5
  up : ∀ i j : Nat, i < j → j < C.length → (rd_T45 C (i : Int)).f4 < (rd_T45 C (j : Int)).f4
  thread : ∀ i j : Nat, i < j → j < C.length → (rd_T45 C (i : Int)).f0 = (rd_T45 C (j : Int)).f0 → ahd (rd_T45 C (i : Int)) (rd_T45 C (j : Int)) = true
theorem line_of {E : List S47} (h : ∀ i, i < E.length → wrongB E i = 0) : Line (outB E E.length) := by
  have lenE : (outB E E.length).length = cnt E E.length := by unfold outB cnt; rw [List.length_map]
  have hat : ∀ i : Nat, i < (outB E E.length).length → ∃ q, q < E.length ∧ (ev E q).f1 = false ∧ i = cnt E q ∧ rd_T45 (outB E E.length) (i : Int) = callAt E E.length q := by
    intro i hi
    have hi' : i < (questB E E.length).length := by rw [lenE] at hi; exact hi
    have hq := questB_inj (List.getElem?_eq_getElem hi')
    generalize (questB E E.length)[i] = q at hq
    obtain ⟨q1, q2, q3⟩ := hq
    exact ⟨q, q1, q2, q3, by rw [q3]; exact outB_at q1 q2⟩
  have f4 : ∀ q, (callAt E E.length q).f4 = (q : Int) := fun q => by unfold callAt; split <;> rfl
  have f0 : ∀ q, (callAt E E.length q).f0 = (ev E q).f0 := fun q => by unfold callAt; split <;> rfl
  have hlt : ∀ q q', cnt E q < cnt E q' → q < q' := fun q q' hc => by
    rcases Nat.lt_or_ge q q' with x | x
    · exact x
    · have := cnt_mono (L := E) x; omega
  refine ⟨fun i hi h5 => ?_, fun i j hij hj => ?_, fun i j hij hj hT => ?_⟩
  · obtain ⟨q, q1, q2, q3, q4⟩ := hat i hi
    rw [q4] at h5 ⊢
    rw [f4]
    cases hn : nextB E q E.length with
    | none => simp only [callAt, hn] at h5; exact absurd h5 (by decide)
    | some t =>
      obtain ⟨t1, t2, t3, t4⟩ := nextB_some hn
      simp only [callAt, hn]; omega
  · obtain ⟨q, q1, q2, q3, q4⟩ := hat i (by omega)
    obtain ⟨p, p1, p2, p3, p4⟩ := hat j hj
    rw [q4, p4, f4, f4]
    have := hlt q p (by omega)
    omega
  · obtain ⟨q, q1, q2, q3, q4⟩ := hat i (by omega)
    obtain ⟨p, p1, p2, p3, p4⟩ := hat j hj
    rw [q4, p4] at hT ⊢
    rw [f0, f0] at hT
    have hqp := hlt q p (by omega)
    rw [ahd_true, f4]
    cases hn : nextB E q E.length with
    | none => exact absurd hT.symm (nextB_none hn p hqp p1)
    | some t =>
      obtain ⟨t1, t2, t3, t4⟩ := nextB_some hn
      have hl : lastB E (ev E t).f0 t = some q := by
        rw [t3]
        exact lastB_of t1 rfl (fun k k1 k2 => t4 k k1 k2)
      have ho := opens_of hl q2
      have hr : (ev E t).f1 = true := by
        obtain ⟨g0, g8, hf⟩ := wrong_form (h t t2)
        rcases hf with ⟨_, x, _⟩ | ⟨r, _⟩
        · rw [ho] at x; cases x
        · exact r
      have htp : t < p := by
        rcases Nat.lt_trichotomy t p with x | x | x
        · exact x
        · rw [x, p2] at hr; cases hr
        · exact absurd hT.symm (t4 p hqp x)
      simp only [callAt, hn]
      omega
section
variable (C : List S45)
def rowAll (a : Nat) : Nat → Nat → Bool
  | _, 0 => true
  | b, d + 1 => ahd (rd_T45 C (a : Int)) (rd_T45 C (b : Int)) && rowAll a (b + 1) d
def allFrom : Nat → Nat → Bool
  | _, 0 => true
  | a, d + 1 => rowAll C a (a + 1) (C.length - (a + 1)) && allFrom (a + 1) d
def alone : Nat → Nat → Bool
  | _, 0 => true
  | i, d + 1 => ahd (rd_T45 C ((i - 1 : Nat) : Int)) (rd_T45 C (i : Int)) && alone (i + 1) d
theorem rowAll_true {a d : Nat} : ∀ {b : Nat}, rowAll C a b d = true ↔ ∀ j, b ≤ j → j < b + d → ahd (rd_T45 C (a : Int)) (rd_T45 C (j : Int)) = true := by
  induction d with
  | zero => intro b; simp only [rowAll, true_iff]; intro j h1 h2; omega
  | succ d ih =>
    intro b
    rw [rowAll, Bool.and_eq_true, ih]
    constructor
    · rintro ⟨h1, h2⟩ j j1 j2
      by_cases e : j = b
      · rw [e]; exact h1
      · exact h2 j (by omega) (by omega)
    · intro h
      exact ⟨h b (by omega) (by omega), fun j j1 j2 => h j (by omega) (by omega)⟩
theorem allFrom_true {d : Nat} : ∀ {a : Nat}, a + d = C.length → (allFrom C a d = true ↔ ∀ i j, a ≤ i → i < j → j < C.length → ahd (rd_T45 C (i : Int)) (rd_T45 C (j : Int)) = true) := by
  induction d with
  | zero => intro a ha; simp only [allFrom, true_iff]; intro i j h1 h2 h3; omega
  | succ d ih =>
    intro a ha
    rw [allFrom, Bool.and_eq_true, ih (by omega), rowAll_true]
    constructor
    · rintro ⟨h1, h2⟩ i j i1 i2 i3
      by_cases e : i = a
      · rw [e]; exact h1 j (by omega) (by omega)
      · exact h2 i j (by omega) i2 i3
    · intro h
      exact ⟨fun j j1 j2 => h a j (Nat.le_refl _) (by omega) (by omega), fun i j i1 i2 i3 => h i j (by omega) i2 i3⟩
theorem alone_true {d : Nat} : ∀ {i : Nat}, 1 ≤ i → (alone C i d = true ↔ ∀ j, i ≤ j → j < i + d → ahd (rd_T45 C ((j - 1 : Nat) : Int)) (rd_T45 C (j : Int)) = true) := by
  induction d with
  | zero => intro i hi; simp only [alone, true_iff]; intro j h1 h2; omega
  | succ d ih =>
    intro i hi
    rw [alone, Bool.and_eq_true, ih (by omega)]
    constructor
    · rintro ⟨h1, h2⟩ j j1 j2
      by_cases e : j = i
      · rw [e]; exact h1
      · exact h2 j (by omega) (by omega)
    · intro h
      exact ⟨h i (by omega) (by omega), fun j j1 j2 => h j (by omega) (by omega)⟩
theorem alone_eq_all (hC : Line C) : alone C 1 (C.length - 1) = allFrom C 0 C.length := by
  rw [Bool.eq_iff_iff, alone_true C (Nat.le_refl 1), allFrom_true C (by omega)]
  constructor
  · intro h i j _ hij hj
    have h1 := ahd_true.1 (h (i + 1) (by omega) (by omega))
    rw [show i + 1 - 1 = i by omega] at h1
    rw [ahd_true]
    by_cases e : i + 1 = j
    · rw [e] at h1; exact h1
    · have := hC.up (i + 1) j (by omega) hj
      omega
  · intro h j j1 j2
    exact h (j - 1) j (by omega) (by omega) (by omega)
theorem alone_loop (hl : C.length < 1000000) (d : Nat) : ∀ i k : Nat, 1 ≤ i → i + d = C.length ∨ (d = 0 ∧ C.length ≤ i) → d < k → history_Alone.l0 k C (i : Int) = some (alone C i d) := by
  induction d with
  | zero =>
    intro i k hi hd hk
    obtain ⟨k, rfl⟩ : ∃ k', k = k' + 1 := ⟨k - 1, by omega⟩
    rw [history_Alone.l0, if_neg (by omega)]
    rfl
  | succ d ih =>
    intro i k hi hd hk
    obtain ⟨k, rfl⟩ : ∃ k', k = k' + 1 := ⟨k - 1, by omega⟩
    have e : wrap64 ((i : Int) - 1) = ((i - 1 : Nat) : Int) := by unfold wrap64; omega
    rw [history_Alone.l0, if_pos (by omega), e, if_pos (by omega), if_pos (by omega), if_pos (by omega), ahead_eq, bs, w_nat i (by omega), alone]
    cases ahd (rd_T45 C ((i - 1 : Nat) : Int)) (rd_T45 C (i : Int))
    · rfl
    · rw [if_pos rfl, Bool.true_and]
      exact ih (i + 1) k (by omega) (by omega) (by omega)
variable (hC : Line C) (x1 x2 x3 : Int) (hl : C.length < 1000000)
include hC hl
theorem order_row (R : Option Bool) (B a : Nat) (x : Bool) (ha : a < C.length) (hR : ∀ k, B ≤ k → hatstandlaw14_HistoryOrder.l0 k x1 x2 x3 C (x && rowAll C a (a + 1) (C.length - (a + 1))) ((a + 1 : Nat) : Int) = R) (d : Nat) :
    ∀ (b k : Nat) (y : Bool), a < b → b + d = C.length → (y && rowAll C a b d) = (x && rowAll C a (a + 1) (C.length - (a + 1))) → B + 3 * d + 1 ≤ k → hatstandlaw14_HistoryOrder.l1 k x1 x2 x3 C y (a : Int) (b : Int) = R := by
  induction d with
  | zero =>
    intro b k y hab hb hy hk
    obtain ⟨k, rfl⟩ : ∃ k', k = k' + 1 := ⟨k - 1, by omega⟩
    rw [hatstandlaw14_HistoryOrder.l1, if_neg (by omega), w_nat a (by omega), ← hR k (by omega), ← hy]
    simp [rowAll]
  | succ d ih =>
    intro b k y hab hb hy hk
    obtain ⟨k, rfl⟩ : ∃ k', k = k' + 3 := ⟨k - 3, by omega⟩
    have h3 : hatstandlaw14_HistoryOrder.j3 (k + 2) x1 x2 x3 C (y && ahd (rd_T45 C (a : Int)) (rd_T45 C (b : Int))) (a : Int) (b : Int) = R := by
      have nb : ahd (rd_T45 C (b : Int)) (rd_T45 C (a : Int)) = false := by
        rw [Bool.eq_false_iff]
        intro hb'
        have h1 := ahd_true.1 hb'
        have h2 := hC.own b (by omega) h1.1
        have h3 := hC.up a b hab (by omega)
        omega
      have h4 : hatstandlaw14_HistoryOrder.j4 (k + 1) x1 x2 x3 C (y && ahd (rd_T45 C (a : Int)) (rd_T45 C (b : Int))) (a : Int) (b : Int) false = R := by
        rw [hatstandlaw14_HistoryOrder.j4, if_neg (by decide), w_nat b (by omega)]
        refine ih (b + 1) k _ (by omega) (by omega) ?_ (by omega)
        rw [← hy, rowAll, Bool.and_assoc]
      rw [hatstandlaw14_HistoryOrder.j3, if_pos (by omega), if_pos (by omega), if_pos (by omega), if_pos (by omega), ahead_eq, bs, nb, if_neg (by decide), ahead_eq]
      by_cases e : (rd_T45 C (a : Int)).f0 = (rd_T45 C (b : Int)).f0
      · rw [if_pos e, bs]
        have := hC.thread a b hab (by omega) e
        rw [this] at h4 ⊢
        exact h4
      · rw [if_neg e]; exact h4
    rw [hatstandlaw14_HistoryOrder.l1, if_pos (by omega)]
    cases y
    · rw [if_neg (by decide)]
      simpa using h3
    · rw [if_pos rfl, if_pos (by omega), if_pos (by omega), if_pos (by omega), ahead_eq, bs]
      simpa using h3
theorem order_loop (b1 : -9223372036854775808 ≤ x1 ∧ x1 ≤ 9223372036854775807) (b2 : -9223372036854775808 ≤ x2 ∧ x2 ≤ 9223372036854775807) (b3 : -9223372036854775808 ≤ x3 ∧ x3 ≤ 9223372036854775807) (d : Nat) :
    ∀ (a k : Nat) (x : Bool), a + d = C.length → (x && allFrom C a d) = allFrom C 0 C.length → d * (3 * C.length + 5) + C.length + 3 ≤ k → hatstandlaw14_HistoryOrder.l0 k x1 x2 x3 C x (a : Int) = some true := by
  induction d with
  | zero =>
    intro a k x ha hx hk
    obtain ⟨k, rfl⟩ : ∃ k', k = k' + 1 := ⟨k - 1, by omega⟩
    have hal : history_Alone.f k C = some (alone C 1 (C.length - 1)) := by
      unfold history_Alone.f
      have := alone_loop C hl (C.length - 1) 1 k (Nat.le_refl _) (by omega) (by omega)
      simpa using this
    simp only [allFrom, Bool.and_true] at hx
    rw [hatstandlaw14_HistoryOrder.l0, if_neg (by omega), hal, bs, alone_eq_all C hC, hx, show (allFrom C 0 C.length != allFrom C 0 C.length) = false by simp, if_neg (by decide)]
    by_cases z : (C.length : Int) = 0
    · rw [if_pos z]
    · rw [if_neg z]
      obtain ⟨p, hp, p0, p1⟩ := pick_some x1 (C.length : Int) (by omega) b1.1 b1.2
      obtain ⟨q, hq, q0, q1⟩ := pick_some x2 (C.length : Int) (by omega) b2.1 b2.2
      obtain ⟨r, hr, r0, r1⟩ := pick_some x3 (C.length : Int) (by omega) b3.1 b3.2
      obtain ⟨p, rfl⟩ : ∃ n : Nat, p = (n : Int) := ⟨p.toNat, by omega⟩
      obtain ⟨q, rfl⟩ : ∃ n : Nat, q = (n : Int) := ⟨q.toNat, by omega⟩
      obtain ⟨r, rfl⟩ : ∃ n : Nat, r = (n : Int) := ⟨r.toNat, by omega⟩
      rw [hp, bs, if_pos p0, if_pos p1, hq, bs, if_pos q0, if_pos q1, hr, bs, if_pos r0, if_pos r1, ahead_eq, bs]
      have n1 : ahd (rd_T45 C (p : Int)) (rd_T45 C (p : Int)) = false := by
        rw [Bool.eq_false_iff]
        intro hb'
        have h1 := ahd_true.1 hb'
        have h2 := hC.own p (by omega) h1.1
        omega
      rw [n1, if_neg (by decide), ahead_eq, bs]
      cases h1 : ahd (rd_T45 C (p : Int)) (rd_T45 C (q : Int))
      · rw [if_neg (by decide)]
      · rw [if_pos rfl, ahead_eq, bs]
        cases h2 : ahd (rd_T45 C (q : Int)) (rd_T45 C (r : Int))
        · rw [if_neg (by decide)]
        · rw [if_pos rfl, ahead_eq, bs]
          have g1 := ahd_true.1 h1
          have g2 := ahd_true.1 h2
          have g3 := hC.own q (by omega) g2.1
          have : ahd (rd_T45 C (p : Int)) (rd_T45 C (r : Int)) = true := by
            rw [ahd_true]; omega
          rw [this]
  | succ d ih =>
    intro a k x ha hx hk
    obtain ⟨k, rfl⟩ : ∃ k', k = k' + 1 := ⟨k - 1, by omega⟩
    have hb : (d + 1) * (3 * C.length + 5) = d * (3 * C.length + 5) + (3 * C.length + 5) := by rw [Nat.add_mul, Nat.one_mul]
    rw [hatstandlaw14_HistoryOrder.l0, if_pos (by omega), w_nat a (by omega)]
    refine order_row C hC x1 x2 x3 hl (some true) (d * (3 * C.length + 5) + C.length + 3) a x (by omega) (fun k' hk' => ?_) (C.length - (a + 1)) (a + 1) k x (by omega) (by omega) rfl (by omega)
    refine ih (a + 1) k' _ (by omega) ?_ hk'
    rw [← hx, allFrom, Bool.and_assoc]
end
theorem HistoryOrder : hatstandlaw14_HistoryOrder.Pure := by
  intro l0 a1 a2 a3 h1 h2 h3 w1 w2 w3
  by_cases c : (l0.length : Int) > 100
  · refine ⟨5, ?_⟩
    unfold hatstandlaw14_HistoryOrder.f
    rw [hist_shown 1, bs, if_pos rfl, decide_eq_true c, hatstandlaw14_HistoryOrder.j0, if_pos rfl]
  · have hn : l0.length ≤ 100 := by omega
    generalize hK : 100 * (3 * 100 + 5) + 1000 = K
    have hK' : 31500 = K := by rw [← hK]
    refine ⟨K + 1 + 4, ?_⟩
    unfold hatstandlaw14_HistoryOrder.f
    rw [hist_shown, bs, if_pos rfl, decide_eq_false c, show K + 1 + 4 = (K + 4) + 1 by omega, hatstandlaw14_HistoryOrder.j0, if_neg (by decide)]
    obtain ⟨E, hE, hlen, hr⟩ := events_all l0 (by omega) h3 (K + 4) (by omega)
    have c1 := calls_right (L := E) (by omega) hr
    rw [hE, bs]
    unfold history_Calls.f
    rw [c1]
    simp only [bs, if_true]
    have hce : (outB E E.length).length ≤ 100 := by
      unfold outB
      rw [List.length_map]
      have := cnt_le E E.length
      unfold cnt at this
      omega
    have hk : (outB E E.length).length * (3 * (outB E E.length).length + 5) ≤ 100 * (3 * 100 + 5) := Nat.mul_le_mul hce (by omega)
    have := order_loop (outB E E.length) (line_of hr) a1 a2 a3 (by omega) (wf_i64 w1) (wf_i64 w2) (wf_i64 w3) (outB E E.length).length 0 (K + 4) true (by omega) (by simp) (by omega)
    simpa using this
end Go.Proofs.Ytmdjmfbinjnlcaa.Pure
