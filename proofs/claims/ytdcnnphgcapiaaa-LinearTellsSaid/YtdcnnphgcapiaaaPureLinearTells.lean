/- LinearTells: whether any calls may have been done in any order, and the first order in which they may, are as the reference says: for every input. -/
import Derived.Test.YtdcnnphgcapiaaaPx23
import Derived.Laws.Bits64
set_option linter.unusedVariables false
set_option linter.unusedSimpArgs false
namespace Go.Proofs.Ytdcnnphgcapiaaa.Pure
open Go.RowKit Go.Proofs.Ytdcnnphgcapiaaa.P Go.Proofs.YtdcnnphgcapiaaaW.PrintWords Go.Proofs.YtdcnnphgcapiaaaW.PrintLast
/-- 'Option.bind_some', but no law by definition: so Lean's kernel need not compare what the two sides unfold to. -/
theorem bs {α β : Type} (x : α) (f : α → Option β) : (some x).bind f = f x := by rw [Option.bind_some]
theorem wf_i64 {x : Int} (h : (Lit.int .i64 x).wf = true) : -9223372036854775808 ≤ x ∧ x ≤ 9223372036854775807 := by
  simp [Lit.wf, IntKind.min, IntKind.max, IntKind.signed, IntKind.bits] at h; omega
theorem wf_u64 {x : Int} (h : (Lit.int .u64 x).wf = true) : 0 ≤ x ∧ x < 18446744073709551616 := by
  simp [Lit.wf, IntKind.min, IntKind.max, IntKind.signed, IntKind.bits] at h; omega
theorem w_nat {i : Nat} (h : i < 1000000000) : wrap64 ((i : Int) + 1) = ((i + 1 : Nat) : Int) := by unfold wrap64; omega
/-- One step of an order: the call k comes next. -/
def stepS (l : List S30) (m : Int) (C : List Bool) (s : List Int) (k : Int) : Option (List Bool × List Int) :=
  if 0 ≤ k ∧ k < (l.length : Int) ∧ linMayB l k C = true then (linDone s m (rd_T30 l k)).map (fun t => (C.set k.toNat true, t)) else none
/-- Calls, one behind the other. -/
def runS (l : List S30) (m : Int) : List Bool → List Int → List Int → Option (List Bool × List Int)
  | C, s, [] => some (C, s)
  | C, s, k :: e => (stepS l m C s k).bind fun q => runS l m q.1 q.2 e
def start (l : List S30) : List Bool := List.replicate l.length false
/-- An order fits. -/
def fitsB (l : List S30) (m : Int) (e : List Int) : Bool := match runS l m (start l) [] e with | some q => linOverB l q.1 | none => false
theorem runS_nil (l : List S30) (m : Int) (C : List Bool) (s : List Int) : runS l m C s [] = some (C, s) := rfl
theorem runS_cons (l : List S30) (m : Int) (C : List Bool) (s : List Int) (k : Int) (e : List Int) : runS l m C s (k :: e) = (stepS l m C s k).bind fun q => runS l m q.1 q.2 e := rfl
theorem runS_append (l : List S30) (m : Int) (e2 : List Int) : ∀ (e1 : List Int) (C : List Bool) (s : List Int), runS l m C s (e1 ++ e2) = (runS l m C s e1).bind fun q => runS l m q.1 q.2 e2 := by
  intro e1
  induction e1 with
  | nil => intro C s; rfl
  | cons k e ih =>
    intro C s
    rw [List.cons_append, runS_cons, runS_cons]
    cases stepS l m C s k with
    | none => rfl
    | some q => simp only [Option.bind_some]; exact ih _ _
theorem stepS_some {l : List S30} {m : Int} {C C' : List Bool} {s s' : List Int} {k : Int} : stepS l m C s k = some (C', s') ↔ 0 ≤ k ∧ k < (l.length : Int) ∧ linMayB l k C = true ∧ linDone s m (rd_T30 l k) = some s' ∧ C' = C.set k.toNat true := by
  unfold stepS
  constructor
  · intro h
    split at h
    · rename_i hc
      obtain ⟨t, ht, he⟩ := Option.map_eq_some_iff.1 h
      simp only [Prod.mk.injEq] at he
      obtain ⟨rfl, rfl⟩ := he
      exact ⟨hc.1, hc.2.1, hc.2.2, ht, rfl⟩
    · cases h
  · rintro ⟨h1, h2, h3, h4, rfl⟩
    rw [if_pos ⟨h1, h2, h3⟩, h4]
    rfl
theorem runS_cons_some {l : List S30} {m : Int} {C C' : List Bool} {s s' : List Int} {k : Int} {e : List Int} : runS l m C s (k :: e) = some (C', s') ↔ 0 ≤ k ∧ k < (l.length : Int) ∧ linMayB l k C = true ∧ ∃ t, linDone s m (rd_T30 l k) = some t ∧ runS l m (C.set k.toNat true) t e = some (C', s') := by
  rw [runS_cons]
  constructor
  · intro h
    obtain ⟨⟨D, t⟩, hq, hr⟩ := Option.bind_eq_some_iff.1 h
    obtain ⟨h1, h2, h3, h4, rfl⟩ := stepS_some.1 hq
    exact ⟨h1, h2, h3, t, h4, hr⟩
  · rintro ⟨h1, h2, h3, t, h4, h5⟩
    rw [stepS_some.2 ⟨h1, h2, h3, h4, rfl⟩]
    exact h5
theorem may_not {l : List S30} {k : Int} {C : List Bool} (h : linMayB l k C = true) : rdOf false C k = false := by
  unfold linMayB at h; simp at h; exact h.2
theorem may_iff {l : List S30} {k : Int} {C : List Bool} : linMayB l k C = true ↔ rdOf false C k = false ∧ ∀ i : Nat, i < l.length → (i : Int) ≠ k → rdOf false C (i : Int) = false → linAhead (rd_T30 l (i : Int)) (rd_T30 l k) = false := by
  unfold linMayB
  rw [Bool.and_eq_true, List.all_eq_true]
  constructor
  · rintro ⟨h1, h2⟩
    refine ⟨by simpa using h2, fun i hi hk hc => ?_⟩
    have := h1 i (by simp [List.mem_range'_1]; exact hi)
    simp [hk, hc] at this
    exact this
  · rintro ⟨h1, h2⟩
    refine ⟨fun i hi => ?_, by simpa using h1⟩
    have hi' : i < l.length := by simp [List.mem_range'_1] at hi; exact hi
    by_cases hk : (i : Int) = k
    · simp [hk]
    · cases hc : rdOf false C (i : Int)
      · simp [h2 i hi' hk hc]
      · simp
theorem over_iff {l : List S30} {C : List Bool} : linOverB l C = true ↔ ∀ i : Nat, i < l.length → 0 ≤ (rd_T30 l (i : Int)).f5 → rdOf false C (i : Int) = true := by
  unfold linOverB
  rw [List.all_eq_true]
  constructor
  · intro h i hi h5
    have := h i (by simp [List.mem_range'_1]; exact hi)
    simp [h5] at this
    exact this
  · intro h i hi
    have hi' : i < l.length := by simp [List.mem_range'_1] at hi; exact hi
    by_cases h5 : 0 ≤ (rd_T30 l (i : Int)).f5
    · simp [h i hi' h5]
    · simp [h5]
theorem runS_count {l : List S30} {m : Int} : ∀ {e : List Int} {C C' : List Bool} {s s' : List Int}, C.length = l.length → runS l m C s e = some (C', s') → C'.length = l.length ∧ C'.count true = C.count true + e.length ∧ s'.length ≤ s.length + e.length := by
  intro e
  induction e with
  | nil =>
    intro C C' s s' hC h
    rw [runS_nil] at h
    injection h with h
    injection h with h1 h2
    subst h1; subst h2
    exact ⟨hC, by simp, by simp⟩
  | cons k e ih =>
    intro C C' s s' hC h
    obtain ⟨h0, h1, h2, t, h3, h4⟩ := runS_cons_some.1 h
    obtain ⟨a1, a2, a3⟩ := ih (by rw [List.length_set]; exact hC) h4
    have hk : rdOf false C ((k.toNat : Nat) : Int) = false := by rw [show ((k.toNat : Nat) : Int) = k by omega]; exact may_not h2
    have hcnt := lin_count (C := C) (i := k.toNat) (by omega) hk
    have hl := linDone_len h3
    refine ⟨a1, by rw [a2, hcnt]; simp; omega, by simp; omega⟩
theorem runS_len {l : List S30} {m : Int} {e : List Int} {C' : List Bool} {s' : List Int} (h : runS l m (start l) [] e = some (C', s')) : e.length ≤ l.length := by
  obtain ⟨h1, h2, _⟩ := runS_count (by unfold start; simp) h
  have := List.count_le_length (a := true) (l := C')
  omega
theorem rd_drop {L : List Int} {i : Nat} {x : Int} {e : List Int} (h : L.drop i = x :: e) : i < L.length ∧ rd L (i : Int) = x ∧ L.drop (i + 1) = e := by
  have hi : i < L.length := by
    rcases Nat.lt_or_ge i L.length with h1 | h1
    · exact h1
    · rw [List.drop_eq_nil_of_le h1] at h; cases h
  rw [List.drop_eq_getElem_cons hi] at h
  injection h with h1 h2
  refine ⟨hi, ?_, h2⟩
  unfold rd
  rw [List.getD_eq_getElem?_getD, Int.toNat_natCast, List.getElem?_eq_getElem hi]
  exact h1
theorem lin_fits_l0 (l : List S30) (m : Int) (L : List Int) (hn : l.length < 1000000) (hL : L.length < 100000) : ∀ (e : List Int) (i k : Nat) (C : List Bool) (s : List Int), L.drop i = e → C.length = l.length → s.length + e.length ≤ 100000 → i ≤ L.length → 2 * e.length + 2 * l.length + 4 ≤ k →
    linear_Fits.l0 k l m C s L (L.length : Int) (i : Int) = some (match runS l m C s e with | some q => linOverB l q.1 | none => false) := by
  intro e
  induction e with
  | nil =>
    intro i k C s he hC hs hi hk
    obtain ⟨k, rfl⟩ : ∃ q, k = q + 1 := ⟨k - 1, by omega⟩
    have hi2 : L.length ≤ i := by rcases Nat.lt_or_ge i L.length with h | h; rw [List.drop_eq_getElem_cons h] at he; cases he; exact h
    unfold linear_Fits.l0
    rw [if_neg (by omega), lin_over hC (by omega) (by omega), bs, runS_nil]
  | cons x e ih =>
    intro i k C s he hC hs hi hk
    obtain ⟨hi2, hx, he2⟩ := rd_drop he
    simp only [List.length_cons] at hs hk
    obtain ⟨k, rfl⟩ : ∃ q, k = q + 2 := ⟨k - 2, by omega⟩
    unfold linear_Fits.l0
    rw [if_pos (by omega), if_pos (by omega), if_pos (by omega), hx, runS_cons]
    have hno : ∀ b : Bool, b = true → linear_Fits.j1 (k + 1) l m C s x L (L.length : Int) (i : Int) b = some false := by
      intro b hb; unfold linear_Fits.j1; rw [if_pos hb]
    by_cases h0 : x < 0
    · rw [if_pos h0, hno _ rfl]
      have : stepS l m C s x = none := by unfold stepS; rw [if_neg (by omega)]
      rw [this]; rfl
    · rw [if_neg h0]
      by_cases h1 : x ≥ (l.length : Int)
      · rw [if_pos h1, hno _ rfl]
        have : stepS l m C s x = none := by unfold stepS; rw [if_neg (by omega)]
        rw [this]; rfl
      · rw [if_neg h1, lin_may hC (by omega) (by omega) (by omega) (by omega), bs]
        cases hm : linMayB l x C
        · rw [hno _ (by simp)]
          have : stepS l m C s x = none := by unfold stepS; rw [if_neg (by simp [hm])]
          rw [this]; rfl
        · unfold linear_Fits.j1
          rw [if_neg (by simp), if_pos (by omega), if_pos (by omega), lin_done _ _ (by omega) (by omega), bs]
          cases hd : linDone s m (rd_T30 l x) with
          | none =>
            have : stepS l m C s x = none := by unfold stepS; rw [if_pos ⟨by omega, by omega, hm⟩, hd]; rfl
            rw [this]
            simp
          | some t =>
            have : stepS l m C s x = some (C.set x.toNat true, t) := stepS_some.2 ⟨by omega, by omega, hm, hd, rfl⟩
            have hlen := linDone_len hd
            rw [this]
            simp only [Option.bind_some, if_true]
            rw [if_pos (by omega), w_nat (by omega)]
            exact ih (i + 1) k _ t he2 (by rw [List.length_set]; exact hC) (by omega) (by omega) (by omega)
theorem lin_fits {l : List S30} {m : Int} {L : List Int} (hn : l.length < 1000000) (hL : L.length < 100000) {k : Nat} (hk : 2 * L.length + 2 * l.length + 4 ≤ k) : linear_Fits.f k l m L = some (fitsB l m L) := by
  unfold linear_Fits.f fitsB
  rw [if_pos (by omega), if_pos (by omega)]
  have h := lin_fits_l0 l m L hn hL L 0 k (start l) [] rfl (by unfold start; simp) (by simp; omega) (by omega) hk
  simp only [Int.toNat_natCast]
  exact h
theorem try_sound {l : List S30} {m : Int} : ∀ {q : Nat} {C : List Bool} {p s r : List Int}, linTry l m q C p s = some r → ∃ e C' s', r = p ++ e ∧ runS l m C s e = some (C', s') ∧ linOverB l C' = true := by
  intro q
  induction q with
  | zero => intro C p s r h; simp [linTry] at h
  | succ q ih =>
    intro C p s r h
    rw [linTry_succ] at h
    split at h
    · rename_i ho
      injection h with h
      exact ⟨[], C, s, by simp [h], rfl, ho⟩
    · obtain ⟨k, hk, hf⟩ := List.exists_of_findSome?_eq_some h
      have hk' : k < l.length := by simp [List.mem_range'_1] at hk; exact hk
      unfold linF at hf
      split at hf
      · rename_i hm
        split at hf
        · rename_i t ht
          obtain ⟨e, C', s', he, hr, ho⟩ := ih hf
          refine ⟨(k : Int) :: e, C', s', by rw [he]; simp, ?_, ho⟩
          exact runS_cons_some.2 ⟨by omega, by omega, hm, t, ht, by simpa using hr⟩
        · cases hf
      · cases hf
theorem try_complete {l : List S30} {m : Int} {C' : List Bool} {s' : List Int} (ho : linOverB l C' = true) : ∀ {e : List Int} {q : Nat} {C : List Bool} {p s : List Int}, C.length = l.length → l.length + 1 ≤ q + C.count true → runS l m C s e = some (C', s') → linTry l m q C p s ≠ none := by
  intro e
  induction e with
  | nil =>
    intro q C p s hC hq h
    rw [runS_nil] at h
    injection h with h
    injection h with h1 h2
    have := List.count_le_length (a := true) (l := C)
    obtain ⟨q, rfl⟩ : ∃ z, q = z + 1 := ⟨q - 1, by omega⟩
    rw [linTry_succ, if_pos (by rw [h1]; exact ho)]
    simp
  | cons k e ih =>
    intro q C p s hC hq h
    obtain ⟨h0, h1, h2, t, h3, h4⟩ := runS_cons_some.1 h
    have := List.count_le_length (a := true) (l := C)
    obtain ⟨q, rfl⟩ : ∃ z, q = z + 1 := ⟨q - 1, by omega⟩
    rw [linTry_succ]
    split
    · simp
    · intro hn
      have hk : ((k.toNat : Nat) : Int) = k := by omega
      have hf := List.findSome?_eq_none_iff.1 hn k.toNat (by simp [List.mem_range'_1]; omega)
      unfold linF at hf
      rw [hk, if_pos h2, h3] at hf
      have hcnt := lin_count (C := C) (i := k.toNat) (by omega) (by rw [hk]; exact may_not h2)
      exact ih (by rw [List.length_set]; exact hC) (by rw [hcnt]; omega) h4 hf
/-- What Find tells. -/
def findB (l : List S30) (m : Int) : Option (List Int) := linTry l m (l.length + 1) (start l) [] []
theorem lin_find {l : List S30} {m : Int} (hn : l.length ≤ 6) : linear_Find.f l m = some (match findB l m with | some p => (p, true) | none => ([], false)) := by
  unfold linear_Find.f
  rw [if_pos hn]
  rfl
theorem find_some {l : List S30} {m : Int} {p : List Int} (h : findB l m = some p) : fitsB l m p = true ∧ p.length ≤ l.length := by
  obtain ⟨e, C', s', he, hr, ho⟩ := try_sound h
  rw [List.nil_append] at he
  subst he
  exact ⟨by unfold fitsB; rw [hr]; exact ho, runS_len hr⟩
theorem fits_run {l : List S30} {m : Int} {e : List Int} (h : fitsB l m e = true) : ∃ C' s', runS l m (start l) [] e = some (C', s') ∧ linOverB l C' = true := by
  unfold fitsB at h
  split at h
  · rename_i q hq
    exact ⟨q.1, q.2, hq, h⟩
  · cases h
theorem find_of_fits {l : List S30} {m : Int} {e : List Int} (h : fitsB l m e = true) : ∃ p, findB l m = some p := by
  obtain ⟨C', s', hr, ho⟩ := fits_run h
  have := try_complete ho (q := l.length + 1) (p := []) (by unfold start; simp) (by omega) hr
  exact Option.ne_none_iff_exists'.1 this
theorem find_none {l : List S30} {m : Int} (h : findB l m = none) (e : List Int) : fitsB l m e = false := by
  cases hf : fitsB l m e
  · rfl
  · obtain ⟨p, hp⟩ := find_of_fits hf
    rw [h] at hp; cases hp
/-- A raw number picks one of n things. -/
theorem pick_of (c n : Int) (h0 : -9223372036854775808 ≤ c) (h1 : c ≤ 9223372036854775807) (hn : 0 < n) : ∃ p, hatstandlaw15_pick.f c n = some p ∧ 0 ≤ p ∧ p < n := by
  unfold hatstandlaw15_pick.f
  have hn0 : ¬ n = 0 := by omega
  by_cases hc : c < 0
  · rw [if_pos hc, if_neg hn0]
    have e : wrap64 (-(wrap64 (c + 1))) = -(c + 1) := by unfold wrap64; omega
    rw [e]
    exact ⟨_, rfl, Int.tmod_nonneg _ (by omega), Int.tmod_lt_of_pos _ hn⟩
  · rw [if_neg hc, if_neg hn0]
    exact ⟨_, rfl, Int.tmod_nonneg _ (by omega), Int.tmod_lt_of_pos _ hn⟩
theorem same_l0 (a b : List Int) (hab : a.length = b.length) (hl : a.length < 1000000) : ∀ (d i k : Nat), i + d = a.length → d + 1 ≤ k → hatstandref15_SameInts.l0 k a b (i : Int) = some (decide (a.drop i = b.drop i)) := by
  intro d
  induction d with
  | zero =>
    intro i k hi hk
    obtain ⟨k, rfl⟩ : ∃ q, k = q + 1 := ⟨k - 1, by omega⟩
    unfold hatstandref15_SameInts.l0
    rw [if_neg (by omega), List.drop_eq_nil_of_le (by omega), List.drop_eq_nil_of_le (by omega)]
    simp
  | succ d ih =>
    intro i k hi hk
    obtain ⟨k, rfl⟩ : ∃ q, k = q + 1 := ⟨k - 1, by omega⟩
    have ha : rd a (i : Int) = a[i] := by unfold rd; rw [List.getD_eq_getElem?_getD, Int.toNat_natCast, List.getElem?_eq_getElem (by omega)]; rfl
    have hb : rd b (i : Int) = b[i] := by unfold rd; rw [List.getD_eq_getElem?_getD, Int.toNat_natCast, List.getElem?_eq_getElem (by omega)]; rfl
    unfold hatstandref15_SameInts.l0
    rw [if_pos (by omega), if_pos (by omega), if_pos (by omega), ha, hb, List.drop_eq_getElem_cons (by omega), List.drop_eq_getElem_cons (l := b) (by omega)]
    by_cases h : a[i] = b[i]
    · rw [if_pos h, w_nat (by omega), ih (i + 1) k (by omega) (by omega), h]
      simp only [List.cons.injEq, true_and]
    · rw [if_neg h]
      simp only [List.cons.injEq, h, false_and, decide_false]
theorem same_ints {a b : List Int} (hl : a.length < 1000000) {k : Nat} (hk : a.length + 1 ≤ k) : hatstandref15_SameInts.f k a b = some (decide (a = b)) := by
  unfold hatstandref15_SameInts.f
  by_cases h : a.length = b.length
  · rw [if_pos (by omega)]
    have := same_l0 a b h hl a.length 0 k (by omega) hk
    simpa using this
  · rw [if_neg (by omega)]
    have : ¬ a = b := fun he => h (by rw [he])
    simp [this]
theorem shown_true {k : Nat} (hk : 20 ≤ k) : hatstandlaw15_shown.f k = some true := by
  unfold hatstandlaw15_shown.f
  have e1 : linear_Find.f [(⟨0, true, 5, 1, 0, 3⟩ : S30), (⟨1, false, 5, 1, 1, 2⟩ : S30)] 4 = some ([0, 1], true) := by decide
  have e2 : fitsB [(⟨0, true, 5, 1, 0, 3⟩ : S30), (⟨1, false, 5, 1, 1, 2⟩ : S30)] 4 [1, 0] = false := by decide
  rw [bs, e1, bs, if_pos rfl, same_ints (by decide) (by simp; omega), bs, if_pos (by decide), lin_fits (by decide) (by decide) (by simp; omega), bs, e2]
  rfl
theorem ref_push {s : List Int} (m v : Int) (hs : s.length < 1000000) : hatstandref5_Push.f s m v = some (stPush s m v) := by
  unfold hatstandref5_Push.f stPush
  rw [bs, if_pos (by simp; omega), bs]
  by_cases h : (s.length : Int) < m
  · rw [if_pos h, if_pos (by simp; omega), if_neg (by omega)]; simp
  · rw [if_neg h, if_pos (by omega)]; simp
theorem ref_pop {s : List Int} (hs : s.length < 1000000) : hatstandref5_Pop.f s = some (stPop s) := by
  have e : wrap64 ((s.length : Int) - 1) = (s.length : Int) - 1 := by unfold wrap64; omega
  unfold hatstandref5_Pop.f stPop
  rw [e]
  by_cases h : s.length = 0
  · rw [if_pos (by omega), if_pos h]
  · rw [if_neg (by omega), if_neg h, bs, if_pos (by omega), if_pos (by omega), if_pos (by simp; omega), if_pos (by omega), show ((s.length : Int) - 1).toNat = s.length - 1 by omega]
    simp
/-- What a stack answers. -/
def stStatus (s : List Int) (m : Int) (push : Bool) (v : Int) : List Int × Int × Int := if push = true then ((stPush s m v).1, v, (stPush s m v).2) else stPop s
theorem ref_status {s : List Int} (m : Int) (push : Bool) (v : Int) (hs : s.length < 1000000) : hatstandref15_Status.f s m push v = some (stStatus s m push v) := by
  unfold hatstandref15_Status.f stStatus
  by_cases h : push = true
  · rw [if_pos h, if_pos h, ref_push _ _ hs, bs]
  · rw [if_neg h, if_neg h, ref_pop hs, bs]
theorem w_id {i : Int} (h0 : -9223372036854775808 ≤ i) (h1 : i ≤ 9223372036854775807) : wrap64 i = i := by unfold wrap64; omega
theorem w_in (x : Int) : -9223372036854775808 ≤ wrap64 x ∧ wrap64 x ≤ 9223372036854775807 := by unfold wrap64; omega
theorem rdT_app1 {l : List S30} (x : S30) {i : Nat} (h : i < l.length) : rd_T30 (l ++ [x]) (i : Int) = rd_T30 l (i : Int) := by
  unfold rd_T30
  rw [List.getD_eq_getElem?_getD, List.getD_eq_getElem?_getD, Int.toNat_natCast, List.getElem?_append_left h]
theorem rdT_app2 (l : List S30) (x : S30) : rd_T30 (l ++ [x]) (l.length : Int) = x := by
  unfold rd_T30
  rw [List.getD_eq_getElem?_getD, Int.toNat_natCast, List.getElem?_append_right (Nat.le_refl _)]
  simp
theorem rdB_app1 {C : List Bool} (b : Bool) {i : Nat} (h : i < C.length) : rdOf false (C ++ [b]) (i : Int) = rdOf false C (i : Int) := by
  unfold rdOf
  rw [List.getD_eq_getElem?_getD, List.getD_eq_getElem?_getD, Int.toNat_natCast, List.getElem?_append_left h]
theorem rdB_app2 (C : List Bool) (b : Bool) : rdOf false (C ++ [b]) (C.length : Int) = b := by
  unfold rdOf
  rw [List.getD_eq_getElem?_getD, Int.toNat_natCast, List.getElem?_append_right (Nat.le_refl _)]
  simp
theorem rdB_set {C : List Bool} {i : Nat} {b : Bool} (j : Nat) (hi : i < C.length) : rdOf false (C.set i b) (j : Int) = if j = i then b else rdOf false C (j : Int) := by
  unfold rdOf
  rw [List.getD_eq_getElem?_getD, List.getD_eq_getElem?_getD, Int.toNat_natCast, List.getElem?_set]
  by_cases h : i = j
  · subst h; rw [if_pos rfl, if_pos hi, if_pos rfl]; rfl
  · rw [if_neg h, if_neg (fun h2 => h h2.symm)]
/-- A step goes on where there is one more call that came, or that isn't ahead. -/
theorem step_more {l : List S30} {m : Int} {C C' : List Bool} {s s' : List Int} {k : Int} (x : S30) (b : Bool) (hC : C.length = l.length) (hb : b = true ∨ linAhead x (rd_T30 l k) = false) (h : stepS l m C s k = some (C', s')) :
    stepS (l ++ [x]) m (C ++ [b]) s k = some (C' ++ [b], s') := by
  obtain ⟨h0, h1, h2, h3, rfl⟩ := stepS_some.1 h
  obtain ⟨c1, c2⟩ := may_iff.1 h2
  have hk : ((k.toNat : Nat) : Int) = k := by omega
  have hkl : k.toNat < l.length := by omega
  have er : rd_T30 (l ++ [x]) k = rd_T30 l k := by have := rdT_app1 x hkl; rwa [hk] at this
  refine stepS_some.2 ⟨h0, by simp; omega, may_iff.2 ⟨?_, fun i hi hne hc => ?_⟩, by rw [er]; exact h3, ?_⟩
  · have := rdB_app1 (C := C) b (i := k.toNat) (by omega)
    rw [hk] at this; rw [this]; exact c1
  · rw [er]
    simp only [List.length_append, List.length_cons, List.length_nil] at hi
    by_cases hil : i < l.length
    · rw [rdT_app1 x hil]
      rw [rdB_app1 b (by omega)] at hc
      exact c2 i hil hne hc
    · obtain rfl : i = l.length := by omega
      rw [rdT_app2]
      rw [← hC, rdB_app2] at hc
      rcases hb with hb | hb
      · rw [hb] at hc; cases hc
      · exact hb
  · rw [List.set_append_left _ _ (by omega)]
theorem run_more {l : List S30} {m : Int} (x : S30) (b : Bool) (hb : b = true ∨ ∀ c, linAhead x c = false) : ∀ {e : List Int} {C C' : List Bool} {s s' : List Int}, C.length = l.length → runS l m C s e = some (C', s') → runS (l ++ [x]) m (C ++ [b]) s e = some (C' ++ [b], s') := by
  intro e
  induction e with
  | nil =>
    intro C C' s s' hC h
    rw [runS_nil] at h
    injection h with h
    injection h with h1 h2
    subst h1; subst h2; rfl
  | cons k e ih =>
    intro C C' s s' hC h
    rw [runS_cons] at h ⊢
    obtain ⟨⟨D, t⟩, hq, hr⟩ := Option.bind_eq_some_iff.1 h
    rw [step_more x b hC (hb.imp id (fun h => h _)) hq]
    obtain ⟨_, _, _, _, rfl⟩ := stepS_some.1 hq
    exact ih (by rw [List.length_set]; exact hC) hr
theorem start_more (l : List S30) (x : S30) : start (l ++ [x]) = start l ++ [false] := by
  unfold start; rw [List.length_append, List.length_singleton, List.replicate_succ']
/-! ### the reference's words -/
def conv (x : S30) : S65 := ⟨x.f0, x.f1, x.f2, x.f3, x.f4, x.f5⟩
theorem rdT_conv {l : List S30} {i : Nat} (h : i < l.length) : rd_T65 (l.map conv) (i : Int) = conv (rd_T30 l (i : Int)) := by
  unfold rd_T65 rd_T30
  rw [List.getD_eq_getElem?_getD, List.getD_eq_getElem?_getD, Int.toNat_natCast, List.getElem?_map, List.getElem?_eq_getElem h]
  rfl
theorem as_l0 (l : List S30) (hn : l.length < 1000) : ∀ (d i k : Nat), i + d = l.length → d + 1 ≤ k → hatstandlaw15_as.l0 k l ((l.take i).map conv) (i : Int) = some (l.map conv) := by
  intro d
  induction d with
  | zero =>
    intro i k hi hk
    obtain ⟨k, rfl⟩ : ∃ q, k = q + 1 := ⟨k - 1, by omega⟩
    unfold hatstandlaw15_as.l0
    rw [if_neg (by omega), List.take_of_length_le (by omega)]
  | succ d ih =>
    intro i k hi hk
    obtain ⟨k, rfl⟩ : ∃ q, k = q + 1 := ⟨k - 1, by omega⟩
    have hil : i < l.length := by omega
    unfold hatstandlaw15_as.l0
    rw [if_pos (by omega), if_pos (by omega), if_pos (by simp; omega), w_nat (by omega)]
    have e : (l.take i).map conv ++ [(⟨(rd_T30 l (i : Int)).f0, (rd_T30 l (i : Int)).f1, (rd_T30 l (i : Int)).f2, (rd_T30 l (i : Int)).f3, (rd_T30 l (i : Int)).f4, (rd_T30 l (i : Int)).f5⟩ : S65)] = (l.take (i + 1)).map conv := by
      rw [List.take_succ_eq_append_getElem hil, List.map_append]
      unfold rd_T30
      rw [List.getD_eq_getElem?_getD, Int.toNat_natCast, List.getElem?_eq_getElem hil]
      rfl
    rw [e]
    exact ih (i + 1) k (by omega) (by omega)
theorem as_all {l : List S30} (hn : l.length < 1000) {k : Nat} (hk : l.length + 1 ≤ k) : hatstandlaw15_as.f k l = some (l.map conv) := by
  unfold hatstandlaw15_as.f
  have := as_l0 l hn l.length 0 k (by omega) hk
  exact this
/-- The place at which a call stands. -/
def whereI (L : List Int) (x : Int) : Int := if x ∈ L then (L.idxOf x : Int) else -1
theorem rd_at {L : List Int} {i : Nat} (h : i < L.length) : rd L (i : Int) = L[i] := by
  unfold rd; rw [List.getD_eq_getElem?_getD, Int.toNat_natCast, List.getElem?_eq_getElem h]; rfl
theorem where_l0 (L : List Int) (x : Int) (hL : L.length < 1000) : ∀ (d i k : Nat), i + d = L.length → d + 1 ≤ k → x ∉ L.take i → hatstandref15_where.l0 k L x (i : Int) = some (whereI L x) := by
  intro d
  induction d with
  | zero =>
    intro i k hi hk hx
    obtain ⟨k, rfl⟩ : ∃ q, k = q + 1 := ⟨k - 1, by omega⟩
    unfold hatstandref15_where.l0 whereI
    rw [if_neg (by omega), if_neg (by rwa [List.take_of_length_le (by omega)] at hx)]
  | succ d ih =>
    intro i k hi hk hx
    obtain ⟨k, rfl⟩ : ∃ q, k = q + 1 := ⟨k - 1, by omega⟩
    have hil : i < L.length := by omega
    unfold hatstandref15_where.l0
    rw [if_pos (by omega), if_pos (by omega), rd_at hil]
    by_cases h : L[i] = x
    · rw [if_pos h]
      unfold whereI
      have hmem : x ∈ L := h ▸ List.getElem_mem hil
      rw [if_pos hmem]
      congr 1
      have : L.idxOf x = i := by
        have e : L = L.take i ++ L[i] :: L.drop (i + 1) := by rw [← List.drop_eq_getElem_cons hil, List.take_append_drop]
        rw [e, List.idxOf_append, if_neg hx, h, List.idxOf_cons_self]
        simp; omega
      rw [this]
    · rw [if_neg h, w_nat (by omega)]
      refine ih (i + 1) k (by omega) (by omega) ?_
      rw [List.take_succ_eq_append_getElem hil, List.mem_append, not_or]
      exact ⟨hx, by simp; exact fun h2 => h h2.symm⟩
theorem where_all {L : List Int} {x : Int} (hL : L.length < 1000) {k : Nat} (hk : L.length + 1 ≤ k) : hatstandref15_where.f k L x = some (whereI L x) := by
  unfold hatstandref15_where.f
  exact where_l0 L x hL L.length 0 k (by omega) hk (by simp)
theorem where_neg {L : List Int} {x : Int} : whereI L x < 0 ↔ x ∉ L := by
  unfold whereI
  by_cases h : x ∈ L
  · rw [if_pos h]; exact ⟨fun h2 => by omega, fun h2 => absurd h h2⟩
  · rw [if_neg h]; exact ⟨fun _ => h, fun _ => by decide⟩
theorem where_mem {L : List Int} {x : Int} (h : x ∈ L) : whereI L x = (L.idxOf x : Int) := if_pos h
theorem ref_ahead (a b : S30) : hatstandref15_ahead.f (conv a).f0 (conv a).f1 (conv a).f2 (conv a).f3 (conv a).f4 (conv a).f5 (conv b).f0 (conv b).f1 (conv b).f2 (conv b).f3 (conv b).f4 (conv b).f5 = some (linAhead a b) := by
  unfold hatstandref15_ahead.f linAhead conv
  dsimp only
  by_cases h : a.f5 ≥ 0
  · rw [if_pos h, decide_eq_true (p := 0 ≤ a.f5) h, Bool.true_and]
  · rw [if_neg h, decide_eq_false (p := 0 ≤ a.f5) h, Bool.false_and]
/-! ### stands -/
def bad0 (l : List S30) (L : List Int) (i : Nat) : Bool := decide (rd L (i : Int) < 0) || (decide ((l.length : Int) ≤ rd L (i : Int)) || (whereI L (rd L (i : Int)) != (i : Int)))
def bad2 (l : List S30) (L : List Int) (i k : Nat) : Bool := linAhead (rd_T30 l (i : Int)) (rd_T30 l (k : Int)) && (decide (0 ≤ whereI L (k : Int)) && (decide (whereI L (i : Int) < 0) || decide (whereI L (k : Int) < whereI L (i : Int))))
def bad1 (l : List S30) (L : List Int) (i : Nat) : Bool := (decide (0 ≤ (rd_T30 l (i : Int)).f5) && decide (whereI L (i : Int) < 0)) || (List.range' 0 l.length).any (bad2 l L i)
def standsB (l : List S30) (L : List Int) : Bool := !((List.range' 0 L.length).any (bad0 l L)) && !((List.range' 0 l.length).any (bad1 l L))
theorem stands_l2 (l : List S30) (L : List Int) (hn : l.length ≤ 8) (hL : L.length ≤ 30) (i : Nat) (hi : i < l.length) (R : Option Bool) (B : Nat) (hR : ∀ k, B ≤ k → hatstandref15_stands.l1 k (l.map conv) L ((i + 1 : Nat) : Int) = R) : ∀ (d j k : Nat), j + d = l.length → 2 * d + 40 + B ≤ k →
    hatstandref15_stands.l2 k (l.map conv) L (i : Int) (whereI L (i : Int)) (j : Int) = cond ((List.range' j d).any (bad2 l L i)) (some false) R := by
  intro d
  induction d with
  | zero =>
    intro j k hj hk
    obtain ⟨k, rfl⟩ : ∃ q, k = q + 1 := ⟨k - 1, by omega⟩
    unfold hatstandref15_stands.l2
    rw [if_neg (by rw [List.length_map]; omega), w_nat (by omega), hR k (by omega)]
    simp
  | succ d ih =>
    intro j k hj hk
    obtain ⟨k, rfl⟩ : ∃ q, k = q + 2 := ⟨k - 2, by omega⟩
    have hjl : j < l.length := by omega
    have hj5 : ∀ b : Bool, hatstandref15_stands.j5 (k + 1) (l.map conv) L (i : Int) (whereI L (i : Int)) (j : Int) b = cond b (some false) (cond ((List.range' (j + 1) d).any (bad2 l L i)) (some false) R) := by
      intro b
      unfold hatstandref15_stands.j5
      cases b
      · rw [if_neg (by simp), w_nat (by omega)]
        exact ih (j + 1) k (by omega) (by omega)
      · rw [if_pos rfl]; rfl
    unfold hatstandref15_stands.l2
    rw [if_pos (by rw [List.length_map]; omega), where_all (by omega) (by omega), bs, if_pos (by omega), if_pos (by rw [List.length_map]; omega), if_pos (by omega), rdT_conv hi, rdT_conv hjl, ref_ahead, bs, List.range'_succ, List.any_cons]
    have hb2 : bad2 l L i j = (linAhead (rd_T30 l (i : Int)) (rd_T30 l (j : Int)) && (decide (0 ≤ whereI L (j : Int)) && (decide (whereI L (i : Int) < 0) || decide (whereI L (j : Int) < whereI L (i : Int))))) := rfl
    rw [hb2]
    cases linAhead (rd_T30 l (i : Int)) (rd_T30 l (j : Int))
    · rw [if_neg (by simp), hj5]
      simp
    · rw [if_pos rfl]
      by_cases h0 : whereI L (j : Int) ≥ 0
      · rw [if_pos h0, decide_eq_true (p := 0 ≤ whereI L (j : Int)) h0]
        by_cases h1 : whereI L (i : Int) < 0
        · rw [if_pos h1, hj5, decide_eq_true h1]
          simp
        · rw [if_neg h1, hj5, decide_eq_false h1]
          by_cases h2 : whereI L (i : Int) > whereI L (j : Int)
          · rw [decide_eq_true h2]
            simp
          · rw [decide_eq_false h2]
            simp
      · rw [if_neg h0, decide_eq_false (p := 0 ≤ whereI L (j : Int)) h0, hj5]
        simp
theorem stands_l1 (l : List S30) (L : List Int) (hn : l.length ≤ 8) (hL : L.length ≤ 30) : ∀ (d i k : Nat), i + d = l.length → 70 * d + 50 ≤ k →
    hatstandref15_stands.l1 k (l.map conv) L (i : Int) = some (!((List.range' i d).any (bad1 l L))) := by
  intro d
  induction d with
  | zero =>
    intro i k hi hk
    obtain ⟨k, rfl⟩ : ∃ q, k = q + 1 := ⟨k - 1, by omega⟩
    unfold hatstandref15_stands.l1
    rw [if_neg (by rw [List.length_map]; omega)]
    simp
  | succ d ih =>
    intro i k hi hk
    obtain ⟨k, rfl⟩ : ∃ q, k = q + 2 := ⟨k - 2, by omega⟩
    have hil : i < l.length := by omega
    have h2 := stands_l2 l L hn hL i hil _ (70 * d + 50) (fun k' hk' => ih (i + 1) k' (by omega) hk') l.length 0 k (by omega) (by omega)
    have hj3 : ∀ b : Bool, hatstandref15_stands.j3 (k + 1) (l.map conv) L (i : Int) (whereI L (i : Int)) b = cond b (some false) (cond ((List.range' 0 l.length).any (bad2 l L i)) (some false) (some (!((List.range' (i + 1) d).any (bad1 l L))))) := by
      intro b
      unfold hatstandref15_stands.j3
      cases b
      · rw [if_neg (by simp)]
        exact h2
      · rw [if_pos rfl]; rfl
    unfold hatstandref15_stands.l1
    rw [if_pos (by rw [List.length_map]; omega), where_all (by omega) (by omega), bs, if_pos (by omega), rdT_conv hil, List.range'_succ, List.any_cons]
    have e5 : (conv (rd_T30 l (i : Int))).f5 = (rd_T30 l (i : Int)).f5 := rfl
    have hb1 : bad1 l L i = ((decide (0 ≤ (rd_T30 l (i : Int)).f5) && decide (whereI L (i : Int) < 0)) || (List.range' 0 l.length).any (bad2 l L i)) := rfl
    rw [e5, hb1]
    by_cases h5 : (rd_T30 l (i : Int)).f5 ≥ 0
    · rw [if_pos h5, hj3, decide_eq_true (p := 0 ≤ (rd_T30 l (i : Int)).f5) h5]
      cases decide (whereI L (i : Int) < 0) <;> cases (List.range' 0 l.length).any (bad2 l L i) <;> simp
    · rw [if_neg h5, hj3, decide_eq_false (p := 0 ≤ (rd_T30 l (i : Int)).f5) h5]
      cases (List.range' 0 l.length).any (bad2 l L i) <;> simp
theorem stands_l0 (l : List S30) (L : List Int) (hn : l.length ≤ 8) (hL : L.length ≤ 30) : ∀ (d i k : Nat), i + d = L.length → 2 * d + 700 ≤ k →
    hatstandref15_stands.l0 k (l.map conv) L (i : Int) = some (!((List.range' i d).any (bad0 l L)) && !((List.range' 0 l.length).any (bad1 l L))) := by
  intro d
  induction d with
  | zero =>
    intro i k hi hk
    obtain ⟨k, rfl⟩ : ∃ q, k = q + 1 := ⟨k - 1, by omega⟩
    unfold hatstandref15_stands.l0
    rw [if_neg (by omega)]
    have := stands_l1 l L hn hL l.length 0 k (by omega) (by omega)
    simpa using this
  | succ d ih =>
    intro i k hi hk
    obtain ⟨k, rfl⟩ : ∃ q, k = q + 2 := ⟨k - 2, by omega⟩
    have hj1 : ∀ b : Bool, hatstandref15_stands.j1 (k + 1) (l.map conv) L (i : Int) b = cond b (some false) (some (!((List.range' (i + 1) d).any (bad0 l L)) && !((List.range' 0 l.length).any (bad1 l L)))) := by
      intro b
      unfold hatstandref15_stands.j1
      cases b
      · rw [if_neg (by simp), w_nat (by omega)]
        exact ih (i + 1) k (by omega) (by omega)
      · rw [if_pos rfl]; rfl
    unfold hatstandref15_stands.l0
    rw [if_pos (by omega), if_pos (by omega), List.range'_succ, List.any_cons, List.length_map]
    have hb0 : bad0 l L i = (decide (rd L (i : Int) < 0) || (decide ((l.length : Int) ≤ rd L (i : Int)) || (whereI L (rd L (i : Int)) != (i : Int)))) := rfl
    rw [hb0]
    by_cases h0 : rd L (i : Int) < 0
    · rw [if_pos h0, hj1, decide_eq_true h0]
      simp
    · rw [if_neg h0, decide_eq_false h0]
      by_cases h1 : rd L (i : Int) ≥ (l.length : Int)
      · rw [if_pos h1, hj1, decide_eq_true (p := (l.length : Int) ≤ rd L (i : Int)) h1]
        simp
      · rw [if_neg h1, where_all (by omega) (by omega), bs, hj1, decide_eq_false (p := (l.length : Int) ≤ rd L (i : Int)) h1]
        cases (whereI L (rd L (i : Int)) != (i : Int)) <;> simp
theorem stands_all {l : List S30} {L : List Int} (hn : l.length ≤ 8) (hL : L.length ≤ 30) {k : Nat} (hk : 800 ≤ k) : hatstandref15_stands.f k (l.map conv) L = some (standsB l L) := by
  unfold hatstandref15_stands.f standsB
  exact stands_l0 l L hn hL L.length 0 k (by omega) (by omega)
/-! ### the reference's Fits -/
theorem ref_do {s : List Int} (m : Int) (push : Bool) (v st : Int) (hs : s.length < 1000000) {k : Nat} (hk : 1 ≤ k) : hatstandref5_Do.f k s m push v st = some (match stDo s m push v st with | some t => (t, true) | none => ([], false)) := by
  obtain ⟨k, rfl⟩ : ∃ q, k = q + 1 := ⟨k - 1, by omega⟩
  have j : ∀ (t : List Int) (b : Bool), hatstandref5_Do.j0 (k + 1) t b = if b = true then some ([], false) else some (t, true) := fun t b => rfl
  unfold hatstandref5_Do.f stDo
  by_cases h6 : st = 6
  · rw [if_pos h6, if_pos h6, bs, if_pos (by simp; omega), List.nil_append]
  · rw [if_neg h6, if_neg h6]
    cases push
    · rw [if_neg (by simp), if_neg (by simp), ref_pop hs, bs, j, j]
      by_cases h1 : (stPop s).2.2 = st <;> by_cases h2 : (stPop s).2.1 = v <;> simp [h1, h2]
    · rw [if_pos rfl, if_pos rfl, ref_push _ _ hs, bs]
      by_cases h1 : (stPush s m v).2 = st <;> simp [h1]
/-- The stack, one call behind the other. -/
def stackS (l : List S30) (m : Int) : List Int → List Int → Option (List Int)
  | s, [] => some s
  | s, k :: e => (linDone s m (rd_T30 l k)).bind fun t => stackS l m t e
def runC (l : List S30) : List Bool → List Int → Option (List Bool)
  | C, [] => some C
  | C, k :: e => if 0 ≤ k ∧ k < (l.length : Int) ∧ linMayB l k C = true then runC l (C.set k.toNat true) e else none
theorem run_split (l : List S30) (m : Int) : ∀ (e : List Int) (C : List Bool) (s : List Int), runS l m C s e = (runC l C e).bind fun C' => (stackS l m s e).map fun s' => (C', s') := by
  intro e
  induction e with
  | nil => intro C s; rfl
  | cons k e ih =>
    intro C s
    rw [runS_cons, runC, stackS, stepS]
    by_cases h : 0 ≤ k ∧ k < (l.length : Int) ∧ linMayB l k C = true
    · rw [if_pos h, if_pos h]
      cases linDone s m (rd_T30 l k) with
      | none => cases runC l (C.set k.toNat true) e <;> rfl
      | some t => exact ih _ _
    · rw [if_neg h, if_neg h]; rfl
/-- C tells which stand in p. -/
def IsC (l : List S30) (p : List Int) (C : List Bool) : Prop := C.length = l.length ∧ ∀ i : Nat, i < l.length → rdOf false C (i : Int) = decide ((i : Int) ∈ p)
def goodS (l : List S30) (p e : List Int) : Prop := ∀ a k b, e = a ++ k :: b → 0 ≤ k ∧ k < (l.length : Int) ∧ k ∉ p ++ a ∧ ∀ i : Nat, i < l.length → (i : Int) ≠ k → (i : Int) ∉ p ++ a → linAhead (rd_T30 l (i : Int)) (rd_T30 l k) = false
theorem isC_start (l : List S30) : IsC l [] (start l) := by
  refine ⟨by unfold start; simp, fun i hi => ?_⟩
  unfold start rdOf
  rw [List.getD_eq_getElem?_getD, Int.toNat_natCast, List.getElem?_replicate, if_pos hi]
  simp
theorem isC_set {l : List S30} {p : List Int} {C : List Bool} {k : Int} (h : IsC l p C) (h0 : 0 ≤ k) (h1 : k < (l.length : Int)) : IsC l (p ++ [k]) (C.set k.toNat true) := by
  refine ⟨by rw [List.length_set]; exact h.1, fun i hi => ?_⟩
  rw [rdB_set i (by have := h.1; omega)]
  by_cases hik : i = k.toNat
  · rw [if_pos hik]
    have : (i : Int) = k := by omega
    simp [this]
  · rw [if_neg hik, h.2 i hi]
    have : ¬ (i : Int) = k := by omega
    simp [this]
theorem may_isC {l : List S30} {p : List Int} {C : List Bool} {k : Int} (h : IsC l p C) (h0 : 0 ≤ k) (h1 : k < (l.length : Int)) : linMayB l k C = true ↔ k ∉ p ∧ ∀ i : Nat, i < l.length → (i : Int) ≠ k → (i : Int) ∉ p → linAhead (rd_T30 l (i : Int)) (rd_T30 l k) = false := by
  have hk : ((k.toNat : Nat) : Int) = k := by omega
  have hc : rdOf false C k = decide (k ∈ p) := by have := h.2 k.toNat (by omega); rwa [hk] at this
  rw [may_iff, hc, decide_eq_false_iff_not]
  constructor
  · rintro ⟨a, b⟩
    exact ⟨a, fun i hi hne hp => b i hi hne (by rw [h.2 i hi]; exact decide_eq_false hp)⟩
  · rintro ⟨a, b⟩
    exact ⟨a, fun i hi hne hp => b i hi hne (by rw [h.2 i hi] at hp; exact of_decide_eq_false hp)⟩
theorem runC_isC {l : List S30} : ∀ {e p : List Int} {C C' : List Bool}, IsC l p C → runC l C e = some C' → IsC l (p ++ e) C' ∧ goodS l p e := by
  intro e
  induction e with
  | nil =>
    intro p C C' h hr
    rw [runC] at hr
    injection hr with hr
    subst hr
    exact ⟨by rw [List.append_nil]; exact h, fun a k b he => by simp at he⟩
  | cons k e ih =>
    intro p C C' h hr
    rw [runC] at hr
    split at hr
    · rename_i hc
      obtain ⟨h1, h2⟩ := ih (isC_set h hc.1 hc.2.1) hr
      refine ⟨by rw [show p ++ k :: e = p ++ [k] ++ e by simp]; exact h1, fun a k' b he => ?_⟩
      cases a with
      | nil =>
        simp only [List.nil_append, List.cons.injEq] at he
        obtain ⟨rfl, _⟩ := he
        rw [List.append_nil]
        exact ⟨hc.1, hc.2.1, (may_isC h hc.1 hc.2.1).1 hc.2.2⟩
      | cons x a =>
        simp only [List.cons_append, List.cons.injEq] at he
        obtain ⟨rfl, he⟩ := he
        have := h2 a k' b he
        rwa [show p ++ [k] ++ a = p ++ k :: a by simp] at this
    · cases hr
theorem runC_good {l : List S30} : ∀ {e p : List Int} {C : List Bool}, IsC l p C → goodS l p e → ∃ C', runC l C e = some C' := by
  intro e
  induction e with
  | nil => intro p C h _; exact ⟨C, rfl⟩
  | cons k e ih =>
    intro p C h hg
    have h0 := hg [] k e rfl
    rw [List.append_nil] at h0
    have hm := (may_isC h h0.1 h0.2.1).2 h0.2.2
    obtain ⟨C', hC'⟩ := ih (isC_set h h0.1 h0.2.1) (fun a k' b he => by
      have := hg (k :: a) k' b (by rw [he]; rfl)
      rwa [show p ++ k :: a = p ++ [k] ++ a by simp] at this)
    exact ⟨C', by rw [runC, if_pos ⟨h0.1, h0.2.1, hm⟩]; exact hC'⟩
theorem split_at {L : List Int} {i : Nat} (h : i < L.length) : L = L.take i ++ L[i] :: L.drop (i + 1) := by rw [← List.drop_eq_getElem_cons h, List.take_append_drop]
theorem idx_split {a b : List Int} {k : Int} (h : k ∉ a) : (a ++ k :: b).idxOf k = a.length := by
  rw [List.idxOf_append, if_neg h, List.idxOf_cons_self]; simp
theorem idx_lt {a b : List Int} {x : Int} (h : x ∈ a) : (a ++ b).idxOf x < a.length := by
  rw [List.idxOf_append, if_pos h]; exact List.idxOf_lt_length_iff.2 h
theorem idx_ge {a b : List Int} {x : Int} (h : x ∉ a) : a.length ≤ (a ++ b).idxOf x := by
  rw [List.idxOf_append, if_neg h]; omega
theorem any_false {f : Nat → Bool} {n : Nat} : (List.range' 0 n).any f = false ↔ ∀ i, i < n → f i = false := by
  rw [List.any_eq_false]
  constructor
  · intro h i hi; simpa using h i (by simp [List.mem_range'_1]; exact hi)
  · intro h i hi; simpa using h i (by simpa [List.mem_range'_1] using hi)
theorem stands_iff {l : List S30} {L : List Int} : standsB l L = true ↔ goodS l [] L ∧ ∀ i : Nat, i < l.length → 0 ≤ (rd_T30 l (i : Int)).f5 → (i : Int) ∈ L := by
  unfold standsB
  rw [Bool.and_eq_true, Bool.not_eq_true', Bool.not_eq_true', any_false, any_false]
  constructor
  · rintro ⟨h0, h1⟩
    have h1' : ∀ i : Nat, i < l.length → (0 ≤ (rd_T30 l (i : Int)).f5 → (i : Int) ∈ L) ∧ ∀ k : Nat, k < l.length → linAhead (rd_T30 l (i : Int)) (rd_T30 l (k : Int)) = true → (k : Int) ∈ L → (i : Int) ∈ L ∧ whereI L (i : Int) ≤ whereI L (k : Int) := by
      intro i hi
      have hb := h1 i hi
      unfold bad1 at hb
      rw [Bool.or_eq_false_iff] at hb
      refine ⟨fun h5 => ?_, fun k hk ha hkL => ?_⟩
      · have h2 := hb.1
        rw [decide_eq_true h5, Bool.true_and, decide_eq_false_iff_not, where_neg, Decidable.not_not] at h2
        exact h2
      · have h2 := any_false.1 hb.2 k hk
        unfold bad2 at h2
        have hk0 : 0 ≤ whereI L (k : Int) := by have := where_mem hkL; omega
        rw [ha, Bool.true_and, decide_eq_true hk0, Bool.true_and, Bool.or_eq_false_iff, decide_eq_false_iff_not, decide_eq_false_iff_not, where_neg, Decidable.not_not] at h2
        exact ⟨h2.1, by omega⟩
    refine ⟨fun a k b he => ?_, fun i hi => (h1' i hi).1⟩
    rw [List.nil_append]
    have hal : a.length < L.length := by rw [he]; simp
    have hrd : rd L (a.length : Int) = k := by rw [rd_at hal]; simp [he]
    have hb := h0 a.length hal
    unfold bad0 at hb
    rw [hrd, Bool.or_eq_false_iff, Bool.or_eq_false_iff, decide_eq_false_iff_not, decide_eq_false_iff_not] at hb
    have hkL : k ∈ L := by rw [he]; simp
    have hw : whereI L k = (a.length : Int) := by simpa using hb.2.2
    rw [where_mem hkL] at hw
    have hka : k ∉ a := by
      intro hka
      have := idx_lt (b := k :: b) hka
      rw [← he] at this
      omega
    refine ⟨by omega, by omega, hka, fun i hi hne hia => ?_⟩
    cases hA : linAhead (rd_T30 l (i : Int)) (rd_T30 l k)
    · rfl
    · exfalso
      have hkk : ((k.toNat : Nat) : Int) = k := by omega
      have := (h1' i hi).2 k.toNat (by omega) (by rw [hkk]; exact hA) (by rw [hkk]; exact hkL)
      rw [hkk, where_mem this.1, where_mem hkL] at this
      have hge := idx_ge (b := k :: b) hia
      rw [← he] at hge
      have hidx : L.idxOf (i : Int) = a.length := by omega
      have hget : L[L.idxOf (i : Int)]'(List.idxOf_lt_length_iff.2 this.1) = (i : Int) := List.getElem_idxOf _
      have h3 : L[a.length] = (i : Int) := by simp only [hidx] at hget; exact hget
      have h4 : L[a.length] = k := by simp [he]
      exact hne (by rw [← h3, h4])
  · rintro ⟨hg, ho⟩
    refine ⟨fun i hi => ?_, fun i hi => ?_⟩
    · have he := split_at hi
      have h2 := hg _ _ _ he
      rw [List.nil_append] at h2
      unfold bad0
      rw [rd_at hi]
      have hmem : L[i] ∈ L := List.getElem_mem hi
      have hw : whereI L L[i] = (i : Int) := by
        rw [where_mem hmem]
        have := idx_split (b := L.drop (i + 1)) h2.2.2.1
        rw [← he] at this
        rw [this]; simp; omega
      rw [decide_eq_false (by omega), decide_eq_false (by omega), hw]
      simp
    · unfold bad1
      rw [Bool.or_eq_false_iff]
      refine ⟨?_, any_false.2 (fun k hk => ?_)⟩
      · by_cases h5 : 0 ≤ (rd_T30 l (i : Int)).f5
        · rw [decide_eq_false (p := whereI L (i : Int) < 0) (fun h => where_neg.1 h (ho i hi h5)), Bool.and_false]
        · rw [decide_eq_false h5, Bool.false_and]
      · unfold bad2
        cases hA : linAhead (rd_T30 l (i : Int)) (rd_T30 l (k : Int))
        · rfl
        · by_cases hkL : (k : Int) ∈ L
          · obtain ⟨j, hj, hjk⟩ := List.getElem_of_mem hkL
            have he := split_at hj
            have h2 := hg _ _ _ he
            rw [List.nil_append] at h2
            have hwk : whereI L (k : Int) = (j : Int) := by
              rw [where_mem hkL]
              have := idx_split (b := L.drop (j + 1)) h2.2.2.1
              rw [← he, hjk] at this
              rw [this]; simp; omega
            have hiL : (i : Int) = (k : Int) ∨ (i : Int) ∈ L.take j := by
              by_cases h3 : (i : Int) = (k : Int)
              · exact .inl h3
              · by_cases h4 : (i : Int) ∈ L.take j
                · exact .inr h4
                · exfalso
                  have := h2.2.2.2 i hi (by rw [hjk]; exact h3) h4
                  rw [hjk, hA] at this
                  cases this
            have hwi : 0 ≤ whereI L (i : Int) ∧ whereI L (i : Int) ≤ (j : Int) := by
              rcases hiL with h3 | h3
              · rw [h3, hwk]; omega
              · have hm : (i : Int) ∈ L := List.mem_of_mem_take h3
                rw [where_mem hm]
                have := idx_lt (b := L[j] :: L.drop (j + 1)) h3
                rw [← he] at this
                have h5 : (L.take j).length ≤ j := by simp; omega
                omega
            rw [hwk, decide_eq_false (p := whereI L (i : Int) < 0) (by omega), decide_eq_false (p := (j : Int) < whereI L (i : Int)) (by omega)]
            simp
          · rw [decide_eq_false (p := 0 ≤ whereI L (k : Int)) (by have := where_neg.2 hkL; omega)]
            simp
theorem ref_fits_l0 (l : List S30) (m : Int) (L : List Int) (hn : l.length ≤ 8) (hL : L.length ≤ 30) (hv : ∀ i : Nat, i < L.length → 0 ≤ rd L (i : Int) ∧ rd L (i : Int) < (l.length : Int)) : ∀ (e : List Int) (i k : Nat) (s : List Int), L.drop i = e → s.length + e.length ≤ 100000 → i ≤ L.length → 2 * e.length + 3 ≤ k →
    hatstandref15_Fits.l0 k (l.map conv) m L s (i : Int) = some (stackS l m s e).isSome := by
  intro e
  induction e with
  | nil =>
    intro i k s he hs hi hk
    obtain ⟨k, rfl⟩ : ∃ q, k = q + 1 := ⟨k - 1, by omega⟩
    have hi2 : L.length ≤ i := by rcases Nat.lt_or_ge i L.length with h | h; rw [List.drop_eq_getElem_cons h] at he; cases he; exact h
    unfold hatstandref15_Fits.l0
    rw [if_neg (by omega)]
    rfl
  | cons x e ih =>
    intro i k s he hs hi hk
    obtain ⟨hi2, hx, he2⟩ := rd_drop he
    simp only [List.length_cons] at hs hk
    obtain ⟨k, rfl⟩ : ∃ q, k = q + 2 := ⟨k - 2, by omega⟩
    have hvx := hv i hi2
    rw [hx] at hvx
    have hxx : ((x.toNat : Nat) : Int) = x := by omega
    have hc := rdT_conv (l := l) (i := x.toNat) (by omega)
    rw [hxx] at hc
    have hnext : ∀ t : List Int, linDone s m (rd_T30 l x) = some t → hatstandref15_Fits.l0 k (l.map conv) m L t (wrap64 ((i : Int) + 1)) = some (stackS l m t e).isSome := by
      intro t ht
      have := linDone_len ht
      rw [w_nat (by omega)]
      exact ih (i + 1) k t he2 (by omega) (by omega) (by omega)
    have hlen : (l.map conv).length = l.length := List.length_map _
    clear ih
    generalize l.map conv = l' at hc hnext hlen ⊢
    unfold hatstandref15_Fits.l0
    rw [if_pos (by omega), if_pos (by omega), hx, if_pos hvx.1, if_pos (by rw [hlen]; omega), hc, stackS]
    unfold conv
    dsimp only
    by_cases h5 : (rd_T30 l x).f5 < 0
    · rw [if_pos h5]
      unfold hatstandref15_Fits.j1
      by_cases h1 : (rd_T30 l x).f1 = true
      · have hd : linDone s m (rd_T30 l x) = some (stPush s m (rd_T30 l x).f2).1 := by unfold linDone; rw [if_neg (by omega), if_pos h1]
        rw [if_pos h1, ref_push _ _ (by omega), bs, hnext _ hd, hd]
        rfl
      · have hd : linDone s m (rd_T30 l x) = some (stPop s).1 := by unfold linDone; rw [if_neg (by omega), if_neg h1]
        rw [if_neg h1, if_pos h5, ref_pop (by omega), bs, hnext _ hd, hd]
        rfl
    · rw [if_neg h5]
      unfold hatstandref15_Fits.j1
      have hd : linDone s m (rd_T30 l x) = stDo s m (rd_T30 l x).f1 (rd_T30 l x).f2 (rd_T30 l x).f3 := by unfold linDone; rw [if_pos (by omega)]
      rw [if_neg (by simp), if_neg h5, ref_do _ _ _ _ (by omega) (by omega), bs]
      cases hst : stDo s m (rd_T30 l x).f1 (rd_T30 l x).f2 (rd_T30 l x).f3 with
      | none =>
        rw [hd, hst]
        simp
      | some t =>
        rw [hst] at hd
        dsimp only
        rw [if_pos rfl, hnext t hd, hd]
        rfl
theorem ref_fits {l : List S30} {m : Int} {L : List Int} (hn : l.length ≤ 8) (hL : L.length ≤ 30) {k : Nat} (hk : 1000 ≤ k) : hatstandref15_Fits.f k (l.map conv) m L = some (fitsB l m L) := by
  have hsp := run_split l m L (start l) []
  unfold hatstandref15_Fits.f
  rw [stands_all hn hL (by omega), bs]
  cases hst : standsB l L
  · rw [if_neg (by simp)]
    congr 1
    unfold fitsB
    rw [hsp]
    cases hc : runC l (start l) L with
    | none => rfl
    | some C' =>
      obtain ⟨h1, h2⟩ := runC_isC (isC_start l) hc
      cases hs : stackS l m [] L with
      | none => rfl
      | some s' =>
        simp only [Option.map_some, Option.bind_some]
        cases ho : linOverB l C'
        · rfl
        · exfalso
          have : standsB l L = true := stands_iff.2 ⟨h2, fun i hi h5 => by
            have := over_iff.1 ho i hi h5
            rw [h1.2 i hi, List.nil_append] at this
            exact of_decide_eq_true this⟩
          rw [hst] at this; cases this
  · obtain ⟨hg, ho⟩ := stands_iff.1 hst
    obtain ⟨C', hC'⟩ := runC_good (isC_start l) hg
    obtain ⟨h1, _⟩ := runC_isC (isC_start l) hC'
    have hov : linOverB l C' = true := over_iff.2 (fun i hi h5 => by rw [h1.2 i hi, List.nil_append]; exact decide_eq_true (ho i hi h5))
    have hl0 := ref_fits_l0 l m L hn hL (fun i hi => by
      rw [rd_at hi]
      have := hg _ _ _ (split_at hi)
      exact ⟨this.1, this.2.1⟩) L 0 k [] rfl (by simp; omega) (by omega) (by omega)
    rw [if_pos rfl, show (0 : Int) = ((0 : Nat) : Int) from rfl, hl0]
    congr 1
    unfold fitsB
    rw [hsp, hC']
    simp only [Option.bind_some]
    cases hs : stackS l m [] L with
    | none => rfl
    | some s' => simp [hov]
/-! ### the orders, in their own order -/
/-- The first place from j on that is not in p. -/
def ff (p : List Int) (j d : Nat) : Option Nat := (List.range' j d).find? fun k : Nat => !decide ((k : Int) ∈ p)
theorem ff_zero (p : List Int) (j : Nat) : ff p j 0 = none := rfl
theorem ff_succ (p : List Int) (j d : Nat) : ff p j (d + 1) = if (j : Int) ∈ p then ff p (j + 1) d else some j := by
  unfold ff
  rw [List.range'_succ, List.find?_cons]
  by_cases h : (j : Int) ∈ p <;> simp [h]
/-- The order behind all that go on from L. -/
def upFrom (n : Nat) (L : List Int) : Nat → Option (List Int)
  | 0 => none
  | i + 1 => match ff (L.take i) ((rd L (i : Int)).toNat + 1) (n - ((rd L (i : Int)).toNat + 1)) with
    | some k => some (L.take i ++ [(k : Int)])
    | none => upFrom n L i
def nextUp (n : Nat) (L : List Int) : Option (List Int) := upFrom n L L.length
def nextB (n : Nat) (L : List Int) : Option (List Int) := if L.length < n then (match ff L 0 n with | some k => some (L ++ [(k : Int)]) | none => nextUp n L) else nextUp n L
theorem upFrom_append (n : Nat) (p : List Int) (x : Int) : ∀ i : Nat, i ≤ p.length → upFrom n (p ++ [x]) i = upFrom n p i := by
  intro i
  induction i with
  | zero => intro _; rfl
  | succ i ih =>
    intro hi
    rw [upFrom, upFrom, ih (by omega), List.take_append_of_le_length (by omega), rd_at (by simp; omega), rd_at (by omega), List.getElem_append_left (by omega)]
theorem nextUp_snoc (n : Nat) (p : List Int) (k : Nat) : nextUp n (p ++ [(k : Int)]) = match ff p (k + 1) (n - (k + 1)) with | some k' => some (p ++ [(k' : Int)]) | none => nextUp n p := by
  unfold nextUp
  rw [List.length_append, List.length_singleton, upFrom, upFrom_append n p _ p.length (Nat.le_refl _)]
  have e : rd (p ++ [(k : Int)]) (p.length : Int) = (k : Int) := by rw [rd_at (by simp)]; simp
  rw [e, List.take_left]
  simp only [Int.toNat_natCast]
def toR : Option (List Int) → List Int × Bool
  | some q => (q, true)
  | none => ([], false)
theorem next_l2 (L : List Int) (n : Nat) (hL : L.length ≤ 30) (hn : n ≤ 8) (i : Nat) (hi : i < L.length) (R : Option (List Int × Bool)) (B : Nat) (hR : ∀ k, B ≤ k → hatstandref15_next.l1 k L (n : Int) ((i : Int) - 1) = R) : ∀ (d j k : Nat), j + d = n ∨ (n ≤ j ∧ d = 0 ∧ j ≤ 100) → d + 50 + B ≤ k →
    hatstandref15_next.l2 k L (n : Int) (i : Int) (j : Int) = match ff (L.take i) j d with | some q => some (L.take i ++ [(q : Int)], true) | none => R := by
  intro d
  induction d with
  | zero =>
    intro j k hj hk
    obtain ⟨k, rfl⟩ : ∃ q, k = q + 1 := ⟨k - 1, by omega⟩
    unfold hatstandref15_next.l2
    rw [if_neg (by omega), w_id (by omega) (by omega), hR k (by omega), ff_zero]
  | succ d ih =>
    intro j k hj hk
    obtain ⟨k, rfl⟩ : ∃ q, k = q + 1 := ⟨k - 1, by omega⟩
    have hlen : (L.take i).length ≤ i := by simp; omega
    unfold hatstandref15_next.l2
    rw [if_pos (by omega), if_pos (by omega), if_pos (by omega), Int.toNat_natCast, where_all (by omega) (by omega), bs, ff_succ]
    by_cases hm : (j : Int) ∈ L.take i
    · rw [if_neg (by rw [where_neg]; exact fun h => h hm), if_pos hm, w_nat (by omega)]
      exact ih (j + 1) k (by omega) (by omega)
    · rw [if_pos (where_neg.2 hm), if_neg hm, bs, bs, if_pos (by simp; omega), bs, List.nil_append, if_pos (by omega)]
theorem next_l1 (L : List Int) (n : Nat) (hL : L.length ≤ 30) (hn : n ≤ 8) (hv : ∀ x ∈ L, 0 ≤ x ∧ x < (n : Int)) : ∀ (i k : Nat), i ≤ L.length → 80 * i + 60 ≤ k →
    hatstandref15_next.l1 k L (n : Int) ((i : Int) - 1) = some (toR (upFrom n L i)) := by
  intro i
  induction i with
  | zero =>
    intro k hi hk
    obtain ⟨k, rfl⟩ : ∃ q, k = q + 1 := ⟨k - 1, by omega⟩
    unfold hatstandref15_next.l1
    rw [if_neg (by omega)]
    rfl
  | succ i ih =>
    intro k hi hk
    obtain ⟨k, rfl⟩ : ∃ q, k = q + 1 := ⟨k - 1, by omega⟩
    have hil : i < L.length := by omega
    have hx := hv _ (List.getElem_mem hil)
    have hrd := rd_at hil
    have e : ((i + 1 : Nat) : Int) - 1 = (i : Int) := by omega
    have e2 : wrap64 (rd L (i : Int) + 1) = (((rd L (i : Int)).toNat + 1 : Nat) : Int) := by rw [hrd, w_id (by omega) (by omega)]; omega
    have h2 := next_l2 L n hL hn i hil _ (80 * i + 60) (fun k' hk' => ih k' (by omega) hk') (n - ((rd L (i : Int)).toNat + 1)) ((rd L (i : Int)).toNat + 1) k (by rw [hrd]; omega) (by omega)
    unfold hatstandref15_next.l1
    rw [e, if_pos (by omega), if_pos (by omega), if_pos (by omega), e2, h2, upFrom]
    cases ff (L.take i) ((rd L (i : Int)).toNat + 1) (n - ((rd L (i : Int)).toNat + 1)) <;> rfl
theorem next_j1 {L : List Int} {n : Nat} (hL : L.length ≤ 30) (hn : n ≤ 8) (hv : ∀ x ∈ L, 0 ≤ x ∧ x < (n : Int)) {k : Nat} (hk : 2500 ≤ k) : hatstandref15_next.j1 k L (n : Int) = some (toR (nextUp n L)) := by
  obtain ⟨k, rfl⟩ : ∃ q, k = q + 1 := ⟨k - 1, by omega⟩
  unfold hatstandref15_next.j1; dsimp only
  rw [w_id (by omega) (by omega)]
  exact next_l1 L n hL hn hv L.length k (Nat.le_refl _) (by omega)
theorem next_l0 {L : List Int} {n : Nat} (hL : L.length ≤ 30) (hn : n ≤ 8) (hv : ∀ x ∈ L, 0 ≤ x ∧ x < (n : Int)) : ∀ (d j k : Nat), j + d = n → d + 2600 ≤ k →
    hatstandref15_next.l0 k L (n : Int) (j : Int) = some (toR (match ff L j d with | some q => some (L ++ [(q : Int)]) | none => nextUp n L)) := by
  intro d
  induction d with
  | zero =>
    intro j k hj hk
    obtain ⟨k, rfl⟩ : ∃ q, k = q + 1 := ⟨k - 1, by omega⟩
    unfold hatstandref15_next.l0
    rw [if_neg (by omega), next_j1 hL hn hv (by omega), ff_zero]
  | succ d ih =>
    intro j k hj hk
    obtain ⟨k, rfl⟩ : ∃ q, k = q + 1 := ⟨k - 1, by omega⟩
    unfold hatstandref15_next.l0
    rw [if_pos (by omega), where_all (by omega) (by omega), bs, ff_succ]
    by_cases hm : (j : Int) ∈ L
    · rw [if_neg (by rw [where_neg]; exact fun h => h hm), if_pos hm, w_nat (by omega)]
      exact ih (j + 1) k (by omega) (by omega)
    · rw [if_pos (where_neg.2 hm), if_neg hm, bs, if_pos (by simp; omega), bs, List.nil_append, if_pos (by omega)]
      rfl
theorem ref_next {L : List Int} {n : Nat} (hL : L.length ≤ 30) (hn : n ≤ 8) (hv : ∀ x ∈ L, 0 ≤ x ∧ x < (n : Int)) {k : Nat} (hk : 3000 ≤ k) : hatstandref15_next.f k L (n : Int) = some (toR (nextB n L)) := by
  unfold hatstandref15_next.f nextB
  by_cases h : L.length < n
  · rw [if_pos (by omega), if_pos h]
    exact next_l0 hL hn hv n 0 k (by omega) (by omega)
  · rw [if_neg (by omega), if_neg h]
    exact next_j1 hL hn hv (by omega)
/-- The first order that fits, of those that go on from p. -/
def refTry (fit : List Int → Bool) (n : Nat) : Nat → List Int → Option (List Int)
  | 0, _ => none
  | q + 1, p => if fit p = true then some p else (List.range' 0 n).findSome? fun k : Nat => if (k : Int) ∈ p then none else refTry fit n q (p ++ [(k : Int)])
/-- The reference's search comes to v, from p on. -/
def Ev (l : List S30) (m : Int) (p : List Int) (v : List Int × Bool) : Prop := ∃ K0, ∀ K, K0 ≤ K → hatstandref15_Find.l0 K (l.map conv) m p = some v
def Cont (l : List S30) (m : Int) (p : List Int) (v : List Int × Bool) : Prop := match nextUp l.length p with | some p' => Ev l m p' v | none => v = ([], false)
theorem ev_fit {l : List S30} {m : Int} {p : List Int} (hn : l.length ≤ 8) (hp : p.length ≤ 30) (h : fitsB l m p = true) : Ev l m p (p, true) := by
  refine ⟨1001, fun K hK => ?_⟩
  obtain ⟨k, rfl⟩ : ∃ q, K = q + 1 := ⟨K - 1, by omega⟩
  unfold hatstandref15_Find.l0
  rw [ref_fits hn hp (by omega), bs, if_pos h]
theorem ev_next {l : List S30} {m : Int} {p p' : List Int} {v : List Int × Bool} (hn : l.length ≤ 8) (hp : p.length ≤ 30) (hv : ∀ x ∈ p, 0 ≤ x ∧ x < (l.length : Int)) (h : fitsB l m p = false) (hx : nextB l.length p = some p') (he : Ev l m p' v) : Ev l m p v := by
  obtain ⟨K0, h0⟩ := he
  refine ⟨K0 + 3001, fun K hK => ?_⟩
  obtain ⟨k, rfl⟩ : ∃ q, K = q + 1 := ⟨K - 1, by omega⟩
  unfold hatstandref15_Find.l0
  rw [ref_fits hn hp (by omega), bs, if_neg (by rw [h]; decide), List.length_map, ref_next hp hn hv (by omega), bs, hx]
  exact h0 k (by omega)
theorem ev_end {l : List S30} {m : Int} {p : List Int} (hn : l.length ≤ 8) (hp : p.length ≤ 30) (hv : ∀ x ∈ p, 0 ≤ x ∧ x < (l.length : Int)) (h : fitsB l m p = false) (hx : nextB l.length p = none) : Ev l m p ([], false) := by
  refine ⟨3001, fun K hK => ?_⟩
  obtain ⟨k, rfl⟩ : ∃ q, K = q + 1 := ⟨K - 1, by omega⟩
  unfold hatstandref15_Find.l0
  rw [ref_fits hn hp (by omega), bs, if_neg (by rw [h]; decide), List.length_map, ref_next hp hn hv (by omega), bs, hx]
  rfl
theorem ev_tree {l : List S30} {m : Int} (hn : l.length ≤ 8) : ∀ (q : Nat) (p : List Int), p.length + q = l.length + 1 → p.length ≤ l.length → (∀ x ∈ p, 0 ≤ x ∧ x < (l.length : Int)) →
    (∀ r, refTry (fitsB l m) l.length q p = some r → Ev l m p (r, true)) ∧ (refTry (fitsB l m) l.length q p = none → ∀ v, Cont l m p v → Ev l m p v) := by
  intro q
  induction q with
  | zero => intro p h1 h2 _; omega
  | succ q ih =>
    intro p hq hp hv
    rw [refTry]
    cases hf : fitsB l m p
    · rw [if_neg (by decide)]
      by_cases hfull : p.length = l.length
      · have hq0 : q = 0 := by omega
        subst hq0
        have hnone : (List.range' 0 l.length).findSome? (fun k : Nat => if (k : Int) ∈ p then none else refTry (fitsB l m) l.length 0 (p ++ [(k : Int)])) = none := by
          rw [List.findSome?_eq_none_iff]
          intro k _
          rw [refTry]; split <;> rfl
        rw [hnone]
        refine ⟨fun r h => (by cases h), fun _ v hc => ?_⟩
        have hnb : nextB l.length p = nextUp l.length p := by unfold nextB; rw [if_neg (by omega)]
        unfold Cont at hc
        cases hu : nextUp l.length p with
        | none => rw [hu] at hc; rw [show v = ([], false) from hc]; exact ev_end hn (by omega) hv hf (by rw [hnb, hu])
        | some p' => rw [hu] at hc; exact ev_next hn (by omega) hv hf (by rw [hnb, hu]) hc
      · have hlt : p.length < l.length := by omega
        have hch : ∀ k : Nat, k < l.length → (∀ r, refTry (fitsB l m) l.length q (p ++ [(k : Int)]) = some r → Ev l m (p ++ [(k : Int)]) (r, true)) ∧ (refTry (fitsB l m) l.length q (p ++ [(k : Int)]) = none → ∀ v, Cont l m (p ++ [(k : Int)]) v → Ev l m (p ++ [(k : Int)]) v) := fun k hk => ih (p ++ [(k : Int)]) (by simp; omega) (by simp; omega) (fun x hx => by
          rcases List.mem_append.1 hx with h | h
          · exact hv x h
          · simp at h; omega)
        have hloop : ∀ (d j : Nat), j + d = l.length →
            (∀ r, (List.range' j d).findSome? (fun k : Nat => if (k : Int) ∈ p then none else refTry (fitsB l m) l.length q (p ++ [(k : Int)])) = some r → ∃ k0, ff p j d = some k0 ∧ Ev l m (p ++ [(k0 : Int)]) (r, true)) ∧
            ((List.range' j d).findSome? (fun k : Nat => if (k : Int) ∈ p then none else refTry (fitsB l m) l.length q (p ++ [(k : Int)])) = none → ∀ v, Cont l m p v → match ff p j d with | some k0 => Ev l m (p ++ [(k0 : Int)]) v | none => True) := by
          intro d
          induction d with
          | zero =>
            intro j hj
            exact ⟨fun r h => by simp at h, fun _ v _ => by rw [ff_zero]; trivial⟩
          | succ d ihd =>
            intro j hj
            obtain ⟨i1, i2⟩ := ihd (j + 1) (by omega)
            rw [List.range'_succ, List.findSome?_cons, ff_succ]
            by_cases hm : (j : Int) ∈ p
            · rw [if_pos hm, if_pos hm]
              exact ⟨i1, i2⟩
            · rw [if_neg hm, if_neg hm]
              obtain ⟨c1, c2⟩ := hch j (by omega)
              have hsn : ∀ v, Cont l m (p ++ [(j : Int)]) v ↔ (match ff p (j + 1) d with | some k0 => Ev l m (p ++ [(k0 : Int)]) v | none => Cont l m p v) := by
                intro v
                unfold Cont
                rw [nextUp_snoc, show l.length - (j + 1) = d by omega]
                cases ff p (j + 1) d <;> exact Iff.rfl
              cases ht : refTry (fitsB l m) l.length q (p ++ [(j : Int)]) with
              | some r0 =>
                refine ⟨fun r h => ?_, fun h => (by cases h)⟩
                injection h with h
                subst h
                exact ⟨j, rfl, c1 _ ht⟩
              | none =>
                refine ⟨fun r h => ?_, fun h v hc => ?_⟩
                · obtain ⟨k0, hk0, he⟩ := i1 r h
                  exact ⟨j, rfl, c2 ht _ ((hsn _).2 (by rw [hk0]; exact he))⟩
                · have h3 := i2 h v hc
                  refine c2 ht v ((hsn v).2 ?_)
                  cases hff : ff p (j + 1) d with
                  | none => exact hc
                  | some k0 => rw [hff] at h3; exact h3
        obtain ⟨l1, l2⟩ := hloop l.length 0 (by omega)
        refine ⟨fun r h => ?_, fun h v hc => ?_⟩
        · obtain ⟨k0, hk0, he⟩ := l1 r h
          exact ev_next hn (by omega) hv hf (by unfold nextB; rw [if_pos hlt, hk0]) he
        · have h3 := l2 h v hc
          cases hff : ff p 0 l.length with
          | some k0 =>
            rw [hff] at h3
            exact ev_next hn (by omega) hv hf (by unfold nextB; rw [if_pos hlt, hff]) h3
          | none =>
            have hnb : nextB l.length p = nextUp l.length p := by unfold nextB; rw [if_pos hlt, hff]
            unfold Cont at hc
            cases hu : nextUp l.length p with
            | none => rw [hu] at hc; rw [show v = ([], false) from hc]; exact ev_end hn (by omega) hv hf (by rw [hnb, hu])
            | some p' => rw [hu] at hc; exact ev_next hn (by omega) hv hf (by rw [hnb, hu]) hc
    · rw [if_pos rfl]
      refine ⟨fun r h => ?_, fun h => (by cases h)⟩
      injection h with h
      subst h
      exact ev_fit hn (by omega) hf
/-- The program's search is that one. -/
theorem try_none {l : List S30} {m : Int} : ∀ (q : Nat) (p : List Int), runS l m (start l) [] p = none → refTry (fitsB l m) l.length q p = none := by
  intro q
  induction q with
  | zero => intro p _; rfl
  | succ q ih =>
    intro p h
    have hf : fitsB l m p = false := by unfold fitsB; rw [h]
    rw [refTry, if_neg (by rw [hf]; decide), List.findSome?_eq_none_iff]
    intro k _
    split
    · rfl
    · exact ih _ (by rw [runS_append, h]; rfl)
theorem find_congr {α β : Type} {f g : α → Option β} : ∀ {L : List α}, (∀ x ∈ L, f x = g x) → L.findSome? f = L.findSome? g := by
  intro L
  induction L with
  | nil => intro _; rfl
  | cons x L ih =>
    intro h
    rw [List.findSome?_cons, List.findSome?_cons, h x List.mem_cons_self, ih (fun y hy => h y (List.mem_cons_of_mem _ hy))]
theorem try_same {l : List S30} {m : Int} : ∀ (q : Nat) (C : List Bool) (p s : List Int), runS l m (start l) [] p = some (C, s) → linTry l m q C p s = refTry (fitsB l m) l.length q p := by
  intro q
  induction q with
  | zero => intro C p s _; rfl
  | succ q ih =>
    intro C p s h
    have hC : C.length = l.length := (runS_count (by unfold start; simp) h).1
    have hf : fitsB l m p = linOverB l C := by unfold fitsB; rw [h]
    have hisC : IsC l p C := by
      have hsp := run_split l m p (start l) []
      rw [h] at hsp
      obtain ⟨C', hc', hr⟩ := Option.bind_eq_some_iff.1 hsp.symm
      obtain ⟨s', _, he⟩ := Option.map_eq_some_iff.1 hr
      simp only [Prod.mk.injEq] at he
      obtain ⟨rfl, rfl⟩ := he
      have := (runC_isC (isC_start l) hc').1
      rwa [List.nil_append] at this
    rw [linTry_succ, refTry, hf]
    by_cases ho : linOverB l C = true
    · rw [if_pos ho, if_pos ho]
    · rw [if_neg ho, if_neg ho]
      refine find_congr (fun k hk => ?_)
      have hk' : k < l.length := by simpa [List.mem_range'_1] using hk
      unfold linF
      have hstep : runS l m (start l) [] (p ++ [(k : Int)]) = (stepS l m C s (k : Int)).bind fun q => runS l m q.1 q.2 [] := by rw [runS_append, h]; rfl
      by_cases hm : linMayB l (k : Int) C = true
      · have hkp : ¬ (k : Int) ∈ p := by
          have h1 := may_not hm
          rw [hisC.2 k hk'] at h1
          exact of_decide_eq_false h1
        rw [if_pos hm, if_neg hkp]
        cases hd : linDone s m (rd_T30 l (k : Int)) with
        | none =>
          have : stepS l m C s (k : Int) = none := by unfold stepS; rw [hd]; split <;> rfl
          rw [this] at hstep
          exact (try_none q _ hstep).symm
        | some t =>
          have : stepS l m C s (k : Int) = some (C.set k true, t) := stepS_some.2 ⟨by omega, by omega, hm, hd, by simp⟩
          rw [this] at hstep
          exact ih _ _ _ hstep
      · rw [if_neg hm]
        by_cases hkp : (k : Int) ∈ p
        · rw [if_pos hkp]
        · rw [if_neg hkp]
          have : stepS l m C s (k : Int) = none := by unfold stepS; rw [if_neg (fun hh => hm hh.2.2)]
          rw [this] at hstep
          exact (try_none q _ hstep).symm
theorem find_same (l : List S30) (m : Int) (hn : l.length ≤ 6) : ∃ K0, ∀ K, K0 ≤ K → hatstandref15_Find.f K (l.map conv) m = some (toR (findB l m)) := by
  have hs : findB l m = refTry (fitsB l m) l.length (l.length + 1) [] := try_same (l.length + 1) (start l) [] [] rfl
  obtain ⟨h1, h2⟩ := ev_tree (l := l) (m := m) (by omega) (l.length + 1) [] (by simp) (by simp) (by simp)
  have hev : Ev l m [] (toR (findB l m)) := by
    rw [hs]
    cases hr : refTry (fitsB l m) l.length (l.length + 1) [] with
    | some r => exact h1 r hr
    | none => exact h2 hr _ rfl
  obtain ⟨K0, h0⟩ := hev
  refine ⟨K0, fun K hK => ?_⟩
  unfold hatstandref15_Find.f
  rw [List.length_map, if_neg (by omega)]
  exact h0 K hK
theorem LinearTells : hatstandlaw15_LinearTells.Pure := by
  intro l0 a1 l2 _ _ _ _ _ _ _
  by_cases hl : (l0.length : Int) > 8
  · refine ⟨20, ?_⟩
    unfold hatstandlaw15_LinearTells.f
    rw [shown_true (by decide), bs, if_pos rfl, if_pos hl]
    unfold hatstandlaw15_LinearTells.j0; dsimp only
    rw [if_pos rfl]
  · by_cases ho : (l2.length : Int) > 20
    · refine ⟨20, ?_⟩
      unfold hatstandlaw15_LinearTells.f
      rw [shown_true (by decide), bs, if_pos rfl, if_neg hl, decide_eq_true ho]
      unfold hatstandlaw15_LinearTells.j0; dsimp only
      rw [if_pos rfl]
    · have hfind : ∃ K0 v, linear_Find.f l0 a1 = some v ∧ v.1.length ≤ 8 ∧ ∀ K, K0 ≤ K → hatstandref15_Find.f K (l0.map conv) a1 = some v := by
        by_cases h6 : l0.length ≤ 6
        · obtain ⟨K0, h0⟩ := find_same l0 a1 h6
          refine ⟨K0, toR (findB l0 a1), by rw [lin_find h6]; cases findB l0 a1 <;> rfl, ?_, h0⟩
          cases hf : findB l0 a1 with
          | none => simp [toR]
          | some p => have := (find_some hf).2; simp only [toR]; omega
        · refine ⟨0, ([], false), by unfold linear_Find.f; rw [if_neg h6], by simp, fun K _ => ?_⟩
          unfold hatstandref15_Find.f
          rw [List.length_map, if_pos (by omega)]
      obtain ⟨K0, v, hv, hv8, hr⟩ := hfind
      refine ⟨K0 + 2000 + 1, ?_⟩
      have q1 : l0.length ≤ 8 := by omega
      have q2 : l2.length ≤ 20 := by omega
      unfold hatstandlaw15_LinearTells.f
      rw [shown_true (by omega), bs, if_pos rfl, if_neg hl, decide_eq_false ho]
      unfold hatstandlaw15_LinearTells.j0; dsimp only
      rw [if_neg (by simp), hv, bs, as_all (by omega) (by omega), bs, hr _ (by omega), bs, lin_fits (by omega) (by omega) (by omega), bs, bs, ref_fits q1 (by omega) (by omega), bs, if_pos (by simp), same_ints (by omega) (by omega), bs, if_pos (by simp)]
      simp
end Go.Proofs.Ytdcnnphgcapiaaa.Pure
