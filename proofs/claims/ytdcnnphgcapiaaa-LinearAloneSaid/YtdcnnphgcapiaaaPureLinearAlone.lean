/- LinearAlone: calls that go alone fit in no other order than theirs, and in that one just if the stack may answer so: for every input. -/
import Derived.Test.YtdcnnphgcapiaaaPx16
import Derived.Laws.Bits64
set_option linter.unusedVariables false
set_option linter.unusedSimpArgs false
namespace Go.Proofs.Ytdcnnphgcapiaaa.Pure
open Go.RowKit Go.Proofs.Ytdcnnphgcapiaaa.P Go.Proofs.YtdcnnphgcapiaaaW.PrintWords Go.Proofs.YtdcnnphgcapiaaaW.PrintLast
/-- 'Option.bind_some', but no law by definition: so Lean's kernel need not compare what the two sides unfold to. -/
theorem bs {α β : Type} (x : α) (f : α → Option β) : (some x).bind f = f x := by rw [Option.bind_some]
theorem wf_i64 {x : Int} (h : (Lit.int .i64 x).wf = true) : -9223372036854775808 ≤ x ∧ x ≤ 9223372036854775807 := by
  simp [Lit.wf, IntKind.min, IntKind.max, IntKind.signed, IntKind.bits] at h; omega
theorem wf_u64 {x : Int} (h : (Lit.int .u64 x).wf = true) : 0 ≤ x ∧ x < 18446744073709551616 := by
  simp [Lit.wf, IntKind.min, IntKind.max, IntKind.signed, IntKind.bits] at h; omega
theorem w_nat {i : Nat} (h : i < 1000000000) : wrap64 ((i : Int) + 1) = ((i + 1 : Nat) : Int) := by unfold wrap64; omega
/-- One step of an order: the call k comes next. -/
def stepS (l : List S30) (m : Int) (C : List Bool) (s : List Int) (k : Int) : Option (List Bool × List Int) :=
  if 0 ≤ k ∧ k < (l.length : Int) ∧ linMayB l k C = true then (linDone s m (rd_T30 l k)).map (fun t => (C.set k.toNat true, t)) else none
/-- Calls, one behind the other. -/
def runS (l : List S30) (m : Int) : List Bool → List Int → List Int → Option (List Bool × List Int)
  | C, s, [] => some (C, s)
  | C, s, k :: e => (stepS l m C s k).bind fun q => runS l m q.1 q.2 e
def start (l : List S30) : List Bool := List.replicate l.length false
/-- An order fits. -/
def fitsB (l : List S30) (m : Int) (e : List Int) : Bool := match runS l m (start l) [] e with | some q => linOverB l q.1 | none => false
theorem runS_nil (l : List S30) (m : Int) (C : List Bool) (s : List Int) : runS l m C s [] = some (C, s) := rfl
theorem runS_cons (l : List S30) (m : Int) (C : List Bool) (s : List Int) (k : Int) (e : List Int) : runS l m C s (k :: e) = (stepS l m C s k).bind fun q => runS l m q.1 q.2 e := rfl
theorem runS_append (l : List S30) (m : Int) (e2 : List Int) : ∀ (e1 : List Int) (C : List Bool) (s : List Int), runS l m C s (e1 ++ e2) = (runS l m C s e1).bind fun q => runS l m q.1 q.2 e2 := by
  intro e1
  induction e1 with
  | nil => intro C s; rfl
  | cons k e ih =>
    intro C s
    rw [List.cons_append, runS_cons, runS_cons]
    cases stepS l m C s k with
    | none => rfl
    | some q => simp only [Option.bind_some]; exact ih _ _
theorem stepS_some {l : List S30} {m : Int} {C C' : List Bool} {s s' : List Int} {k : Int} : stepS l m C s k = some (C', s') ↔ 0 ≤ k ∧ k < (l.length : Int) ∧ linMayB l k C = true ∧ linDone s m (rd_T30 l k) = some s' ∧ C' = C.set k.toNat true := by
  unfold stepS
  constructor
  · intro h
    split at h
    · rename_i hc
      obtain ⟨t, ht, he⟩ := Option.map_eq_some_iff.1 h
      simp only [Prod.mk.injEq] at he
      obtain ⟨rfl, rfl⟩ := he
      exact ⟨hc.1, hc.2.1, hc.2.2, ht, rfl⟩
    · cases h
  · rintro ⟨h1, h2, h3, h4, rfl⟩
    rw [if_pos ⟨h1, h2, h3⟩, h4]
    rfl
theorem runS_cons_some {l : List S30} {m : Int} {C C' : List Bool} {s s' : List Int} {k : Int} {e : List Int} : runS l m C s (k :: e) = some (C', s') ↔ 0 ≤ k ∧ k < (l.length : Int) ∧ linMayB l k C = true ∧ ∃ t, linDone s m (rd_T30 l k) = some t ∧ runS l m (C.set k.toNat true) t e = some (C', s') := by
  rw [runS_cons]
  constructor
  · intro h
    obtain ⟨⟨D, t⟩, hq, hr⟩ := Option.bind_eq_some_iff.1 h
    obtain ⟨h1, h2, h3, h4, rfl⟩ := stepS_some.1 hq
    exact ⟨h1, h2, h3, t, h4, hr⟩
  · rintro ⟨h1, h2, h3, t, h4, h5⟩
    rw [stepS_some.2 ⟨h1, h2, h3, h4, rfl⟩]
    exact h5
theorem may_not {l : List S30} {k : Int} {C : List Bool} (h : linMayB l k C = true) : rdOf false C k = false := by
  unfold linMayB at h; simp at h; exact h.2
theorem may_iff {l : List S30} {k : Int} {C : List Bool} : linMayB l k C = true ↔ rdOf false C k = false ∧ ∀ i : Nat, i < l.length → (i : Int) ≠ k → rdOf false C (i : Int) = false → linAhead (rd_T30 l (i : Int)) (rd_T30 l k) = false := by
  unfold linMayB
  rw [Bool.and_eq_true, List.all_eq_true]
  constructor
  · rintro ⟨h1, h2⟩
    refine ⟨by simpa using h2, fun i hi hk hc => ?_⟩
    have := h1 i (by simp [List.mem_range'_1]; exact hi)
    simp [hk, hc] at this
    exact this
  · rintro ⟨h1, h2⟩
    refine ⟨fun i hi => ?_, by simpa using h1⟩
    have hi' : i < l.length := by simp [List.mem_range'_1] at hi; exact hi
    by_cases hk : (i : Int) = k
    · simp [hk]
    · cases hc : rdOf false C (i : Int)
      · simp [h2 i hi' hk hc]
      · simp
theorem over_iff {l : List S30} {C : List Bool} : linOverB l C = true ↔ ∀ i : Nat, i < l.length → 0 ≤ (rd_T30 l (i : Int)).f5 → rdOf false C (i : Int) = true := by
  unfold linOverB
  rw [List.all_eq_true]
  constructor
  · intro h i hi h5
    have := h i (by simp [List.mem_range'_1]; exact hi)
    simp [h5] at this
    exact this
  · intro h i hi
    have hi' : i < l.length := by simp [List.mem_range'_1] at hi; exact hi
    by_cases h5 : 0 ≤ (rd_T30 l (i : Int)).f5
    · simp [h i hi' h5]
    · simp [h5]
theorem runS_count {l : List S30} {m : Int} : ∀ {e : List Int} {C C' : List Bool} {s s' : List Int}, C.length = l.length → runS l m C s e = some (C', s') → C'.length = l.length ∧ C'.count true = C.count true + e.length ∧ s'.length ≤ s.length + e.length := by
  intro e
  induction e with
  | nil =>
    intro C C' s s' hC h
    rw [runS_nil] at h
    injection h with h
    injection h with h1 h2
    subst h1; subst h2
    exact ⟨hC, by simp, by simp⟩
  | cons k e ih =>
    intro C C' s s' hC h
    obtain ⟨h0, h1, h2, t, h3, h4⟩ := runS_cons_some.1 h
    obtain ⟨a1, a2, a3⟩ := ih (by rw [List.length_set]; exact hC) h4
    have hk : rdOf false C ((k.toNat : Nat) : Int) = false := by rw [show ((k.toNat : Nat) : Int) = k by omega]; exact may_not h2
    have hcnt := lin_count (C := C) (i := k.toNat) (by omega) hk
    have hl := linDone_len h3
    refine ⟨a1, by rw [a2, hcnt]; simp; omega, by simp; omega⟩
theorem runS_len {l : List S30} {m : Int} {e : List Int} {C' : List Bool} {s' : List Int} (h : runS l m (start l) [] e = some (C', s')) : e.length ≤ l.length := by
  obtain ⟨h1, h2, _⟩ := runS_count (by unfold start; simp) h
  have := List.count_le_length (a := true) (l := C')
  omega
theorem rd_drop {L : List Int} {i : Nat} {x : Int} {e : List Int} (h : L.drop i = x :: e) : i < L.length ∧ rd L (i : Int) = x ∧ L.drop (i + 1) = e := by
  have hi : i < L.length := by
    rcases Nat.lt_or_ge i L.length with h1 | h1
    · exact h1
    · rw [List.drop_eq_nil_of_le h1] at h; cases h
  rw [List.drop_eq_getElem_cons hi] at h
  injection h with h1 h2
  refine ⟨hi, ?_, h2⟩
  unfold rd
  rw [List.getD_eq_getElem?_getD, Int.toNat_natCast, List.getElem?_eq_getElem hi]
  exact h1
theorem lin_fits_l0 (l : List S30) (m : Int) (L : List Int) (hn : l.length < 1000000) (hL : L.length < 100000) : ∀ (e : List Int) (i k : Nat) (C : List Bool) (s : List Int), L.drop i = e → C.length = l.length → s.length + e.length ≤ 100000 → i ≤ L.length → 2 * e.length + 2 * l.length + 4 ≤ k →
    linear_Fits.l0 k l m C s L (L.length : Int) (i : Int) = some (match runS l m C s e with | some q => linOverB l q.1 | none => false) := by
  intro e
  induction e with
  | nil =>
    intro i k C s he hC hs hi hk
    obtain ⟨k, rfl⟩ : ∃ q, k = q + 1 := ⟨k - 1, by omega⟩
    have hi2 : L.length ≤ i := by rcases Nat.lt_or_ge i L.length with h | h; rw [List.drop_eq_getElem_cons h] at he; cases he; exact h
    unfold linear_Fits.l0
    rw [if_neg (by omega), lin_over hC (by omega) (by omega), bs, runS_nil]
  | cons x e ih =>
    intro i k C s he hC hs hi hk
    obtain ⟨hi2, hx, he2⟩ := rd_drop he
    simp only [List.length_cons] at hs hk
    obtain ⟨k, rfl⟩ : ∃ q, k = q + 2 := ⟨k - 2, by omega⟩
    unfold linear_Fits.l0
    rw [if_pos (by omega), if_pos (by omega), if_pos (by omega), hx, runS_cons]
    have hno : ∀ b : Bool, b = true → linear_Fits.j1 (k + 1) l m C s x L (L.length : Int) (i : Int) b = some false := by
      intro b hb; unfold linear_Fits.j1; rw [if_pos hb]
    by_cases h0 : x < 0
    · rw [if_pos h0, hno _ rfl]
      have : stepS l m C s x = none := by unfold stepS; rw [if_neg (by omega)]
      rw [this]; rfl
    · rw [if_neg h0]
      by_cases h1 : x ≥ (l.length : Int)
      · rw [if_pos h1, hno _ rfl]
        have : stepS l m C s x = none := by unfold stepS; rw [if_neg (by omega)]
        rw [this]; rfl
      · rw [if_neg h1, lin_may hC (by omega) (by omega) (by omega) (by omega), bs]
        cases hm : linMayB l x C
        · rw [hno _ (by simp)]
          have : stepS l m C s x = none := by unfold stepS; rw [if_neg (by simp [hm])]
          rw [this]; rfl
        · unfold linear_Fits.j1
          rw [if_neg (by simp), if_pos (by omega), if_pos (by omega), lin_done _ _ (by omega) (by omega), bs]
          cases hd : linDone s m (rd_T30 l x) with
          | none =>
            have : stepS l m C s x = none := by unfold stepS; rw [if_pos ⟨by omega, by omega, hm⟩, hd]; rfl
            rw [this]
            simp
          | some t =>
            have : stepS l m C s x = some (C.set x.toNat true, t) := stepS_some.2 ⟨by omega, by omega, hm, hd, rfl⟩
            have hlen := linDone_len hd
            rw [this]
            simp only [Option.bind_some, if_true]
            rw [if_pos (by omega), w_nat (by omega)]
            exact ih (i + 1) k _ t he2 (by rw [List.length_set]; exact hC) (by omega) (by omega) (by omega)
theorem lin_fits {l : List S30} {m : Int} {L : List Int} (hn : l.length < 1000000) (hL : L.length < 100000) {k : Nat} (hk : 2 * L.length + 2 * l.length + 4 ≤ k) : linear_Fits.f k l m L = some (fitsB l m L) := by
  unfold linear_Fits.f fitsB
  rw [if_pos (by omega), if_pos (by omega)]
  have h := lin_fits_l0 l m L hn hL L 0 k (start l) [] rfl (by unfold start; simp) (by simp; omega) (by omega) hk
  simp only [Int.toNat_natCast]
  exact h
theorem try_sound {l : List S30} {m : Int} : ∀ {q : Nat} {C : List Bool} {p s r : List Int}, linTry l m q C p s = some r → ∃ e C' s', r = p ++ e ∧ runS l m C s e = some (C', s') ∧ linOverB l C' = true := by
  intro q
  induction q with
  | zero => intro C p s r h; simp [linTry] at h
  | succ q ih =>
    intro C p s r h
    rw [linTry_succ] at h
    split at h
    · rename_i ho
      injection h with h
      exact ⟨[], C, s, by simp [h], rfl, ho⟩
    · obtain ⟨k, hk, hf⟩ := List.exists_of_findSome?_eq_some h
      have hk' : k < l.length := by simp [List.mem_range'_1] at hk; exact hk
      unfold linF at hf
      split at hf
      · rename_i hm
        split at hf
        · rename_i t ht
          obtain ⟨e, C', s', he, hr, ho⟩ := ih hf
          refine ⟨(k : Int) :: e, C', s', by rw [he]; simp, ?_, ho⟩
          exact runS_cons_some.2 ⟨by omega, by omega, hm, t, ht, by simpa using hr⟩
        · cases hf
      · cases hf
theorem try_complete {l : List S30} {m : Int} {C' : List Bool} {s' : List Int} (ho : linOverB l C' = true) : ∀ {e : List Int} {q : Nat} {C : List Bool} {p s : List Int}, C.length = l.length → l.length + 1 ≤ q + C.count true → runS l m C s e = some (C', s') → linTry l m q C p s ≠ none := by
  intro e
  induction e with
  | nil =>
    intro q C p s hC hq h
    rw [runS_nil] at h
    injection h with h
    injection h with h1 h2
    have := List.count_le_length (a := true) (l := C)
    obtain ⟨q, rfl⟩ : ∃ z, q = z + 1 := ⟨q - 1, by omega⟩
    rw [linTry_succ, if_pos (by rw [h1]; exact ho)]
    simp
  | cons k e ih =>
    intro q C p s hC hq h
    obtain ⟨h0, h1, h2, t, h3, h4⟩ := runS_cons_some.1 h
    have := List.count_le_length (a := true) (l := C)
    obtain ⟨q, rfl⟩ : ∃ z, q = z + 1 := ⟨q - 1, by omega⟩
    rw [linTry_succ]
    split
    · simp
    · intro hn
      have hk : ((k.toNat : Nat) : Int) = k := by omega
      have hf := List.findSome?_eq_none_iff.1 hn k.toNat (by simp [List.mem_range'_1]; omega)
      unfold linF at hf
      rw [hk, if_pos h2, h3] at hf
      have hcnt := lin_count (C := C) (i := k.toNat) (by omega) (by rw [hk]; exact may_not h2)
      exact ih (by rw [List.length_set]; exact hC) (by rw [hcnt]; omega) h4 hf
/-- What Find tells. -/
def findB (l : List S30) (m : Int) : Option (List Int) := linTry l m (l.length + 1) (start l) [] []
theorem lin_find {l : List S30} {m : Int} (hn : l.length ≤ 6) : linear_Find.f l m = some (match findB l m with | some p => (p, true) | none => ([], false)) := by
  unfold linear_Find.f
  rw [if_pos hn]
  rfl
theorem find_some {l : List S30} {m : Int} {p : List Int} (h : findB l m = some p) : fitsB l m p = true ∧ p.length ≤ l.length := by
  obtain ⟨e, C', s', he, hr, ho⟩ := try_sound h
  rw [List.nil_append] at he
  subst he
  exact ⟨by unfold fitsB; rw [hr]; exact ho, runS_len hr⟩
theorem fits_run {l : List S30} {m : Int} {e : List Int} (h : fitsB l m e = true) : ∃ C' s', runS l m (start l) [] e = some (C', s') ∧ linOverB l C' = true := by
  unfold fitsB at h
  split at h
  · rename_i q hq
    exact ⟨q.1, q.2, hq, h⟩
  · cases h
theorem find_of_fits {l : List S30} {m : Int} {e : List Int} (h : fitsB l m e = true) : ∃ p, findB l m = some p := by
  obtain ⟨C', s', hr, ho⟩ := fits_run h
  have := try_complete ho (q := l.length + 1) (p := []) (by unfold start; simp) (by omega) hr
  exact Option.ne_none_iff_exists'.1 this
theorem find_none {l : List S30} {m : Int} (h : findB l m = none) (e : List Int) : fitsB l m e = false := by
  cases hf : fitsB l m e
  · rfl
  · obtain ⟨p, hp⟩ := find_of_fits hf
    rw [h] at hp; cases hp
/-- A raw number picks one of n things. -/
theorem pick_of (c n : Int) (h0 : -9223372036854775808 ≤ c) (h1 : c ≤ 9223372036854775807) (hn : 0 < n) : ∃ p, hatstandlaw15_pick.f c n = some p ∧ 0 ≤ p ∧ p < n := by
  unfold hatstandlaw15_pick.f
  have hn0 : ¬ n = 0 := by omega
  by_cases hc : c < 0
  · rw [if_pos hc, if_neg hn0]
    have e : wrap64 (-(wrap64 (c + 1))) = -(c + 1) := by unfold wrap64; omega
    rw [e]
    exact ⟨_, rfl, Int.tmod_nonneg _ (by omega), Int.tmod_lt_of_pos _ hn⟩
  · rw [if_neg hc, if_neg hn0]
    exact ⟨_, rfl, Int.tmod_nonneg _ (by omega), Int.tmod_lt_of_pos _ hn⟩
theorem same_l0 (a b : List Int) (hab : a.length = b.length) (hl : a.length < 1000000) : ∀ (d i k : Nat), i + d = a.length → d + 1 ≤ k → hatstandref15_SameInts.l0 k a b (i : Int) = some (decide (a.drop i = b.drop i)) := by
  intro d
  induction d with
  | zero =>
    intro i k hi hk
    obtain ⟨k, rfl⟩ : ∃ q, k = q + 1 := ⟨k - 1, by omega⟩
    unfold hatstandref15_SameInts.l0
    rw [if_neg (by omega), List.drop_eq_nil_of_le (by omega), List.drop_eq_nil_of_le (by omega)]
    simp
  | succ d ih =>
    intro i k hi hk
    obtain ⟨k, rfl⟩ : ∃ q, k = q + 1 := ⟨k - 1, by omega⟩
    have ha : rd a (i : Int) = a[i] := by unfold rd; rw [List.getD_eq_getElem?_getD, Int.toNat_natCast, List.getElem?_eq_getElem (by omega)]; rfl
    have hb : rd b (i : Int) = b[i] := by unfold rd; rw [List.getD_eq_getElem?_getD, Int.toNat_natCast, List.getElem?_eq_getElem (by omega)]; rfl
    unfold hatstandref15_SameInts.l0
    rw [if_pos (by omega), if_pos (by omega), if_pos (by omega), ha, hb, List.drop_eq_getElem_cons (by omega), List.drop_eq_getElem_cons (l := b) (by omega)]
    by_cases h : a[i] = b[i]
    · rw [if_pos h, w_nat (by omega), ih (i + 1) k (by omega) (by omega), h]
      simp only [List.cons.injEq, true_and]
    · rw [if_neg h]
      simp only [List.cons.injEq, h, false_and, decide_false]
theorem same_ints {a b : List Int} (hl : a.length < 1000000) {k : Nat} (hk : a.length + 1 ≤ k) : hatstandref15_SameInts.f k a b = some (decide (a = b)) := by
  unfold hatstandref15_SameInts.f
  by_cases h : a.length = b.length
  · rw [if_pos (by omega)]
    have := same_l0 a b h hl a.length 0 k (by omega) hk
    simpa using this
  · rw [if_neg (by omega)]
    have : ¬ a = b := fun he => h (by rw [he])
    simp [this]
theorem shown_true {k : Nat} (hk : 20 ≤ k) : hatstandlaw15_shown.f k = some true := by
  unfold hatstandlaw15_shown.f
  have e1 : linear_Find.f [(⟨0, true, 5, 1, 0, 3⟩ : S30), (⟨1, false, 5, 1, 1, 2⟩ : S30)] 4 = some ([0, 1], true) := by decide
  have e2 : fitsB [(⟨0, true, 5, 1, 0, 3⟩ : S30), (⟨1, false, 5, 1, 1, 2⟩ : S30)] 4 [1, 0] = false := by decide
  rw [bs, e1, bs, if_pos rfl, same_ints (by decide) (by simp; omega), bs, if_pos (by decide), lin_fits (by decide) (by decide) (by simp; omega), bs, e2]
  rfl
theorem ref_push {s : List Int} (m v : Int) (hs : s.length < 1000000) : hatstandref5_Push.f s m v = some (stPush s m v) := by
  unfold hatstandref5_Push.f stPush
  rw [bs, if_pos (by simp; omega), bs]
  by_cases h : (s.length : Int) < m
  · rw [if_pos h, if_pos (by simp; omega), if_neg (by omega)]; simp
  · rw [if_neg h, if_pos (by omega)]; simp
theorem ref_pop {s : List Int} (hs : s.length < 1000000) : hatstandref5_Pop.f s = some (stPop s) := by
  have e : wrap64 ((s.length : Int) - 1) = (s.length : Int) - 1 := by unfold wrap64; omega
  unfold hatstandref5_Pop.f stPop
  rw [e]
  by_cases h : s.length = 0
  · rw [if_pos (by omega), if_pos h]
  · rw [if_neg (by omega), if_neg h, bs, if_pos (by omega), if_pos (by omega), if_pos (by simp; omega), if_pos (by omega), show ((s.length : Int) - 1).toNat = s.length - 1 by omega]
    simp
/-- What a stack answers. -/
def stStatus (s : List Int) (m : Int) (push : Bool) (v : Int) : List Int × Int × Int := if push = true then ((stPush s m v).1, v, (stPush s m v).2) else stPop s
theorem ref_status {s : List Int} (m : Int) (push : Bool) (v : Int) (hs : s.length < 1000000) : hatstandref15_Status.f s m push v = some (stStatus s m push v) := by
  unfold hatstandref15_Status.f stStatus
  by_cases h : push = true
  · rw [if_pos h, if_pos h, ref_push _ _ hs, bs]
  · rw [if_neg h, if_neg h, ref_pop hs, bs]
/-- Calls that a stack answers, one behind the other, each open around its moment. -/
inductive MadeR (m : Int) : Nat → List Int → List S30 → Prop
  | nil (i : Nat) (s : List Int) : MadeR m i s []
  | cons (i : Nat) (s t : List Int) (c : S30) (cs : List S30) (hd : stDo s m c.f1 c.f2 c.f3 = some t) (h1 : c.f4 ≤ 100 * (i : Int) + 1000) (h2 : 100 * (i : Int) + 1001 ≤ c.f5) (h3 : 0 ≤ c.f4) (h4 : c.f5 ≤ 10000) (ht : MadeR m (i + 1) t cs) : MadeR m i s (c :: cs)
theorem st_push (s : List Int) (m v : Int) : stDo s m true v (stPush s m v).2 = some (stPush s m v).1 := by
  unfold stDo
  have : ¬ (stPush s m v).2 = 6 := by unfold stPush; split <;> simp
  rw [if_neg this, if_pos rfl, if_pos rfl]
theorem st_pop (s : List Int) (m : Int) : stDo s m false (stPop s).2.1 (stPop s).2.2 = some (stPop s).1 := by
  unfold stDo
  have : ¬ (stPop s).2.2 = 6 := by unfold stPop; split <;> simp
  rw [if_neg this, if_neg (by simp), if_pos ⟨rfl, rfl⟩]
theorem st_retry (s : List Int) (m : Int) (push : Bool) (v : Int) : stDo s m push v 6 = some s := by unfold stDo; rw [if_pos rfl]
theorem w_id {i : Int} (h0 : -9223372036854775808 ≤ i) (h1 : i ≤ 9223372036854775807) : wrap64 i = i := by unfold wrap64; omega
theorem w_in (x : Int) : -9223372036854775808 ≤ wrap64 x ∧ wrap64 x ≤ 9223372036854775807 := by unfold wrap64; omega
theorem w_from {i : Nat} {a : Int} (hi : i ≤ 60) (h0 : 0 ≤ a) (h1 : a < 700) : wrap64 ((wrap64 ((wrap64 (100 * (i : Int))) - a)) + 1000) = 100 * (i : Int) - a + 1000 := by
  rw [w_id (i := 100 * (i : Int)) (by omega) (by omega), w_id (i := 100 * (i : Int) - a) (by omega) (by omega), w_id (by omega) (by omega)]
theorem w_to {i : Nat} {a : Int} (hi : i ≤ 60) (h0 : 0 ≤ a) (h1 : a < 700) : wrap64 ((wrap64 ((wrap64 (100 * (i : Int))) + a)) + 1001) = 100 * (i : Int) + a + 1001 := by
  rw [w_id (i := 100 * (i : Int)) (by omega) (by omega), w_id (i := 100 * (i : Int) + a) (by omega) (by omega), w_id (by omega) (by omega)]
theorem made_j (l : List S51) (m : Int) (k d i : Nat) (acc : List S30) (s t : List Int) (v st F T : Int) (push : Bool) (hi : i < l.length) (hi2 : i ≤ 60) (ha : acc.length = i) (hs : s.length ≤ i) (ht : t.length ≤ i + 1)
    (ih : ∀ (acc' : List S30) (s' : List Int), acc'.length = i + 1 → s'.length ≤ i + 1 → ∃ cs, hatstandlaw15_made.l0 k l m acc' s' ((i + 1 : Nat) : Int) = some (acc' ++ cs) ∧ MadeR m (i + 1) s' cs ∧ cs.length = d)
    (h1 : F ≤ 100 * (i : Int) + 1000) (h2 : 100 * (i : Int) + 1001 ≤ T) (h3 : 0 ≤ F) (h4 : T ≤ 10000) (hst : stDo s m push v st = some t) :
    ∃ cs, hatstandlaw15_made.j1 (k + 1) l m acc s (i : Int) t (i : Int) push v st F T = some (acc ++ cs) ∧ MadeR m i s cs ∧ cs.length = d + 1 := by
  unfold hatstandlaw15_made.j1
  rw [if_pos (by omega), if_pos (by omega)]
  by_cases hr : (rd_T51 l (i : Int)).f1 = true
  · rw [if_pos hr, if_pos (by omega), w_nat (by omega)]
    obtain ⟨cs, g1, g2, g3⟩ := ih (acc ++ [(⟨(i : Int), push, v, 6, F, T⟩ : S30)]) s (by simp; omega) (by omega)
    exact ⟨_ :: cs, by rw [g1, List.append_assoc, List.singleton_append], MadeR.cons i s s _ cs (st_retry _ _ _ _) h1 h2 h3 h4 g2, by simp [g3]⟩
  · rw [if_neg hr, if_pos (by omega), w_nat (by omega)]
    obtain ⟨cs, g1, g2, g3⟩ := ih (acc ++ [(⟨(i : Int), push, v, st, F, T⟩ : S30)]) t (by simp; omega) (by omega)
    exact ⟨_ :: cs, by rw [g1, List.append_assoc, List.singleton_append], MadeR.cons i s t _ cs hst h1 h2 h3 h4 g2, by simp [g3]⟩
theorem pop_len (s : List Int) : (stPop s).1.length ≤ s.length := by unfold stPop; split <;> simp
theorem push_len (s : List Int) (m v : Int) : (stPush s m v).1.length ≤ s.length + 1 := by unfold stPush; split <;> simp
theorem made_l0 (l : List S51) (m : Int) (hn : l.length ≤ 60) (hw : ∀ x ∈ l, -9223372036854775808 ≤ x.f3 ∧ x.f3 ≤ 9223372036854775807) : ∀ (d i k : Nat) (acc : List S30) (s : List Int), i + d = l.length → acc.length = i → s.length ≤ i → 2 * d + 1 ≤ k →
    ∃ cs, hatstandlaw15_made.l0 k l m acc s (i : Int) = some (acc ++ cs) ∧ MadeR m i s cs ∧ cs.length = d := by
  intro d
  induction d with
  | zero =>
    intro i k acc s hi ha hs hk
    obtain ⟨k, rfl⟩ : ∃ q, k = q + 1 := ⟨k - 1, by omega⟩
    refine ⟨[], ?_, MadeR.nil _ _, rfl⟩
    unfold hatstandlaw15_made.l0
    rw [if_neg (by omega), List.append_nil]
  | succ d ih =>
    intro i k acc s hi ha hs hk
    obtain ⟨k, rfl⟩ : ∃ q, k = q + 2 := ⟨k - 2, by omega⟩
    have hx : -9223372036854775808 ≤ (rd_T51 l (i : Int)).f3 ∧ (rd_T51 l (i : Int)).f3 ≤ 9223372036854775807 := by
      unfold rd_T51
      rw [List.getD_eq_getElem?_getD, Int.toNat_natCast, List.getElem?_eq_getElem (by omega)]
      exact hw _ (List.getElem_mem _)
    have ih1 : ∀ (acc' : List S30) (s' : List Int), acc'.length = i + 1 → s'.length ≤ i + 1 → ∃ cs, hatstandlaw15_made.l0 k l m acc' s' ((i + 1 : Nat) : Int) = some (acc' ++ cs) ∧ MadeR m (i + 1) s' cs ∧ cs.length = d := fun acc' s' h1 h2 => ih (i + 1) k acc' s' (by omega) h1 h2 (by omega)
    have hj := fun (t : List Int) (v st F T : Int) (push : Bool) ht => made_j l m k d i acc s t v st F T push (by omega) (by omega) ha hs ht ih1
    have q1 : (i : Int) < (l.length : Int) := by omega
    have q0 : 0 ≤ (i : Int) := by omega
    have q2 : s.length < 1000000 := by omega
    have q3 : (stPop s).1.length ≤ i + 1 := by have := pop_len s; omega
    have q4 : ∀ v, (stPush s m v).1.length ≤ i + 1 := by intro v; have := push_len s m v; omega
    have q5 : i ≤ 60 := by omega
    have q6 : ∀ a : Int, 0 ≤ a → a < 700 → 100 * (i : Int) - a + 1000 ≤ 100 * (i : Int) + 1000 ∧ 100 * (i : Int) + 1001 ≤ 100 * (i : Int) + a + 1001 ∧ 0 ≤ 100 * (i : Int) - a + 1000 ∧ 100 * (i : Int) + a + 1001 ≤ 10000 := by intro a h0 h1; omega
    clear ih ih1 hi ha hs hk
    obtain ⟨a, ha1, ha2, ha3⟩ := pick_of (rd_T51 l (i : Int)).f3 700 hx.1 hx.2 (by decide)
    obtain ⟨b, hb1, hb2, hb3⟩ := pick_of (wrap64 (Int.tdiv (rd_T51 l (i : Int)).f3 7)) 700 (w_in _).1 (w_in _).2 (by decide)
    unfold hatstandlaw15_made.l0
    rw [if_pos q1, if_pos q0, ha1, bs, hb1, bs, ref_status _ _ _ q2, bs, w_from q5 ha2 ha3, w_to q5 hb2 hb3]
    unfold stStatus
    have qa := q6 a ha2 ha3
    have qb := q6 b hb2 hb3
    by_cases hp : (rd_T51 l (i : Int)).f0 = true
    · rw [if_pos hp, if_pos hp, hp]
      exact hj _ _ _ _ _ true (q4 _) qa.1 qb.2.1 qa.2.2.1 qb.2.2.2 (st_push s m _)
    · rw [if_neg hp, if_neg hp, Bool.eq_false_iff.2 hp]
      exact hj _ _ _ _ _ false q3 qa.1 qb.2.1 qa.2.2.1 qb.2.2.2 (st_pop s m)
theorem made_some {l : List S51} (m : Int) (hn : l.length ≤ 60) (hw : ∀ x ∈ l, (Lit.int .u64 x.f2).wf = true ∧ (Lit.int .i64 x.f3).wf = true) {k : Nat} (hk : 2 * l.length + 1 ≤ k) : ∃ cs, hatstandlaw15_made.f k l m = some cs ∧ MadeR m 0 [] cs ∧ cs.length = l.length := by
  obtain ⟨cs, h1, h2, h3⟩ := made_l0 l m hn (fun x hx => wf_i64 (hw x hx).2) l.length 0 k [] [] (by omega) rfl (by simp) hk
  exact ⟨cs, by unfold hatstandlaw15_made.f; rw [List.nil_append] at h1; exact h1, h2, h3⟩
theorem made_at {m : Int} : ∀ {cs : List S30} {i : Nat} {s : List Int}, MadeR m i s cs → ∀ j : Nat, j < cs.length → (rd_T30 cs (j : Int)).f4 ≤ 100 * ((i + j : Nat) : Int) + 1000 ∧ 100 * ((i + j : Nat) : Int) + 1001 ≤ (rd_T30 cs (j : Int)).f5 ∧ 0 ≤ (rd_T30 cs (j : Int)).f4 ∧ (rd_T30 cs (j : Int)).f5 ≤ 10000 := by
  intro cs
  induction cs with
  | nil => intro i s _ j hj; simp at hj
  | cons c cs ih =>
    intro i s h j hj
    cases h with
    | cons _ _ t _ _ hd h1 h2 h3 h4 ht =>
      cases j with
      | zero => exact ⟨by simpa [rd_T30] using h1, by simpa [rd_T30] using h2, by simpa [rd_T30] using h3, by simpa [rd_T30] using h4⟩
      | succ j =>
        have := ih ht j (by simpa using hj)
        have e : rd_T30 (c :: cs) ((j + 1 : Nat) : Int) = rd_T30 cs (j : Int) := by simp [rd_T30]
        rw [e, show i + (j + 1) = i + 1 + j by omega]
        exact this
/-- Calls in their own order. -/
def seqS (l : List S30) (m : Int) : Nat → Nat → List Int → Option (List Int)
  | _, 0, s => some s
  | i, d + 1, s => (linDone s m (rd_T30 l (i : Int))).bind fun t => seqS l m (i + 1) d t
def ids (i d : Nat) : List Int := (List.range' i d).map fun j : Nat => (j : Int)
theorem ids_succ (i d : Nat) : ids i (d + 1) = (i : Int) :: ids (i + 1) d := by unfold ids; rw [List.range'_succ]; rfl
theorem ids_length (i d : Nat) : (ids i d).length = d := by unfold ids; simp
theorem half_get (i d j : Nat) : rdOf false (List.replicate i true ++ List.replicate d false) (j : Int) = decide (j < i) := by
  unfold rdOf
  rw [List.getD_eq_getElem?_getD, Int.toNat_natCast]
  by_cases h : j < i
  · rw [List.getElem?_append_left (by simpa using h), List.getElem?_replicate, if_pos h]
    simp [h]
  · rw [List.getElem?_append_right (by simp; omega), List.getElem?_replicate]
    split <;> simp [h]
theorem half_set (i d : Nat) : (List.replicate i true ++ List.replicate (d + 1) false).set i true = List.replicate (i + 1) true ++ List.replicate d false := by
  rw [List.set_append_right _ _ (by simp), List.length_replicate, Nat.sub_self, List.replicate_succ (n := d), List.set_cons_zero, List.replicate_succ' (n := i), List.append_assoc, List.singleton_append]
theorem run_ids {l : List S30} {m : Int} (hno : ∀ i j : Nat, i < l.length → j < i → linAhead (rd_T30 l (i : Int)) (rd_T30 l (j : Int)) = false) : ∀ (d i : Nat) (s : List Int), i + d = l.length →
    runS l m (List.replicate i true ++ List.replicate d false) s (ids i d) = (seqS l m i d s).map fun t => (List.replicate l.length true, t) := by
  intro d
  induction d with
  | zero =>
    intro i s hi
    rw [show ids i 0 = [] from rfl, runS_nil]
    simp [seqS, ← hi]
  | succ d ih =>
    intro i s hi
    rw [ids_succ, runS_cons]
    have hm : linMayB l (i : Int) (List.replicate i true ++ List.replicate (d + 1) false) = true := by
      refine may_iff.2 ⟨by rw [half_get]; simp, fun j hj hne hc => ?_⟩
      rw [half_get] at hc
      exact hno j i hj (by have := of_decide_eq_false hc; omega)
    unfold stepS
    rw [if_pos ⟨by omega, by omega, hm⟩, seqS]
    cases linDone s m (rd_T30 l (i : Int)) with
    | none => rfl
    | some t =>
      simp only [Option.map_some, Option.bind_some, Int.toNat_natCast]
      rw [half_set]
      exact ih (i + 1) t (by omega)
theorem fits_ids {l : List S30} {m : Int} (hno : ∀ i j : Nat, i < l.length → j < i → linAhead (rd_T30 l (i : Int)) (rd_T30 l (j : Int)) = false) : fitsB l m (ids 0 l.length) = (seqS l m 0 l.length []).isSome := by
  have h := run_ids (m := m) hno l.length 0 [] (by omega)
  unfold fitsB start
  simp only [List.replicate_zero, List.nil_append] at h
  rw [h]
  cases seqS l m 0 l.length [] with
  | none => rfl
  | some t =>
    simp only [Option.map_some, Option.isSome_some]
    refine over_iff.2 (fun i hi _ => ?_)
    have := half_get l.length 0 i
    simp only [List.replicate_zero, List.append_nil] at this
    rw [this]; simp [hi]
theorem seq_made {m : Int} {l : List S30} : ∀ {cs : List S30} {i : Nat} {s : List Int}, MadeR m i s cs → l.drop i = cs → ∃ t, seqS l m i cs.length s = some t := by
  intro cs
  induction cs with
  | nil => intro i s _ _; exact ⟨s, rfl⟩
  | cons c cs ih =>
    intro i s h hl
    have hi : i < l.length := by
      rcases Nat.lt_or_ge i l.length with h1 | h1
      · exact h1
      · rw [List.drop_eq_nil_of_le h1] at hl; cases hl
    have hl2 := hl
    rw [List.drop_eq_getElem_cons hi] at hl2
    injection hl2 with e1 e2
    have er : rd_T30 l (i : Int) = c := by unfold rd_T30; rw [List.getD_eq_getElem?_getD, Int.toNat_natCast, List.getElem?_eq_getElem hi]; exact e1
    cases h with
    | cons _ _ t _ _ hd h1 h2 h3 h4 ht =>
      obtain ⟨u, hu⟩ := ih ht e2
      refine ⟨u, ?_⟩
      rw [List.length_cons, seqS, er]
      have : linDone s m c = some t := by unfold linDone; rw [if_pos (by omega)]; exact hd
      rw [this]
      exact hu
theorem made_no {m : Int} {s : List Int} {cs : List S30} (h : MadeR m 0 s cs) : ∀ i j : Nat, i < cs.length → j < i → linAhead (rd_T30 cs (i : Int)) (rd_T30 cs (j : Int)) = false := by
  intro i j hi hj
  have a := made_at h i hi
  have b := made_at h j (by omega)
  unfold linAhead
  rw [Bool.and_eq_false_iff]
  right
  exact decide_eq_false (by omega)
theorem made_fits {m : Int} {cs : List S30} (h : MadeR m 0 [] cs) : fitsB cs m (ids 0 cs.length) = true := by
  rw [fits_ids (made_no h)]
  obtain ⟨t, ht⟩ := seq_made h (l := cs) rfl
  rw [ht]; rfl
theorem ids_snoc (i : Nat) : ids 0 i ++ [(i : Int)] = ids 0 (i + 1) := by unfold ids; rw [List.range'_concat]; simp
theorem rdT_set {l : List S30} {i : Nat} {x : S30} (j : Nat) (hi : i < l.length) : rd_T30 (l.set i x) (j : Int) = if j = i then x else rd_T30 l (j : Int) := by
  unfold rd_T30
  rw [List.getD_eq_getElem?_getD, List.getD_eq_getElem?_getD, Int.toNat_natCast, List.getElem?_set]
  by_cases h : i = j
  · subst h; rw [if_pos rfl, if_pos hi, if_pos rfl]; rfl
  · rw [if_neg h, if_neg (fun h2 => h h2.symm)]
/-- Calls with bounds of when they were open. -/
def Near (cs : List S30) : Prop := ∀ j : Nat, j < cs.length → (rd_T30 cs (j : Int)).f4 ≤ 100 * (j : Int) + 1000 ∧ 100 * (j : Int) + 1001 ≤ (rd_T30 cs (j : Int)).f5 ∧ 0 ≤ (rd_T30 cs (j : Int)).f4 ∧ (rd_T30 cs (j : Int)).f5 ≤ 10000
theorem made_near {m : Int} {s : List Int} {cs : List S30} (h : MadeR m 0 s cs) : Near cs := fun j hj => by simpa using made_at h j hj
theorem near_set {cs : List S30} {i : Nat} {x : S30} (h : Near cs) (hi : i < cs.length) (h4 : x.f4 = (rd_T30 cs (i : Int)).f4) (h5 : x.f5 = (rd_T30 cs (i : Int)).f5) : Near (cs.set i x) := by
  intro j hj
  rw [List.length_set] at hj
  rw [rdT_set j hi]
  by_cases hji : j = i
  · subst hji; rw [if_pos rfl, h4, h5]; exact h j hj
  · rw [if_neg hji]; exact h j hj
theorem rdT_app1 {l : List S30} (x : S30) {i : Nat} (h : i < l.length) : rd_T30 (l ++ [x]) (i : Int) = rd_T30 l (i : Int) := by
  unfold rd_T30
  rw [List.getD_eq_getElem?_getD, List.getD_eq_getElem?_getD, Int.toNat_natCast, List.getElem?_append_left h]
theorem rdT_app2 (l : List S30) (x : S30) : rd_T30 (l ++ [x]) (l.length : Int) = x := by
  unfold rd_T30
  rw [List.getD_eq_getElem?_getD, Int.toNat_natCast, List.getElem?_append_right (Nat.le_refl _)]
  simp
theorem rdB_app1 {C : List Bool} (b : Bool) {i : Nat} (h : i < C.length) : rdOf false (C ++ [b]) (i : Int) = rdOf false C (i : Int) := by
  unfold rdOf
  rw [List.getD_eq_getElem?_getD, List.getD_eq_getElem?_getD, Int.toNat_natCast, List.getElem?_append_left h]
theorem rdB_app2 (C : List Bool) (b : Bool) : rdOf false (C ++ [b]) (C.length : Int) = b := by
  unfold rdOf
  rw [List.getD_eq_getElem?_getD, Int.toNat_natCast, List.getElem?_append_right (Nat.le_refl _)]
  simp
theorem rdB_set {C : List Bool} {i : Nat} {b : Bool} (j : Nat) (hi : i < C.length) : rdOf false (C.set i b) (j : Int) = if j = i then b else rdOf false C (j : Int) := by
  unfold rdOf
  rw [List.getD_eq_getElem?_getD, List.getD_eq_getElem?_getD, Int.toNat_natCast, List.getElem?_set]
  by_cases h : i = j
  · subst h; rw [if_pos rfl, if_pos hi, if_pos rfl]; rfl
  · rw [if_neg h, if_neg (fun h2 => h h2.symm)]
/-- A step goes on where there is one more call that came, or that isn't ahead. -/
theorem step_more {l : List S30} {m : Int} {C C' : List Bool} {s s' : List Int} {k : Int} (x : S30) (b : Bool) (hC : C.length = l.length) (hb : b = true ∨ linAhead x (rd_T30 l k) = false) (h : stepS l m C s k = some (C', s')) :
    stepS (l ++ [x]) m (C ++ [b]) s k = some (C' ++ [b], s') := by
  obtain ⟨h0, h1, h2, h3, rfl⟩ := stepS_some.1 h
  obtain ⟨c1, c2⟩ := may_iff.1 h2
  have hk : ((k.toNat : Nat) : Int) = k := by omega
  have hkl : k.toNat < l.length := by omega
  have er : rd_T30 (l ++ [x]) k = rd_T30 l k := by have := rdT_app1 x hkl; rwa [hk] at this
  refine stepS_some.2 ⟨h0, by simp; omega, may_iff.2 ⟨?_, fun i hi hne hc => ?_⟩, by rw [er]; exact h3, ?_⟩
  · have := rdB_app1 (C := C) b (i := k.toNat) (by omega)
    rw [hk] at this; rw [this]; exact c1
  · rw [er]
    simp only [List.length_append, List.length_cons, List.length_nil] at hi
    by_cases hil : i < l.length
    · rw [rdT_app1 x hil]
      rw [rdB_app1 b (by omega)] at hc
      exact c2 i hil hne hc
    · obtain rfl : i = l.length := by omega
      rw [rdT_app2]
      rw [← hC, rdB_app2] at hc
      rcases hb with hb | hb
      · rw [hb] at hc; cases hc
      · exact hb
  · rw [List.set_append_left _ _ (by omega)]
theorem run_more {l : List S30} {m : Int} (x : S30) (b : Bool) (hb : b = true ∨ ∀ c, linAhead x c = false) : ∀ {e : List Int} {C C' : List Bool} {s s' : List Int}, C.length = l.length → runS l m C s e = some (C', s') → runS (l ++ [x]) m (C ++ [b]) s e = some (C' ++ [b], s') := by
  intro e
  induction e with
  | nil =>
    intro C C' s s' hC h
    rw [runS_nil] at h
    injection h with h
    injection h with h1 h2
    subst h1; subst h2; rfl
  | cons k e ih =>
    intro C C' s s' hC h
    rw [runS_cons] at h ⊢
    obtain ⟨⟨D, t⟩, hq, hr⟩ := Option.bind_eq_some_iff.1 h
    rw [step_more x b hC (hb.imp id (fun h => h _)) hq]
    obtain ⟨_, _, _, _, rfl⟩ := stepS_some.1 hq
    exact ih (by rw [List.length_set]; exact hC) hr
theorem start_more (l : List S30) (x : S30) : start (l ++ [x]) = start l ++ [false] := by
  unfold start; rw [List.length_append, List.length_singleton, List.replicate_succ']
/-- Calls that go alone: of two the elder one ended ahead. -/
def Solo (l : List S30) : Prop := ∀ j : Nat, j < l.length → (rd_T30 l (j : Int)).f4 = 10 * (j : Int) ∧ (rd_T30 l (j : Int)).f5 = 10 * (j : Int) + 5
theorem solo_ahead {l : List S30} (h : Solo l) {i j : Nat} (hi : i < l.length) (hj : j < l.length) : linAhead (rd_T30 l (i : Int)) (rd_T30 l (j : Int)) = decide (i < j) := by
  have a := h i hi
  have b := h j hj
  unfold linAhead
  rw [a.2, b.1]
  by_cases hij : i < j
  · rw [decide_eq_true hij, decide_eq_true (by omega), decide_eq_true (by omega)]; rfl
  · rw [decide_eq_false hij, decide_eq_false (p := 10 * (i : Int) + 5 < 10 * (j : Int)) (by omega), Bool.and_false]
theorem solo_run {l : List S30} {m : Int} (h : Solo l) : ∀ {e : List Int} {i d : Nat} {C' : List Bool} {s s' : List Int}, i + d = l.length → runS l m (List.replicate i true ++ List.replicate d false) s e = some (C', s') → linOverB l C' = true → e = ids i d := by
  intro e
  induction e with
  | nil =>
    intro i d C' s s' hi hr ho
    rw [runS_nil] at hr
    injection hr with hr
    injection hr with h1 h2
    subst h1
    cases d with
    | zero => rfl
    | succ d =>
      have := over_iff.1 ho i (by omega) (by have := h i (by omega); omega)
      rw [half_get] at this
      simp at this
  | cons k e ih =>
    intro i d C' s s' hi hr ho
    obtain ⟨h0, h1, h2, t, h3, h4⟩ := runS_cons_some.1 hr
    obtain ⟨c1, c2⟩ := may_iff.1 h2
    have hk : ((k.toNat : Nat) : Int) = k := by omega
    rw [← hk, half_get] at c1
    have hki : i ≤ k.toNat := by have := of_decide_eq_false c1; omega
    have hkk : k.toNat = i := by
      rcases Nat.lt_or_ge i k.toNat with hlt | hge
      · exfalso
        have := c2 i (by omega) (by omega) (by rw [half_get]; simp)
        rw [← hk, solo_ahead h (by omega) (by omega), decide_eq_true hlt] at this
        cases this
      · omega
    obtain ⟨d, rfl⟩ : ∃ z, d = z + 1 := ⟨d - 1, by omega⟩
    rw [hkk, half_set] at h4
    rw [ids_succ, ih (by omega) h4 ho, ← hkk, hk]
theorem solo_fits {l : List S30} {m : Int} (h : Solo l) {e : List Int} (hf : fitsB l m e = true) : e = ids 0 l.length := by
  obtain ⟨C', s', hr, ho⟩ := fits_run hf
  exact solo_run (i := 0) (d := l.length) h (by omega) (by simpa [start] using hr) ho
theorem solo_no {l : List S30} (h : Solo l) : ∀ i j : Nat, i < l.length → j < i → linAhead (rd_T30 l (i : Int)) (rd_T30 l (j : Int)) = false := by
  intro i j hi hj
  rw [solo_ahead h hi (by omega)]
  exact decide_eq_false (by omega)
theorem alone_l0 {l : List S30} (h : Solo l) (hn : l.length < 1000) : ∀ (d i k : Nat), i + d = l.length → 1 ≤ i → d + 1 ≤ k → history_Alone.l0 k l (i : Int) = some true := by
  intro d
  induction d with
  | zero =>
    intro i k hi h1 hk
    obtain ⟨k, rfl⟩ : ∃ q, k = q + 1 := ⟨k - 1, by omega⟩
    unfold history_Alone.l0
    rw [if_neg (by omega)]
  | succ d ih =>
    intro i k hi h1 hk
    obtain ⟨k, rfl⟩ : ∃ q, k = q + 1 := ⟨k - 1, by omega⟩
    have e : wrap64 ((i : Int) - 1) = ((i - 1 : Nat) : Int) := by rw [w_id (by omega) (by omega)]; omega
    have a := h (i - 1) (by omega)
    have b := h i (by omega)
    unfold history_Alone.l0 history_Ahead.f
    rw [if_pos (by omega), e, if_pos (by omega), if_pos (by omega), if_pos (by omega), a.2, b.1, if_pos (by omega), bs, if_pos (decide_eq_true (by omega)), w_nat (by omega)]
    exact ih (i + 1) k (by omega) (by omega) (by omega)
theorem alone_true {l : List S30} (h : Solo l) (hn : l.length < 1000) {k : Nat} (hk : l.length + 2 ≤ k) : history_Alone.f k l = some true := by
  unfold history_Alone.f
  rcases Nat.eq_zero_or_pos l.length with h0 | hp
  · obtain ⟨k, rfl⟩ : ∃ q, k = q + 1 := ⟨k - 1, by omega⟩
    unfold history_Alone.l0
    rw [if_neg (by omega)]
  · exact alone_l0 h hn (l.length - 1) 1 k (by omega) (by omega) (by omega)
theorem ref_do {s : List Int} (m : Int) (push : Bool) (v st : Int) (hs : s.length < 1000000) {k : Nat} (hk : 1 ≤ k) : hatstandref5_Do.f k s m push v st = some (match stDo s m push v st with | some t => (t, true) | none => ([], false)) := by
  obtain ⟨k, rfl⟩ : ∃ q, k = q + 1 := ⟨k - 1, by omega⟩
  have j : ∀ (t : List Int) (b : Bool), hatstandref5_Do.j0 (k + 1) t b = if b = true then some ([], false) else some (t, true) := fun t b => rfl
  unfold hatstandref5_Do.f stDo
  by_cases h6 : st = 6
  · rw [if_pos h6, if_pos h6, bs, if_pos (by simp; omega), List.nil_append]
  · rw [if_neg h6, if_neg h6]
    cases push
    · rw [if_neg (by simp), if_neg (by simp), ref_pop hs, bs, j, j]
      by_cases h1 : (stPop s).2.2 = st <;> by_cases h2 : (stPop s).2.1 = v <;> simp [h1, h2]
    · rw [if_pos rfl, if_pos rfl, ref_push _ _ hs, bs]
      by_cases h1 : (stPush s m v).2 = st <;> simp [h1]
/-- What the law reckons of its own: whether the stack may answer so. -/
theorem alone_l1 (l : List S30) (m : Int) (hm : Solo l) (hn : l.length ≤ 6) : ∀ (d i k : Nat) (s : List Int) (b : Bool), i + d = l.length → s.length ≤ i → 2 * d + 60 ≤ k → ((if b = true then (seqS l m i d s).isSome else false) = (seqS l m 0 l.length []).isSome) →
    hatstandlaw15_LinearAlone.l1 k m l (ids 0 l.length) s b (i : Int) = some true := by
  have hend : ∀ (k : Nat) (s : List Int) (b : Bool) (i : Int), 58 ≤ k → b = (seqS l m 0 l.length []).isSome → hatstandlaw15_LinearAlone.j5 k m l (ids 0 l.length) s b i false = some true := by
    intro k s b i hk hb
    obtain ⟨k, rfl⟩ : ∃ q, k = q + 1 := ⟨k - 1, by omega⟩
    have hfit : fitsB l m (ids 0 l.length) = b := by rw [fits_ids (solo_no hm), hb]
    unfold hatstandlaw15_LinearAlone.j5
    rw [if_neg (by simp), lin_find hn, bs, lin_fits (by omega) (by rw [ids_length]; omega) (by rw [ids_length]; omega), bs, hfit, if_pos (by simp), alone_true hm (by omega) (by omega)]
    cases b
    · have hno : findB l m = none := by
        cases hf : findB l m with
        | none => rfl
        | some z =>
          have h1 := (find_some hf).1
          rw [solo_fits hm h1, hfit] at h1
          cases h1
      rw [hno]
      rfl
    · obtain ⟨z, hz⟩ := find_of_fits hfit
      have hze := solo_fits hm (find_some hz).1
      rw [hz]
      dsimp only
      rw [if_pos (by simp), if_pos rfl, hze, same_ints (by rw [ids_length]; omega) (by rw [ids_length]; omega), bs, if_pos (by simp), bs]
  intro d
  induction d with
  | zero =>
    intro i k s b hi hs hk hb
    obtain ⟨k, rfl⟩ : ∃ q, k = q + 1 := ⟨k - 1, by omega⟩
    unfold hatstandlaw15_LinearAlone.l1
    rw [if_neg (by omega)]
    refine hend k s b _ (by omega) ?_
    cases b
    · simpa using hb
    · simpa [seqS] using hb
  | succ d ih =>
    intro i k s b hi hs hk hb
    obtain ⟨k, rfl⟩ : ∃ q, k = q + 2 := ⟨k - 2, by omega⟩
    unfold hatstandlaw15_LinearAlone.l1
    rw [if_pos (by omega)]
    cases b
    · exact hend (k + 1) s false _ (by omega) (by simpa using hb)
    · unfold hatstandlaw15_LinearAlone.j5
      rw [if_pos rfl, if_pos (by omega), if_pos (by omega), ref_do _ _ _ _ (by omega) (by omega), bs, w_nat (by omega)]
      have h5 := hm i (by omega)
      have hd : linDone s m (rd_T30 l (i : Int)) = stDo s m (rd_T30 l (i : Int)).f1 (rd_T30 l (i : Int)).f2 (rd_T30 l (i : Int)).f3 := by unfold linDone; rw [if_pos (by omega)]
      rw [if_pos rfl, seqS, hd] at hb
      cases hst : stDo s m (rd_T30 l (i : Int)).f1 (rd_T30 l (i : Int)).f2 (rd_T30 l (i : Int)).f3 with
      | none =>
        rw [hst] at hb
        exact ih (i + 1) k [] false (by omega) (by simp) (by omega) (by simpa using hb)
      | some t =>
        rw [hst] at hb
        have := stDo_len hst
        exact ih (i + 1) k t true (by omega) (by omega) (by omega) (by simpa using hb)
theorem solo_set {l : List S30} {i : Nat} {x : S30} (h : Solo l) (hi : i < l.length) (h4 : x.f4 = (rd_T30 l (i : Int)).f4) (h5 : x.f5 = (rd_T30 l (i : Int)).f5) : Solo (l.set i x) := by
  intro j hj
  rw [List.length_set] at hj
  rw [rdT_set j hi]
  by_cases hji : j = i
  · subst hji; rw [if_pos rfl, h4, h5]; exact h j hj
  · rw [if_neg hji]; exact h j hj
theorem alone_j3 (l : List S30) (m : Int) (hs : Solo l) (hn : l.length ≤ 6) {k : Nat} (hk : 100 ≤ k) : hatstandlaw15_LinearAlone.j3 k m l (ids 0 l.length) [] = some true := by
  obtain ⟨k, rfl⟩ : ∃ q, k = q + 1 := ⟨k - 1, by omega⟩
  unfold hatstandlaw15_LinearAlone.j3
  exact alone_l1 l m hs hn l.length 0 k [] true (by omega) (by simp) (by omega) (by simp)
theorem alone_j2 (l : List S30) (m a2 a3 : Int) (hs : Solo l) (hn : l.length ≤ 6) (h2 : -9223372036854775808 ≤ a2 ∧ a2 ≤ 9223372036854775807) (b : Bool) (hb : b = true → 0 < l.length) {k : Nat} (hk : 101 ≤ k) : hatstandlaw15_LinearAlone.j2 k a2 a3 m l (ids 0 l.length) [] b = some true := by
  obtain ⟨k, rfl⟩ : ∃ q, k = q + 1 := ⟨k - 1, by omega⟩
  unfold hatstandlaw15_LinearAlone.j2; dsimp only
  cases b
  · rw [if_neg (by simp)]
    exact alone_j3 l m hs hn (by omega)
  · have hpos := hb rfl
    obtain ⟨p, hp, hp0, hp1⟩ := pick_of a2 (l.length : Int) h2.1 h2.2 (by omega)
    obtain ⟨q, rfl⟩ : ∃ q : Nat, p = (q : Int) := ⟨p.toNat, by omega⟩
    have q1 : q < l.length := by omega
    have hk2 : 100 ≤ k := by omega
    have hset : ∀ x : S30, x.f4 = (rd_T30 l (q : Int)).f4 → x.f5 = (rd_T30 l (q : Int)).f5 → hatstandlaw15_LinearAlone.j3 k m (l.set q x) (ids 0 l.length) [] = some true := by
      intro x h4 h5
      have := alone_j3 (l.set q x) m (solo_set hs q1 h4 h5) (by rw [List.length_set]; exact hn) hk2
      rw [List.length_set] at this
      exact this
    rw [if_pos rfl, hp, bs]
    simp only [Int.toNat_natCast]
    by_cases h3 : Int.tmod a3 3 = 1
    · rw [if_pos h3, if_pos hp0, if_pos hp1]
      exact hset _ rfl rfl
    · rw [if_neg h3, if_pos hp0, if_pos hp1]
      exact hset _ rfl rfl
theorem alone_first (m a2 a3 : Int) (h2 : -9223372036854775808 ≤ a2 ∧ a2 ≤ 9223372036854775807) : ∀ (d i k : Nat) (l : List S30), i + d = l.length → l.length ≤ 6 → (∀ j : Nat, j < i → (rd_T30 l (j : Int)).f4 = 10 * (j : Int) ∧ (rd_T30 l (j : Int)).f5 = 10 * (j : Int) + 5) → d + 102 ≤ k →
    hatstandlaw15_LinearAlone.l0 k a2 a3 m l (ids 0 i) (i : Int) = some true := by
  intro d
  induction d with
  | zero =>
    intro i k l hi hn hs hk
    obtain ⟨k, rfl⟩ : ∃ q, k = q + 1 := ⟨k - 1, by omega⟩
    obtain rfl : i = l.length := by omega
    unfold hatstandlaw15_LinearAlone.l0
    rw [if_neg (by omega)]
    by_cases hpos : (l.length : Int) > 0
    · rw [if_pos hpos]
      exact alone_j2 l m a2 a3 hs hn h2 _ (fun _ => by omega) (by omega)
    · rw [if_neg hpos]
      exact alone_j2 l m a2 a3 hs hn h2 _ (fun h => by cases h) (by omega)
  | succ d ih =>
    intro i k l hi hn hs hk
    obtain ⟨k, rfl⟩ : ∃ q, k = q + 1 := ⟨k - 1, by omega⟩
    have hil : i < l.length := by omega
    have e1 : wrap64 (10 * (i : Int)) = 10 * (i : Int) := w_id (by omega) (by omega)
    have e2 : wrap64 (10 * (i : Int) + 5) = 10 * (i : Int) + 5 := w_id (by omega) (by omega)
    unfold hatstandlaw15_LinearAlone.l0
    rw [if_pos (by omega), if_pos (by rw [ids_length]; omega), if_pos (by omega), bs, e1, e2, w_nat (by omega), ids_snoc]
    simp only [Int.toNat_natCast]
    have er : ∀ x : S30, rd_T30 (l.set i x) (i : Int) = x := fun x => by rw [rdT_set i hil, if_pos rfl]
    rw [er, List.set_set]
    refine ih (i + 1) k _ (by rw [List.length_set]; omega) (by rw [List.length_set]; exact hn) (fun j hj => ?_) (by omega)
    rw [rdT_set j hil]
    by_cases hji : j = i
    · subst hji; rw [if_pos rfl]; exact ⟨rfl, rfl⟩
    · rw [if_neg hji]; exact hs j (by omega)
theorem LinearAlone : hatstandlaw15_LinearAlone.Pure := by
  intro l0 a1 a2 a3 _ _ hw ha1 ha2 ha3
  obtain ⟨m, hm, hm0, hm1⟩ := pick_of a1 4 (wf_i64 ha1).1 (wf_i64 ha1).2 (by decide)
  refine ⟨200, ?_⟩
  unfold hatstandlaw15_LinearAlone.f
  rw [shown_true (by decide), bs, if_pos rfl]
  unfold hatstandlaw15_LinearAlone.j0; dsimp only
  by_cases hl : (l0.length : Int) > 6
  · rw [decide_eq_true hl, if_pos rfl]
  · rw [decide_eq_false hl, if_neg (by simp), hm, bs]
    obtain ⟨cs, hcs, hmd, hlen⟩ := made_some (l := l0) m (by omega) hw (k := 199) (by omega)
    rw [hcs, bs]
    exact alone_first m a2 a3 (wf_i64 ha2) cs.length 0 199 cs (by omega) (by omega) (fun j hj => by omega) (by omega)
end Go.Proofs.Ytdcnnphgcapiaaa.Pure
