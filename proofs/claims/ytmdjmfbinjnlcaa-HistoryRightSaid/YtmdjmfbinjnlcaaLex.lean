/- Lex: a long region's order may be that of its text: the same Bool, reckoned by going down the list once. -/
import Derived.BigQuiet
import Derived.Deep.Quiet
namespace Go.Proofs.Ytmdjmfbinjnlcaa.Lex
open Go

theorem ops_cons (a : Oper) (l m : List Oper) : List.append (a :: l) m = a :: List.append l m := Eq.trans rfl rfl
theorem ops_nil (m : List Oper) : List.append [] m = m := Eq.trans rfl rfl

def lexK (md : Region.Mode) (ops : Array Oper) : Nat → List Oper → Bool
  | _, [] => true
  | k, o :: rest => o.after.all (fun e => !Region.binds md e || Nat.blt e.on k) && rest.all (fun oj => oj.after.any (fun e => Region.binds md e && e.on == k) || o.apart ops oj) && lexK md ops (k + 1) rest

theorem lexFrom_of {md : Region.Mode} {ops : Array Oper} : ∀ (rest : List Oper) (k : Nat) (listed : Array Bool), k + rest.length = ops.size → (∀ j, ops[k + j]? = rest[j]?) →
    listed.size = ops.size → (∀ j, listed.getD j true = (decide (j < k) || decide (ops.size ≤ j))) → lexK md ops k rest = true → Region.lexFrom md ops rest.length k listed = true
  | [], k, listed, hn, ho, hs, hl, h => by
    simp only [List.length_nil, Region.lexFrom]
    cases hr : Region.ready md ops listed with
    | nil => rfl
    | cons j js =>
      have := (mem_ready.1 (show j ∈ Region.ready md ops listed by rw [hr]; exact List.mem_cons_self)).1
      rw [hl j] at this
      simp at hn this
      omega
  | o :: rest, k, listed, hn, ho, hs, hl, h => by
    simp only [lexK, Bool.and_eq_true] at h
    obtain ⟨⟨h1, h2⟩, h3⟩ := h
    have h0 : ops[k]? = some o := by simpa using ho 0
    have hk : k < ops.size := by simp at hn; omega
    simp only [List.length_cons, Region.lexFrom, Bool.and_eq_true]
    refine ⟨⟨?_, ?_⟩, ?_⟩
    · have : k ∈ Region.ready md ops listed := mem_ready.2 ⟨by rw [hl k]; simp; omega, o, h0, fun e he hb => by
        rw [Array.all_eq_true'] at h1
        have := h1 e he
        simp only [hb, Bool.not_true, Bool.false_or, Nat.blt_eq] at this
        have hlt : e.on < listed.size := by omega
        have h5 := hl e.on
        simp [hlt, this] at h5 ⊢
        exact h5⟩
      simpa using this
    · unfold Region.free
      simp only [h0, List.all_eq_true, List.mem_range]
      intro j hj
      rw [hl j]
      rcases Nat.lt_trichotomy j k with hjk | hjk | hjk
      · simp [hjk]
      · simp [hjk]
      · obtain ⟨q, rfl⟩ : ∃ q, j = k + (q + 1) := ⟨j - k - 1, by omega⟩
        have hq : q < rest.length := by simp at hn; omega
        have hoj : ops[k + (q + 1)]? = some rest[q] := by rw [ho (q + 1)]; simp [hq]
        rw [hoj]
        simp only [List.all_eq_true] at h2
        have := h2 rest[q] (List.getElem_mem hq)
        simp only [Bool.or_eq_true] at this ⊢
        exact .inr this
    · refine lexFrom_of rest (k + 1) _ (by simp at hn; omega) (fun j => by have := ho (j + 1); simpa [Nat.add_assoc, Nat.add_comm 1 j] using this) (by simpa using hs) (fun j => ?_) h3
      by_cases hjk : j = k
      · subst hjk
        rw [Array.getD_eq_getD_getElem?, Array.getElem?_setIfInBounds_self_of_lt (by omega)]
        simp
      · have e : (listed.setIfInBounds k true).getD j true = listed.getD j true := by
          rw [Array.getD_eq_getD_getElem?, Array.getElem?_setIfInBounds_ne (Ne.symm hjk), ← Array.getD_eq_getD_getElem?]
        rw [e, hl j]
        congr 1
        have : (j < k) = (j < k + 1) := propext ⟨fun h => by omega, fun h => by omega⟩
        simp only [this]

theorem lex_of {md : Region.Mode} {l : List Oper} (hn : Region.noSelect l.toArray = true) (h : lexK md l.toArray 0 l = true) : Region.lexB md l.toArray = true := by
  unfold Region.lexB
  rw [hn, Bool.true_and, List.size_toArray]
  exact lexFrom_of l 0 _ (by simp) (fun j => by simp) (by simp) (fun j => by
    by_cases hj : j < l.length
    · simp [hj]
    · simp [hj]; omega) h

theorem with_lex {P : Program} {id : Nat} {Q : Exit → Act → World → Prop} {a : Act} {w : World} {l : List Oper} (hn : Region.noSelect l.toArray = true) (h : lexK .any l.toArray 0 l = true)
    (hh : Region.lexB .any l.toArray = true → (Code.region id l.toArray true).wp P Q a w) : (Code.region id l.toArray true).wp P Q a w := hh (lex_of hn h)
end Go.Proofs.Ytmdjmfbinjnlcaa.Lex
