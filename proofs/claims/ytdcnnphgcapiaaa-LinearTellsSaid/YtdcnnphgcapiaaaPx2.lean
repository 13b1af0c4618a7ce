/- Walks, written by a program for this claim: each Go function that the laws reach comes to what its Lean function says. -/
import Derived.Test.YtdcnnphgcapiaaaPx0
import Derived.Test.YtdcnnphgcapiaaaPx3
import Derived.Test.YtdcnnphgcapiaaaPx4
import Derived.Test.YtdcnnphgcapiaaaPx5
import Derived.Test.YtdcnnphgcapiaaaPx6
namespace Go.Proofs.Ytdcnnphgcapiaaa.P
open Go.RowKit Go.Proofs.YtdcnnphgcapiaaaW.PrintWords Go.Proofs.YtdcnnphgcapiaaaW.PrintLast Go.Proofs.YtdcnnphgcapiaaaW.PrintMore
attribute [local go_sem] max2_int min2_int max_two min_two max_three min_three max_four min_four   -- for this text's walks alone
set_option linter.unusedVariables false
set_option linter.unusedSimpArgs false

/-! ### linear_Find: function 12 -/
/-! ### what the search's steps tell -/
/-- A call ended ahead of another one. -/
def linAhead (a b : S30) : Bool := decide (0 ≤ a.f5) && decide (a.f5 < b.f4)
/-- All that were answered came. -/
def linOverB (l : List S30) (C : List Bool) : Bool := (List.range' 0 l.length).all fun i : Nat => !(decide (0 ≤ (rd_T30 l (i : Int)).f5) && !(rdOf false C (i : Int)))
/-- A call may come next. -/
def linMayB (l : List S30) (k : Int) (C : List Bool) : Bool := ((List.range' 0 l.length).all fun i : Nat => !(decide ((i : Int) ≠ k) && (!(rdOf false C (i : Int)) && linAhead (rd_T30 l (i : Int)) (rd_T30 l k)))) && !(rdOf false C k)
def stPush (s : List Int) (m v : Int) : List Int × Int := if (s.length : Int) ≥ m then (s, 2) else (s ++ [v], 1)
def stPop (s : List Int) : List Int × Int × Int := if s.length = 0 then ([], 0, 2) else (s.take (s.length - 1), rd s ((s.length : Int) - 1), 1)
/-- A stack behind an answer, if it may be answered so. -/
def stDo (s : List Int) (m : Int) (push : Bool) (v st : Int) : Option (List Int) :=
  if st = 6 then some s
  else if push = true then (if (stPush s m v).2 = st then some (stPush s m v).1 else none)
  else if (stPop s).2.2 = st ∧ (stPop s).2.1 = v then some (stPop s).1 else none
/-- A stack behind a call, if it may be answered so. -/
def linDone (s : List Int) (m : Int) (c : S30) : Option (List Int) :=
  if 0 ≤ c.f5 then stDo s m c.f1 c.f2 c.f3
  else if c.f1 = true then some (stPush s m c.f2).1 else some (stPop s).1
theorem lin_w1 {i : Nat} (h : i < 4611686018427387904) : wrap64 ((i : Int) + 1) = ((i + 1 : Nat) : Int) := by unfold wrap64; omega
theorem lin_over_l0 (l : List S30) (C : List Bool) (hC : C.length = l.length) (hn : l.length < 4611686018427387904) : ∀ (d i k : Nat), i + d = l.length → 2 * d + 1 ≤ k →
    linear_over.l0 k C l (l.length : Int) (i : Int) = some ((List.range' i d).all fun i : Nat => !(decide (0 ≤ (rd_T30 l (i : Int)).f5) && !(rdOf false C (i : Int)))) := by
  intro d
  induction d with
  | zero =>
    intro i k hi hk
    obtain ⟨k, rfl⟩ : ∃ q, k = q + 1 := ⟨k - 1, by omega⟩
    unfold linear_over.l0
    rw [if_neg (by omega)]
    rfl
  | succ d ih =>
    intro i k hi hk
    obtain ⟨k, rfl⟩ : ∃ q, k = q + 2 := ⟨k - 2, by omega⟩
    have ih1 := ih (i + 1) k (by omega) (by omega)
    rw [List.range'_succ, List.all_cons]
    unfold linear_over.l0
    rw [if_pos (by omega), if_pos (by omega), if_pos (by omega)]
    unfold linear_over.j1
    rw [lin_w1 (by omega), ih1]
    by_cases h5 : 0 ≤ (rd_T30 l (i : Int)).f5
    · rw [if_pos h5, if_pos (by omega)]
      cases hr : rdOf false C (i : Int) <;> simp [h5]
    · rw [if_neg h5]
      simp [h5]
theorem lin_over {l : List S30} {C : List Bool} (hC : C.length = l.length) (hn : l.length < 4611686018427387904) {k : Nat} (hk : 2 * l.length + 1 ≤ k) : linear_over.f k l C = some (linOverB l C) := by
  have := lin_over_l0 l C hC hn l.length 0 k (by omega) hk
  unfold linear_over.f linOverB
  exact this
theorem lin_may_l0 (l : List S30) (x : Int) (C : List Bool) (hC : C.length = l.length) (hn : l.length < 4611686018427387904) (h0 : 0 ≤ x) (h1 : x < (l.length : Int)) : ∀ (d i k : Nat), i + d = l.length → 2 * d + 1 ≤ k →
    linear_may.l0 k l x C l (l.length : Int) (i : Int) = some (((List.range' i d).all fun i : Nat => !(decide ((i : Int) ≠ x) && (!(rdOf false C (i : Int)) && linAhead (rd_T30 l (i : Int)) (rd_T30 l x)))) && !(rdOf false C x)) := by
  intro d
  induction d with
  | zero =>
    intro i k hi hk
    obtain ⟨k, rfl⟩ : ∃ q, k = q + 1 := ⟨k - 1, by omega⟩
    unfold linear_may.l0
    rw [if_neg (by omega), if_pos h0, if_pos (by omega)]
    simp
  | succ d ih =>
    intro i k hi hk
    obtain ⟨k, rfl⟩ : ∃ q, k = q + 2 := ⟨k - 2, by omega⟩
    have ih1 := ih (i + 1) k (by omega) (by omega)
    rw [List.range'_succ, List.all_cons]
    unfold linear_may.l0
    rw [if_pos (by omega), if_pos (by omega), if_pos (by omega)]
    unfold linear_may.j1
    rw [lin_w1 (by omega), ih1]
    by_cases hx : (i : Int) = x
    · rw [if_pos hx]
      simp [hx]
    · rw [if_neg hx, if_pos (by omega)]
      cases hr : rdOf false C (i : Int)
      · rw [if_neg (by simp), if_pos h0, if_pos h1]
        unfold history_Ahead.f linAhead
        by_cases h5 : 0 ≤ (rd_T30 l (i : Int)).f5
        · rw [if_pos h5]
          by_cases h6 : (rd_T30 l (i : Int)).f5 < (rd_T30 l x).f4 <;> simp [h5, h6, hx]
        · rw [if_neg h5]
          simp [h5]
      · rw [if_pos rfl]
        simp
theorem lin_may {l : List S30} {x : Int} {C : List Bool} (hC : C.length = l.length) (hn : l.length < 4611686018427387904) (h0 : 0 ≤ x) (h1 : x < (l.length : Int)) {k : Nat} (hk : 2 * l.length + 1 ≤ k) : linear_may.f k l x C = some (linMayB l x C) := by
  have := lin_may_l0 l x C hC hn h0 h1 l.length 0 k (by omega) hk
  unfold linear_may.f linMayB
  exact this
theorem lifo_push {s : List Int} (m v : Int) (hs : s.length < 1000000) : lifo_Push.f s m v = some (stPush s m v) := by
  unfold lifo_Push.f stPush lifo_put_uint64.f
  by_cases h : (s.length : Int) ≥ m
  · rw [if_pos h, if_pos h, if_pos (by simp; omega)]; simp
  · rw [if_neg h, if_neg h, if_pos (by simp; omega)]; rfl
theorem lifo_pop {s : List Int} (hs : s.length < 1000000) : lifo_Pop.f s = some (stPop s) := by
  have e : wrap64 ((s.length : Int) - 1) = (s.length : Int) - 1 := by unfold wrap64; omega
  unfold lifo_Pop.f stPop lifo_put_uint64.f
  rw [e]
  by_cases h : s.length = 0
  · rw [if_pos (by omega), if_pos h]
  · rw [if_neg (by omega), if_neg h, if_pos (by omega), if_pos (by omega), if_pos (by simp; omega)]
    simp only [Option.bind_some]
    rw [if_pos (by omega), show ((s.length : Int) - 1).toNat = s.length - 1 by omega]
    simp
theorem lifo_do {s : List Int} (m : Int) (push : Bool) (v st : Int) (hs : s.length < 1000000) {k : Nat} (hk : 2 ≤ k) : lifo_Do.f k s m push v st = some (match stDo s m push v st with | some t => (t, true) | none => ([], false)) := by
  obtain ⟨k, rfl⟩ : ∃ q, k = q + 2 := ⟨k - 2, by omega⟩
  have j : ∀ (t : List Int) (x y : Int), lifo_Do.j0 (k + 2) t x y push v st = some (if y = st ∧ x = v then (t, true) else ([], false)) := by
    intro t x y
    have e1 : ∀ b : Bool, lifo_Do.j1 (k + 1) t b = if b = true then some ([], false) else some (t, true) := fun b => rfl
    have e0 : lifo_Do.j0 (k + 2) t x y push v st = if y = st then lifo_Do.j1 (k + 1) t (x != v) else lifo_Do.j1 (k + 1) t true := rfl
    rw [e0, e1, e1]
    clear e0 e1
    by_cases h1 : y = st <;> by_cases h2 : x = v <;> simp [h1, h2]
  unfold lifo_Do.f stDo
  by_cases h6 : st = 6
  · rw [if_pos h6, if_pos h6]
    unfold lifo_put_uint64.f
    rw [if_pos (by simp; omega)]
    simp only [Option.bind_some, j]
    rw [if_pos ⟨h6.symm, trivial⟩]
    simp
  · rw [if_neg h6, if_neg h6]
    cases push
    · rw [if_neg (by simp), if_neg (by simp), lifo_pop hs]
      simp only [Option.bind_some, j]
      by_cases hc : (stPop s).2.2 = st ∧ (stPop s).2.1 = v
      · rw [if_pos hc, if_pos hc]
      · rw [if_neg hc, if_neg hc]
    · rw [if_pos rfl, if_pos rfl, lifo_push _ _ hs]
      simp only [Option.bind_some, j]
      by_cases hc : (stPush s m v).2 = st
      · rw [if_pos ⟨hc, trivial⟩, if_pos hc]
      · rw [if_neg (by simp [hc]), if_neg hc]
theorem lin_done {s : List Int} (m : Int) (c : S30) (hs : s.length < 1000000) {k : Nat} (hk : 2 ≤ k) : linear_done.f k s m c.f0 c.f1 c.f2 c.f3 c.f4 c.f5 = some (match linDone s m c with | some t => (t, true) | none => ([], false)) := by
  unfold linear_done.f linDone
  by_cases h5 : 0 ≤ c.f5
  · rw [if_pos h5, if_pos h5, lifo_do _ _ _ _ hs hk]
    rfl
  · rw [if_neg h5, if_neg h5]
    by_cases h1 : c.f1 = true
    · rw [if_pos h1, if_pos h1, lifo_push _ _ hs]; rfl
    · rw [if_neg h1, if_neg h1, lifo_pop hs]; rfl
theorem stDo_len {s t : List Int} {m : Int} {push : Bool} {v st : Int} (h : stDo s m push v st = some t) : t.length ≤ s.length + 1 := by
  unfold stDo at h
  have h1 : (stPush s m v).1.length ≤ s.length + 1 := by unfold stPush; split <;> simp
  have h2 : (stPop s).1.length ≤ s.length + 1 := by unfold stPop; split <;> simp; omega
  split at h
  · injection h with h; subst h; omega
  · split at h
    · split at h
      · injection h with h; subst h; omega
      · cases h
    · split at h
      · injection h with h; subst h; omega
      · cases h
theorem linDone_len {s t : List Int} {m : Int} {c : S30} (h : linDone s m c = some t) : t.length ≤ s.length + 1 := by
  unfold linDone at h
  have h1 : (stPush s m c.f2).1.length ≤ s.length + 1 := by unfold stPush; split <;> simp
  have h2 : (stPop s).1.length ≤ s.length + 1 := by unfold stPop; split <;> simp; omega
  split at h
  · exact stDo_len h
  · split at h <;> (injection h with h; subst h; assumption)
/-- The search: where the calls C came, in the order p, and the stack is s. -/
def linTry (l : List S30) (m : Int) : Nat → List Bool → List Int → List Int → Option (List Int)
  | 0, _, _, _ => none
  | q + 1, C, p, s => if linOverB l C = true then some p else (List.range' 0 l.length).findSome? fun k : Nat => if linMayB l (k : Int) C = true then (match linDone s m (rd_T30 l (k : Int)) with | some t => linTry l m q (C.set k true) (p ++ [(k : Int)]) t | none => none) else none
/-- The search from one call on. -/
def linF (l : List S30) (m : Int) (q : Nat) (C : List Bool) (p s : List Int) (k : Nat) : Option (List Int) := if linMayB l (k : Int) C = true then (match linDone s m (rd_T30 l (k : Int)) with | some t => linTry l m q (C.set k true) (p ++ [(k : Int)]) t | none => none) else none
theorem linTry_succ (l : List S30) (m : Int) (q : Nat) (C : List Bool) (p s : List Int) : linTry l m (q + 1) C p s = if linOverB l C = true then some p else (List.range' 0 l.length).findSome? (linF l m q C p s) := by
  rw [linTry]; rfl
theorem lin_some_next {α : Type} {f : Nat → Option α} {i : Nat} (h : (List.range' 0 i).findSome? f = none) (hi : f i = none) : (List.range' 0 (i + 1)).findSome? f = none := by
  rw [List.range'_concat]; simp [List.findSome?_append, h, hi]
theorem lin_some_at {α : Type} {f : Nat → Option α} {i n : Nat} {r : α} (h : (List.range' 0 i).findSome? f = none) (hi : f i = some r) (hn : i < n) : (List.range' 0 n).findSome? f = some r := by
  obtain ⟨d, rfl⟩ : ∃ d, n = i + (d + 1) := ⟨n - i - 1, by omega⟩
  rw [← List.range'_append_1, List.findSome?_append, h, List.range'_succ, List.findSome?_cons]
  simp [hi]
theorem lin_get {C : List Bool} {i : Nat} (h : i < C.length) : rdOf false C (i : Int) = C[i] := by
  unfold rdOf; rw [List.getD_eq_getElem?_getD, Int.toNat_natCast, List.getElem?_eq_getElem h]; rfl
theorem lin_count {C : List Bool} {i : Nat} (h : i < C.length) (hf : rdOf false C (i : Int) = false) : (C.set i true).count true = C.count true + 1 := by
  rw [lin_get h] at hf
  rw [List.count_set h, hf]; simp
theorem lin_back {C : List Bool} {i : Nat} (h : i < C.length) (hf : rdOf false C (i : Int) = false) : (C.set i true).set i false = C := by
  rw [lin_get h] at hf
  rw [List.set_set, ← hf, List.set_getElem_self]
theorem linTry_len {l : List S30} {m : Int} : ∀ {q : Nat} {C : List Bool} {p s r : List Int}, linTry l m q C p s = some r → r.length ≤ p.length + q := by
  intro q
  induction q with
  | zero => intro C p s r h; simp [linTry] at h
  | succ q ih =>
    intro C p s r h
    rw [linTry_succ] at h
    split at h
    · injection h with h; subst h; omega
    · obtain ⟨k, _, hk⟩ := List.exists_of_findSome?_eq_some h
      unfold linF at hk
      split at hk
      · split at hk
        · have := ih hk; simp at this; omega
        · cases hk
      · cases hk
def linear_Find.f (l0 : List S30) (a1 : Int) : Option (List Int × Bool) :=
  if l0.length ≤ 6 then some (match linTry l0 a1 (l0.length + 1) (List.replicate l0.length false) [] [] with | some p => (p, true) | none => ([], false)) else some ([], false)
/-! ### the closure's variables -/
def linFunc (bl bc bm bo bt : Nat) : Value := .func (.func 21) #[] #[.pointer (some ⟨bl, 0, none⟩), .pointer (some ⟨bc, 0, none⟩), .pointer (some ⟨bm, 0, none⟩), .pointer (some ⟨bo, 0, none⟩), .pointer (some ⟨bt, 0, none⟩)]
/-- The variables: the calls, the bound, what came, the order, the closure itself; what came, and the order, are rows of the call's own. -/
structure LinSt (A0 : Option Addr) (c0 : Nat) (l : List S30) (m : Int) (b0 bl bc bm bo bt g cg : Nat) (W : World) (C : List Bool) (v : Value) (p : List Int) : Prop where
  cl : W.heap[bl]? = some (.cells #[.slice A0 l.length c0] 25 (0, 0))
  cc : W.heap[bc]? = some (.cells #[.slice (some ⟨g, 0, none⟩) l.length cg] 54 (0, 0))
  cm : W.heap[bm]? = some (.cells #[.int .i64 m] 3 (0, 0))
  co : W.heap[bo]? = some (.cells #[v] 31 (0, 0))
  ct : W.heap[bt]? = some (.cells #[linFunc bl bc bm bo bt] 55 (0, 0))
  came : Kd.R Kd.bool 4 W b0 (fun _ => True) (.slice (some ⟨g, 0, none⟩) l.length cg) C
  row : Kd.R (Kd.int .i64) 3 W b0 (fun k => k ≠ bm) v p
  go : b0 ≤ bo
/-- What the closure writes: the order's variable, what came, the order's row. -/
structure LinMv (b0 bo g : Nat) (v v' : Value) (W W' : World) : Prop where
  below : Below b0 W W'
  kept : Kept W W' (fun k => k = bo ∨ k = g ∨ some k = v.ownBlock)
  own : v'.ownBlock = v.ownBlock ∨ ∃ b, v'.ownBlock = some b ∧ W.heap.size ≤ b
section
variable {A0 : Option Addr} {c0 : Nat} {l : List S30} {m : Int} {b0 bl bc bm bo bt g cg : Nat} {W W' W2 : World} {C : List Bool} {v v' v2 u : Value} {p p' : List Int} {S : Nat → Prop} {s : List Int}
theorem LinSt.len (h : LinSt A0 c0 l m b0 bl bc bm bo bt g cg W C v p) : C.length = l.length := (Kd.R_reads' h.came).1.symm
theorem LinSt.own_typed (h : LinSt A0 c0 l m b0 bl bc bm bo bt g cg W C v p) {k t : Nat} {cs : Array Value} (hb : W.heap[k]? = some (.cells cs t (0, 0))) (ht : 3 ≠ t) : some k ≠ v.ownBlock := Kd.R_ne h.row hb ht
theorem LinSt.own_m (h : LinSt A0 c0 l m b0 bl bc bm bo bt g cg W C v p) : some bm ≠ v.ownBlock := fun he => h.row.1 bm he.symm rfl
theorem LinSt.g_ne (h : LinSt A0 c0 l m b0 bl bc bm bo bt g cg W C v p) {k t : Nat} {cs : Array Value} (hb : W.heap[k]? = some (.cells cs t (0, 0))) (ht : 4 ≠ t) : k ≠ g := fun he => Kd.R_ne h.came hb ht (by rw [he]; rfl)
theorem LinSt.g_typed (h : LinSt A0 c0 l m b0 bl bc bm bo bt g cg W C v p) : ∃ cs, W.heap[g]? = some (.cells cs 4 (0, 0)) := Kd.R_typed h.came g rfl
theorem LinSt.g_own (h : LinSt A0 c0 l m b0 bl bc bm bo bt g cg W C v p) : some g ≠ v.ownBlock := by
  obtain ⟨cs, hc⟩ := h.g_typed
  exact h.own_typed hc (by decide)
theorem LinSt.kept (h : LinSt A0 c0 l m b0 bl bc bm bo bt g cg W C v p) (hk : Kept W W' S) (h1 : ¬ S bl) (h2 : ¬ S bc) (h3 : ¬ S bm) (h4 : ¬ S bo) (h5 : ¬ S bt) (h6 : ¬ S g) (h7 : ∀ k, v.ownBlock = some k → ¬ S k) : LinSt A0 c0 l m b0 bl bc bm bo bt g cg W' C v p :=
  ⟨blk_kept h.cl hk h1, blk_kept h.cc hk h2, blk_kept h.cm hk h3, blk_kept h.co hk h4, blk_kept h.ct hk h5,
    Kd.R_mono (Kd.R_kept (Kd.R_tight rfl h.came) hk (fun k hk' => by injection hk' with hk'; rw [hk']; exact h6)) (fun _ _ => trivial),
    Kd.R_reok rfl (Kd.R_kept (Kd.R_tight rfl h.row) hk (fun k hk' => h7 k hk'.symm)) (fun k hk => h.row.1 k hk), h.go⟩
theorem LinSt.below (h : LinSt A0 c0 l m b0 bl bc bm bo bt g cg W C v p) (hb : Below W.heap.size W W') : LinSt A0 c0 l m b0 bl bc bm bo bt g cg W' C v p := h.kept (Kept.of_below hb (fun _ => False)) id id id id id id (fun _ _ => id)
/-- A mark in what came. -/
theorem LinSt.mark (h : LinSt A0 c0 l m b0 bl bc bm bo bt g cg W C v p) (i : Int) (x : Bool) : LinSt A0 c0 l m b0 bl bc bm bo bt g cg (W.setCell ⟨g, i.toNat, none⟩ (.bool x)) (C.set i.toNat x) v p := by
  have hc := h.came
  have hp := Kd.R_putn hc i x
  have hf : ∀ {k t : Nat} {cs : Array Value}, W.heap[k]? = some (.cells cs t (0, 0)) → 4 ≠ t → (W.setCell ⟨g, i.toNat, none⟩ (.bool x)).heap[k]? = some (.cells cs t (0, 0)) := fun hb ht => blk_far hb (h.g_ne hb ht) _
  exact ⟨hf h.cl (by decide), hf h.cc (by decide), hf h.cm (by decide), hf h.co (by decide), hf h.ct (by decide), hp,
    Kd.R_reok rfl (Kd.R_far (Kd.R_tight rfl h.row) (p := ⟨g, i.toNat, none⟩) (fun k hk he => h.g_own (by subst he; exact hk)) _) (fun k hk => h.row.1 k hk), h.go⟩
/-- Another order, in its variable: behind an append, or a cut. -/
theorem LinSt.setRow (h : LinSt A0 c0 l m b0 bl bc bm bo bt g cg W C v p) (hk : Kept W W2 (fun k => some k = v.ownBlock)) (hr : Kd.R (Kd.int .i64) 3 W2 b0 (fun k => k ≠ bm) u p') : LinSt A0 c0 l m b0 bl bc bm bo bt g cg (W2.setCell ⟨bo, 0, none⟩ u) C u p' := by
  have hf : ∀ {k t : Nat} {cs : Array Value}, W.heap[k]? = some (.cells cs t (0, 0)) → some k ≠ v.ownBlock → 31 ≠ t → (W2.setCell ⟨bo, 0, none⟩ u).heap[k]? = some (.cells cs t (0, 0)) :=
    fun hb hn ht => blk_far (blk_kept hb hk hn) (by
      have h2 := blk_kept h.co hk (h.own_typed h.co (by decide))
      exact (blk_ne h2 (blk_kept hb hk hn) ht).symm) _
  have ho := blk_kept h.co hk (h.own_typed h.co (by decide))
  refine ⟨hf h.cl (h.own_typed h.cl (by decide)) (by decide), hf h.cc (h.own_typed h.cc (by decide)) (by decide), hf h.cm h.own_m (by decide), by simpa using blk_set ho 0 u, hf h.ct (h.own_typed h.ct (by decide)) (by decide), ?_, ?_, h.go⟩
  · have hc := Kd.R_kept (Kd.R_tight rfl h.came) hk (fun k hk' he => by injection hk' with hk'; subst hk'; exact h.g_own he)
    exact Kd.R_mono (Kd.R_far (Kd.R_tight rfl hc) (p := ⟨bo, 0, none⟩) (fun k hk' he => Kd.R_ne hc ho (by decide) (by subst he; exact hk')) _) (fun _ _ => trivial)
  · exact Kd.R_reok rfl (Kd.R_far (Kd.R_tight rfl hr) (p := ⟨bo, 0, none⟩) (fun k hk' he => Kd.R_ne hr ho (by decide) (by subst he; exact hk')) _) (fun k hk => hr.1 k hk)
/-- A stack's row stays. -/
theorem LinSt.stack (h : LinSt A0 c0 l m b0 bl bc bm bo bt g cg W C v p) (hs : Kd.R (Kd.int .u64) 27 W b0 (fun _ => True) u s) (hm : LinMv b0 bo g v v' W W') : Kd.R (Kd.int .u64) 27 W' b0 (fun _ => True) u s := by
  refine Kd.R_mono (Kd.R_kept (Kd.R_tight rfl hs) hm.kept ?_) (fun _ _ => trivial)
  rintro k hk (rfl | rfl | hk2)
  · exact Kd.R_ne hs h.co (by decide) hk
  · obtain ⟨cs, hc⟩ := h.g_typed
    exact Kd.R_ne hs hc (by decide) hk
  · obtain ⟨cs, hc⟩ := Kd.R_typed h.row k hk2.symm
    exact Kd.R_ne hs hc (by decide) hk
theorem LinMv.refl (W : World) : LinMv b0 bo g v v W W := ⟨Below.refl _ _, Kept.refl _ _, .inl rfl⟩
theorem LinMv.of_below (h : Below W.heap.size W W') (hb : b0 ≤ W.heap.size) : LinMv b0 bo g v v W W' := ⟨h.mono hb, Kept.of_below h _, .inl rfl⟩
theorem LinMv.trans (h : LinMv b0 bo g v v' W W') (k : LinMv b0 bo g v' v2 W' W2) : LinMv b0 bo g v v2 W W2 := by
  refine ⟨h.below.trans k.below, h.kept.then_ k.kept ?_, ?_⟩
  · rintro x (rfl | rfl | hx)
    · exact .inl (.inl rfl)
    · exact .inl (.inr (.inl rfl))
    · rcases h.own with ho | ⟨b, hb, hle⟩
      · exact .inl (.inr (.inr (by rw [hx, ho])))
      · rw [hb] at hx; injection hx with hx; exact .inr (hx ▸ hle)
  · rcases k.own with ho | ⟨b, hb, hle⟩
    · rcases h.own with ho2 | ⟨b, hb, hle⟩
      · exact .inl (ho.trans ho2)
      · exact .inr ⟨b, ho.trans hb, hle⟩
    · exact .inr ⟨b, hb, Nat.le_trans h.below.size hle⟩
theorem LinMv.mark (hg : b0 ≤ g) (W : World) (i : Nat) (x : Value) : LinMv b0 bo g v v W (W.setCell ⟨g, i, none⟩ x) :=
  ⟨(Below.refl _ _).setCell hg _, (Kept.refl W _).setCell (.inl (.inr (.inl rfl))) _, .inl rfl⟩
theorem LinMv.setRow (hb : Below b0 W W2) (hk : Kept W W2 (fun k => some k = v.ownBlock)) (hu : u.ownBlock = v.ownBlock ∨ ∃ b, u.ownBlock = some b ∧ W.heap.size ≤ b) (ho : b0 ≤ bo) : LinMv b0 bo g v u W (W2.setCell ⟨bo, 0, none⟩ u) :=
  ⟨hb.setCell ho _, (hk.mono (fun k hk => .inr (.inr hk))).setCell (.inl (.inl rfl)) _, hu⟩
theorem LinSt.g_ge (h : LinSt A0 c0 l m b0 bl bc bm bo bt g cg W C v p) : b0 ≤ g := Kd.R_base h.came g rfl
theorem LinSt.size (h : LinSt A0 c0 l m b0 bl bc bm bo bt g cg W C v p) : b0 ≤ W.heap.size := Nat.le_trans h.go (Nat.le_of_lt (blk_lt h.co))
theorem LinSt.cap (h : LinSt A0 c0 l m b0 bl bc bm bo bt g cg W C v p) : C.length ≤ cg := by rw [h.len]; exact (Kd.R_reads' h.came).2.1
theorem LinSt.reads (h : LinSt A0 c0 l m b0 bl bc bm bo bt g cg W C v p) : Kd.C Kd.bool W (some ⟨g, 0, none⟩) C.length C := (Kd.R_reads' h.came).2.2
theorem LinSt.cell (h : LinSt A0 c0 l m b0 bl bc bm bo bt g cg W C v p) : W.cell? ⟨bl, 0, none⟩ = some (.slice A0 l.length c0) ∧ W.cell? ⟨bc, 0, none⟩ = some (.slice (some ⟨g, 0, none⟩) C.length cg) ∧ W.cell? ⟨bm, 0, none⟩ = some (.int .i64 m) ∧ W.cell? ⟨bo, 0, none⟩ = some v ∧ W.cell? ⟨bt, 0, none⟩ = some (.func (.func 21) #[] #[.pointer (some ⟨bl, 0, none⟩), .pointer (some ⟨bc, 0, none⟩), .pointer (some ⟨bm, 0, none⟩), .pointer (some ⟨bo, 0, none⟩), .pointer (some ⟨bt, 0, none⟩)]) :=
  ⟨(blk_cell h.cl 0).trans rfl, by rw [h.len]; exact (blk_cell h.cc 0).trans rfl, (blk_cell h.cm 0).trans rfl, (blk_cell h.co 0).trans rfl, (blk_cell h.ct 0).trans rfl⟩
end
/-! ### the closure -/
section
variable {A0 : Option Addr} {c0 : Nat} {l : List S30} {m : Int} {b0 bl bc bm bo bt g cg : Nat} {w : World}
set_option maxHeartbeats 8000000 in
set_option maxRecDepth 100000 in
theorem lin_try_calls (hr0 : Kd.C k30 w A0 l.length l) (hc0 : l.length ≤ c0) (hb0 : w.heap.size ≤ b0) (hn : l.length ≤ 6) : ∀ (q : Nat) (C : List Bool) (p s : List Int) (v vs : Value) (W : World),
    LinSt A0 c0 l m b0 bl bc bm bo bt g cg W C v p → Below w.heap.size w W → Kd.R (Kd.int .u64) 27 W b0 (fun _ => True) vs s → l.length + 1 ≤ q + C.count true → p.length ≤ C.count true → s.length ≤ p.length →
    Calls Try.prog 21 #[vs, .pointer (some ⟨bl, 0, none⟩), .pointer (some ⟨bc, 0, none⟩), .pointer (some ⟨bm, 0, none⟩), .pointer (some ⟨bo, 0, none⟩), .pointer (some ⟨bt, 0, none⟩)] W fun e w' =>
      e = .returned (.bool (linTry l m q C p s).isSome) ∧ ∃ C' v', LinSt A0 c0 l m b0 bl bc bm bo bt g cg w' C' v' ((linTry l m q C p s).getD p) ∧ (linTry l m q C p s = none → C' = C) ∧ LinMv b0 bo g v v' W w' := by
  have hu30 := Try.underlying30
  intro q
  induction q with
  | zero =>
    intro C p s v vs W hS _ _ hq _ _
    have := List.count_le_length (a := true) (l := C)
    rw [hS.len] at this
    omega
  | succ q ih =>
    intro C p s v vs W hS hB hs hq hp hsl
    have IH := Aside0.mk ih
    have HR0 := Aside0.mk hr0
    have HC0 := Aside0.mk hc0
    have HBW := Aside0.mk hB
    have HS := Aside0.mk hS
    have HST := Aside0.mk hs
    have HQ := Aside0.mk hq
    have HP := Aside0.mk hp
    have HSL := Aside0.mk hsl
    have HN := Aside0.mk hn
    have HO := lin_over (l := l) (C := C) hS.len (by omega) (Nat.le_refl (2 * l.length + 1))
    obtain ⟨hcl, hcc, hcm, hco, hct⟩ := hS.cell
    obtain ⟨As, cs, rfl⟩ := Kd.R_slice hs
    have HOV := Aside0.mk HO
    clear ih hr0 hc0 hB hs hq hp hsl HO
    have hlen := hS.len
    have HLEN := Aside0.mk hlen
    clear hlen hn hS
    cases ho : linOverB l C
    · rw [ho] at HOV
      have HXA := Aside0.mk (show linTry l m (q + 1) C p s = (List.range' 0 l.length).findSome? (linF l m q C p s) by rw [linTry_succ, if_neg (by rw [ho]; decide)])
      clear ho
      generalize linTry l m (q + 1) C p s = res at HXA
      go_enter Try.func21, Try.ntmps21
      go_wp2_with (first | (go_at_call 22; (with_reducible refine (linear_over.calls _ _ _ l _ _ C false _ ?s1 ?s2 ?s3 ?s4 HOV.out).mono ?_); (case s1 => exact Kd.C_below HR0.out HBW.out); (case s2 => exact HC0.out); (case s3 => exact HS.out.reads); (case s4 => exact HS.out.cap); rintro e w1 ⟨rfl, hb_⟩; have HS1 := Aside0.mk (HS.out.below hb_); have HB1 := Aside0.mk (below_step HBW.out hb_); have HST1 := Aside0.mk (Kd.R_below HST.out hb_); have HM1 := Aside0.mk (LinMv.of_below (b0 := b0) (bo := bo) (g := g) (v := v) hb_ HS.out.size); clear hb_ hcl hcc hcm hco hct; obtain ⟨hcl, hcc, hcm, hco, hct⟩ := HS1.out.cell))
      clear HST HS HOV HBW hcl hcc hcm hco hct
      go_loopg [16] (l.length + 1) (fun kq v16 w' => ∃ (i : Nat) (x : Int) (v' : Value), v16 = .int .i64 x ∧ Aside0 (x = (i : Int)) ∧ Aside0 (kq + i = l.length + 1 ∧ i ≤ l.length) ∧ Aside0 ((List.range' 0 i).findSome? (linF l m q C p s) = none) ∧ Aside0 (LinSt A0 c0 l m b0 bl bc bm bo bt g cg w' C v' p) ∧ Aside0 (Kd.R (Kd.int .u64) 27 w' b0 (fun _ => True) (.slice As s.length cs) s) ∧ Aside0 (LinMv b0 bo g v v' W w') ∧ Aside0 (Below w.heap.size w w'))
      case atStart => exact ⟨0, 0, v, by rfl, ⟨rfl⟩, ⟨by omega, by omega⟩, ⟨rfl⟩, HS1, HST1, HM1, HB1⟩
      case round =>
        clear HS1 HST1 HM1 HB1
        obtain ⟨i, x, vo, rfl, HX, HK, HF, HS, HST, HM, HB⟩ := hrel
        cases gk with
        | zero => exact absurd HK.out (by omega)
        | succ k1 =>
          obtain ⟨hcl, hcc, hcm, hco, hct⟩ := HS.out.cell
          by_cases hlt : i < l.length
          · have HLT := Aside0.mk hlt
            have d0 : decide (x < (l.length : Int)) = true := decide_eq_true (by have := HX.out; omega)
            have p1 : ((0 : Int) ≤ x) = True := eq_true (by have := HX.out; omega)
            have q1 : (x < (l.length : Int)) = True := eq_true (by have := HX.out; omega)
            have q2 : (x < (C.length : Int)) = True := eq_true (by have := HX.out; have := HLEN.out; omega)
            obtain ⟨ad, e0, hx0, hx1, hx2, hx3, hx4, hx5⟩ := at_T30 HR0.out x (by have := HX.out; omega) (by have := HX.out; omega)
            cases e0
            replace hx0 := (HB.out.cell (World.block_lt_of_cell? w _ hx0)).trans hx0
            replace hx1 := (HB.out.cell (World.block_lt_of_cell? w _ hx1)).trans hx1
            replace hx2 := (HB.out.cell (World.block_lt_of_cell? w _ hx2)).trans hx2
            replace hx3 := (HB.out.cell (World.block_lt_of_cell? w _ hx3)).trans hx3
            replace hx4 := (HB.out.cell (World.block_lt_of_cell? w _ hx4)).trans hx4
            replace hx5 := (HB.out.cell (World.block_lt_of_cell? w _ hx5)).trans hx5
            have HFI := Aside0.mk (show linF l m q C p s i = if linMayB l x C = true then (match linDone s m (rd_T30 l x) with | some t => linTry l m q (C.set i true) (p ++ [x]) t | none => none) else none by unfold linF; rw [HX.out])
            have HD0 := lin_done (s := s) m (rd_T30 l x) (by have := HSL.out; have := HP.out; have := List.count_le_length (a := true) (l := C); have := HLEN.out; have := HN.out; omega) (Nat.le_refl 2)
            have HY := lin_may (l := l) (x := x) (C := C) HLEN.out (by have := HN.out; omega) (by have := HX.out; omega) (by have := HX.out; omega) (Nat.le_refl (2 * l.length + 1))
            have HMAY := Aside0.mk HY
            clear HY
            generalize rd_T30 l x = cc at hx0 hx1 hx2 hx3 hx4 hx5 HFI HD0
            cases hd : linDone s m cc with
            | none =>
              rw [hd] at HD0 HFI
              have HD := Aside0.mk HD0
              clear HD0 hd hlt
              go_upto_region 6 with (fail)
              have HL0 := Aside0.mk hx0
              have HL1 := Aside0.mk hx1
              have HL2 := Aside0.mk hx2
              have HL3 := Aside0.mk hx3
              have HL4 := Aside0.mk hx4
              have HL5 := Aside0.mk hx5
              go_region_held3 (fun w' => w'.cell? ⟨bl, 0, none⟩ = some (.slice (some ad) l.length c0) ∧ w'.cell? ⟨bm, 0, none⟩ = some (.int .i64 m) ∧ w'.cell? (ad.add (x.toNat * 6)) = some (.int .i64 cc.f0) ∧ w'.cell? ⟨(ad.add (x.toNat * 6)).block, (ad.add (x.toNat * 6)).off + 1, none⟩ = some (.bool cc.f1) ∧ w'.cell? ⟨(ad.add (x.toNat * 6)).block, (ad.add (x.toNat * 6)).off + 2, none⟩ = some (.int .u64 cc.f2) ∧ w'.cell? ⟨(ad.add (x.toNat * 6)).block, (ad.add (x.toNat * 6)).off + 3, none⟩ = some (.int .i64 cc.f3) ∧ w'.cell? ⟨(ad.add (x.toNat * 6)).block, (ad.add (x.toNat * 6)).off + 4, none⟩ = some (.int .i64 cc.f4) ∧ w'.cell? ⟨(ad.add (x.toNat * 6)).block, (ad.add (x.toNat * 6)).off + 5, none⟩ = some (.int .i64 cc.f5)) (go_keep) ((go_at_call 23; (with_reducible refine (linear_done.calls 2 _ _ s m cc.f0 cc.f1 cc.f2 cc.f3 cc.f4 cc.f5 _ _ _ ?s1 ?s2 HD.out).mono ?_); (case s1 => exact Kd.C_drew (Kd.R_reads' HST.out).2.2); (case s2 => exact (Kd.R_reads' HST.out).2.1); rintro e w2 ⟨vt, rfl, ht_, hb_⟩; have HB2 := Aside0.mk (below_step (below_drew HB.out) hb_); have hd_ : Below wr.heap.size wr w2 := below_step (below_drew (Below.refl _ _)) hb_; have HS2 := Aside0.mk (HS.out.below hd_); have HST2 := Aside0.mk (Kd.R_below HST.out hd_); have HM2 := Aside0.mk (HM.out.trans (LinMv.of_below hd_ HS.out.size)); have HT2 := Aside0.mk (Kd.R_lower ht_ HS.out.size); replace hx0 := (hd_.cell (World.block_lt_of_cell? wr _ HL0.out)).trans HL0.out; replace hx1 := (hd_.cell (World.block_lt_of_cell? wr _ HL1.out)).trans HL1.out; replace hx2 := (hd_.cell (World.block_lt_of_cell? wr _ HL2.out)).trans HL2.out; replace hx3 := (hd_.cell (World.block_lt_of_cell? wr _ HL3.out)).trans HL3.out; replace hx4 := (hd_.cell (World.block_lt_of_cell? wr _ HL4.out)).trans HL4.out; replace hx5 := (hd_.cell (World.block_lt_of_cell? wr _ HL5.out)).trans HL5.out; clear hb_ hd_ ht_ HL0 HL1 HL2 HL3 HL4 HL5; clear hcl hcc hcm hco hct; obtain ⟨hcl, hcc, hcm, hco, hct⟩ := HS2.out.cell))
              have HFN : Aside0 (linF l m q C p s i = none) := ⟨by rw [HFI.out]; split <;> rfl⟩
              clear hx0 hx1 hx2 hx3 hx4 hx5 HFI HD HMAY HB HS HST HM
              go_wp2
              go_roundg k1
              case measure => have := HK.out; omega
              case rel => exact ⟨i + 1, wrap64 (x + 1), vo, by first | rfl | (simp; done) | (simp [*]; done), ⟨by have := HX.out; have := HN.out; have := HLT.out; unfold wrap64; omega⟩, ⟨by have := HK.out; have := HLT.out; omega⟩, ⟨lin_some_next HF.out HFN.out⟩, HS2, HST2, HM2, HB2⟩
            | some t =>
              rw [hd] at HD0 HFI
              have HD := Aside0.mk HD0
              have HTL := Aside0.mk (linDone_len hd)
              clear HD0 hd hlt
              go_upto_region 6 with (fail)
              have HL0 := Aside0.mk hx0
              have HL1 := Aside0.mk hx1
              have HL2 := Aside0.mk hx2
              have HL3 := Aside0.mk hx3
              have HL4 := Aside0.mk hx4
              have HL5 := Aside0.mk hx5
              go_region_held3 (fun w' => w'.cell? ⟨bl, 0, none⟩ = some (.slice (some ad) l.length c0) ∧ w'.cell? ⟨bm, 0, none⟩ = some (.int .i64 m) ∧ w'.cell? (ad.add (x.toNat * 6)) = some (.int .i64 cc.f0) ∧ w'.cell? ⟨(ad.add (x.toNat * 6)).block, (ad.add (x.toNat * 6)).off + 1, none⟩ = some (.bool cc.f1) ∧ w'.cell? ⟨(ad.add (x.toNat * 6)).block, (ad.add (x.toNat * 6)).off + 2, none⟩ = some (.int .u64 cc.f2) ∧ w'.cell? ⟨(ad.add (x.toNat * 6)).block, (ad.add (x.toNat * 6)).off + 3, none⟩ = some (.int .i64 cc.f3) ∧ w'.cell? ⟨(ad.add (x.toNat * 6)).block, (ad.add (x.toNat * 6)).off + 4, none⟩ = some (.int .i64 cc.f4) ∧ w'.cell? ⟨(ad.add (x.toNat * 6)).block, (ad.add (x.toNat * 6)).off + 5, none⟩ = some (.int .i64 cc.f5)) (go_keep) ((go_at_call 23; (with_reducible refine (linear_done.calls 2 _ _ s m cc.f0 cc.f1 cc.f2 cc.f3 cc.f4 cc.f5 _ _ _ ?s1 ?s2 HD.out).mono ?_); (case s1 => exact Kd.C_drew (Kd.R_reads' HST.out).2.2); (case s2 => exact (Kd.R_reads' HST.out).2.1); rintro e w2 ⟨vt, rfl, ht_, hb_⟩; have HB2 := Aside0.mk (below_step (below_drew HB.out) hb_); have hd_ : Below wr.heap.size wr w2 := below_step (below_drew (Below.refl _ _)) hb_; have HS2 := Aside0.mk (HS.out.below hd_); have HST2 := Aside0.mk (Kd.R_below HST.out hd_); have HM2 := Aside0.mk (HM.out.trans (LinMv.of_below hd_ HS.out.size)); have HT2 := Aside0.mk (Kd.R_lower ht_ HS.out.size); replace hx0 := (hd_.cell (World.block_lt_of_cell? wr _ HL0.out)).trans HL0.out; replace hx1 := (hd_.cell (World.block_lt_of_cell? wr _ HL1.out)).trans HL1.out; replace hx2 := (hd_.cell (World.block_lt_of_cell? wr _ HL2.out)).trans HL2.out; replace hx3 := (hd_.cell (World.block_lt_of_cell? wr _ HL3.out)).trans HL3.out; replace hx4 := (hd_.cell (World.block_lt_of_cell? wr _ HL4.out)).trans HL4.out; replace hx5 := (hd_.cell (World.block_lt_of_cell? wr _ HL5.out)).trans HL5.out; clear hb_ hd_ ht_ HL0 HL1 HL2 HL3 HL4 HL5; clear hcl hcc hcm hco hct; obtain ⟨hcl, hcc, hcm, hco, hct⟩ := HS2.out.cell))
              clear hx0 hx1 hx2 hx3 hx4 hx5 HD HB HS HST HM
              cases hm : linMayB l x C
              · rw [hm] at HMAY HFI
                have HFN : Aside0 (linF l m q C p s i = none) := ⟨by rw [HFI.out, if_neg (by decide)]⟩
                clear HFI hm
                go_wp2_with (first | (go_at_call 24; (with_reducible refine (linear_may.calls _ _ _ l x _ _ C _ _ ?s1 ?s2 ?s3 ?s4 HMAY.out).mono ?_); (case s1 => repeat (first | exact (Kd.C_below HR0.out HB2.out) | (with_reducible refine Kd.C_drewN ?_ _) | (with_reducible refine Kd.C_drew ?_))); (case s2 => exact HC0.out); (case s3 => repeat (first | exact HS2.out.reads | (with_reducible refine Kd.C_drewN ?_ _) | (with_reducible refine Kd.C_drew ?_))); (case s4 => exact HS2.out.cap); rintro e w3 ⟨rfl, hb_⟩; have hd_ : Below w2.heap.size w2 w3 := below_step (by repeat (first | exact Below.refl _ _ | apply below_alloc | apply pw_below_drewN | apply below_drew1)) hb_; have HB3 := Aside0.mk (below_step HB2.out hd_); have HS3 := Aside0.mk (HS2.out.below hd_); have HST3 := Aside0.mk (Kd.R_below HST2.out hd_); have HM3 := Aside0.mk (HM2.out.trans (LinMv.of_below hd_ HS2.out.size)); have HT3 := Aside0.mk (Kd.R_below HT2.out hd_); clear hb_ hd_ hcl hcc hcm hco hct; obtain ⟨hcl, hcc, hcm, hco, hct⟩ := HS3.out.cell))
                go_roundg k1
                case measure => have := HK.out; omega
                case rel => exact ⟨i + 1, wrap64 (x + 1), vo, by first | rfl | (simp; done) | (simp [*]; done), ⟨by have := HX.out; have := HN.out; have := HLT.out; unfold wrap64; omega⟩, ⟨by have := HK.out; have := HLT.out; omega⟩, ⟨lin_some_next HF.out HFN.out⟩, HS3, HST3, HM3, HB3⟩
              · rw [hm] at HMAY HFI
                have HCX : Aside0 (rdOf false C x = false) := ⟨by unfold linMayB at hm; simp at hm; exact hm.2⟩
                have HXN : Aside0 (x.toNat = i) := ⟨by have := HX.out; omega⟩
                have HF2 : Aside0 (linF l m q C p s i = linTry l m q (C.set x.toNat true) (p ++ [x]) t) := ⟨by rw [HFI.out, if_pos rfl, HXN.out]⟩
                clear HFI hm
                go_upto_region 8 with (first | (go_at_call 24; (with_reducible refine (linear_may.calls _ _ _ l x _ _ C _ _ ?s1 ?s2 ?s3 ?s4 HMAY.out).mono ?_); (case s1 => repeat (first | exact (Kd.C_below HR0.out HB2.out) | (with_reducible refine Kd.C_drewN ?_ _) | (with_reducible refine Kd.C_drew ?_))); (case s2 => exact HC0.out); (case s3 => repeat (first | exact HS2.out.reads | (with_reducible refine Kd.C_drewN ?_ _) | (with_reducible refine Kd.C_drew ?_))); (case s4 => exact HS2.out.cap); rintro e w3 ⟨rfl, hb_⟩; have hd_ : Below w2.heap.size w2 w3 := below_step (by repeat (first | exact Below.refl _ _ | apply below_alloc | apply pw_below_drewN | apply below_drew1)) hb_; have HB3 := Aside0.mk (below_step HB2.out hd_); have HS3 := Aside0.mk (HS2.out.below hd_); have HST3 := Aside0.mk (Kd.R_below HST2.out hd_); have HM3 := Aside0.mk (HM2.out.trans (LinMv.of_below hd_ HS2.out.size)); have HT3 := Aside0.mk (Kd.R_below HT2.out hd_); clear hb_ hd_ hcl hcc hcm hco hct; obtain ⟨hcl, hcc, hcm, hco, hct⟩ := HS3.out.cell))
                have HPL : Aside0 (p.length ≤ 6) := ⟨by have := HP.out; have := List.count_le_length (a := true) (l := C); have := HLEN.out; have := HN.out; omega⟩
                obtain ⟨hgc, hgf⟩ := Kd.R_celln false HS3.out.came x (by have := HX.out; omega) (by have := HX.out; have := HLT.out; omega)
                go_upto_region 9 with (fail)
                have HMK := Aside0.mk (LinMv.mark (bo := bo) (v := vo) HS3.out.g_ge w3 x.toNat (.bool true))
                have HS4 := Aside0.mk (HS3.out.mark x true)
                have HST4 := Aside0.mk (HS3.out.stack HST3.out HMK.out)
                have HT4 := Aside0.mk (HS3.out.stack HT3.out HMK.out)
                have HM4 := Aside0.mk (HM3.out.trans HMK.out)
                have HB4 := Aside0.mk (HB3.out.trans (HMK.out.below.mono hb0))
                clear HMK hgc hgf hcl hcc hcm hco hct HS3 HST3 HT3 HM3 HB3 HS2 HST2 HT2 HM2 HB2
                generalize w3.setCell ⟨g, x.toNat, none⟩ (.bool true) = w4 at *
                obtain ⟨hcl, hcc, hcm, hco, hct⟩ := HS4.out.cell
                obtain ⟨Ao, cp, eo⟩ := Kd.R_slice HS4.out.row
                subst eo
                go_upto_region 10 with (first | ((with_reducible refine gate_builtin (b := .append) (xs := #[.tmp 41, .tmp 43]) rfl ?_); at_builtin; refine Kd.R_append (Kd.int .i64) (w0 := w4) b0 rfl (.tmp 41) (.tmp 43) 31 3 (.int .i64 0) 8 rfl Try.underlying31 info3 rfl (by decide) (by omega) (.slice Ao p.length cp) p x [.int .i64 x] (fun k => k ≠ bm) (fun _ => False) rfl (by first | (go_simp; done) | (go_simp; rfl)) ?aP (fun _ hk => hk.elim) ?aF ?aO ?aB ?aS ?aL ?_; (case aP => exact rfl); (case aF => intro k hk he; subst he; have := blk_lt HS4.out.cm; omega); (case aO => exact HS4.out.row); (case aB => exact Below.refl _ _); (case aS => exact HS4.out.size); (case aL => have := HPL.out; omega); intro v5 w5 ho_ hb_ hg_ hat_; obtain ⟨A5, c5, e5_⟩ := Kd.R_slice ho_; rw [show (p ++ [x]).length = p.length + 1 by simp] at e5_; subst e5_; have HK5 := Aside0.mk (Kept.of_grown (S := fun k => some k = (Value.slice Ao p.length cp).ownBlock) hg_ (Kept.refl w4 _) (fun k hk => .inl hk.symm)); have HR5 := Aside0.mk ho_; have HB5 := Aside0.mk hb_; have HAT5 := Aside0.mk hat_; have hbo := blk_kept HS4.out.co HK5.out (HS4.out.own_typed HS4.out.co (by decide)); clear hcl hcc hcm hco hct; have hco : w5.cell? ⟨bo, 0, none⟩ = some (.slice Ao p.length cp) := (blk_cell hbo 0).trans rfl; have hfo := blk_frozen hbo 0; clear hbo ho_ hb_ hg_ hat_))
                have HMR := Aside0.mk (LinMv.setRow (g := g) HB5.out HK5.out HAT5.out HS4.out.go)
                have HS6 := Aside0.mk (HS4.out.setRow HK5.out HR5.out)
                have HST6 := Aside0.mk (HS4.out.stack HST4.out HMR.out)
                have HT6 := Aside0.mk (HS4.out.stack HT4.out HMR.out)
                have HM6 := Aside0.mk (HM4.out.trans HMR.out)
                have HB6 := Aside0.mk (HB4.out.trans (HMR.out.below.mono hb0))
                clear HMR hco hfo HS4 HST4 HT4 HM4 HB4 HB5 HK5 HR5 HAT5
                generalize w5.setCell ⟨bo, 0, none⟩ (.slice A5 (p.length + 1) c5) = w6 at *
                obtain ⟨hcl, hcc, hcm, hco, hct⟩ := HS6.out.cell
                have hxl : x.toNat < C.length := by have := HXN.out; have := HLEN.out; have := HLT.out; omega
                have hxc : rdOf false C ((x.toNat : Nat) : Int) = false := by rw [show ((x.toNat : Nat) : Int) = x by have := HX.out; omega]; exact HCX.out
                have HBK := Aside0.mk (lin_back hxl hxc)
                have hcnt := lin_count hxl hxc
                have HI0 := IH.out (C.set x.toNat true) (p ++ [x]) t (.slice A5 (p.length + 1) c5) vt w6 HS6.out HB6.out HT6.out (by rw [hcnt]; have := HQ.out; omega) (by rw [hcnt, List.length_append]; have := HP.out; simp; omega) (by rw [List.length_append]; have := HTL.out; have := HSL.out; simp; omega)
                clear hxl hxc hcnt
                cases hrr : linTry l m q (C.set x.toNat true) (p ++ [x]) t with
                | some p' =>
                  rw [hrr] at HI0 HF2
                  obtain rfl : res = some p' := HXA.out.trans (lin_some_at HF.out HF2.out HLT.out)
                  simp only [Option.isSome_some, Option.getD_some] at HI0
                  have HI := Aside0.mk HI0
                  clear HI0 hrr HXA HF HF2
                  go_wp2_with (first | (go_at_call 21; (with_reducible refine HI.out.mono ?_); rintro e w7 ⟨rfl, C7, v7, hs_, hc_, hm_⟩; have HS7 := Aside0.mk hs_; have HM7 := Aside0.mk (HM6.out.trans hm_); clear hs_ hc_ hm_))
                  go_ret
                  exact ⟨rfl, C7, v7, HS7.out, (fun h => by cases h), HM7.out⟩
                | none =>
                  rw [hrr] at HI0 HF2
                  have HFN : Aside0 (linF l m q C p s i = none) := ⟨HF2.out⟩
                  simp only [Option.isSome_none, Option.getD_none] at HI0
                  have HI := Aside0.mk HI0
                  clear HI0 hrr HF2
                  go_upto_region 12 with (first | (go_at_call 21; (with_reducible refine HI.out.mono ?_); rintro e w7 ⟨rfl, C7, v7, hs_, hc_, hm_⟩; obtain rfl := hc_ trivial; have HS7 := Aside0.mk hs_; have HM7 := Aside0.mk (HM6.out.trans hm_); have HB7 := Aside0.mk (HB6.out.trans (hm_.below.mono hb0)); have HST7 := Aside0.mk (HS6.out.stack HST6.out hm_); clear hs_ hc_ hm_ hcl hcc hcm hco hct; obtain ⟨hcl, hcc, hcm, hco, hct⟩ := HS7.out.cell))
                  clear HS6 HST6 HM6 HB6 HT6 HI
                  have hcame := HS7.out.came
                  obtain ⟨hgc, hgf⟩ := Kd.R_celln false hcame x (by have := HX.out; omega) (by have := HX.out; have := HLT.out; omega)
                  clear hcame
                  go_upto_region 13 with (fail)
                  have HMK := Aside0.mk (LinMv.mark (bo := bo) (v := v7) HS7.out.g_ge w7 x.toNat (.bool false))
                  have HS8 := Aside0.mk (HS7.out.mark x false)
                  rw [HBK.out] at HS8
                  have HST8 := Aside0.mk (HS7.out.stack HST7.out HMK.out)
                  have HM8 := Aside0.mk (HM7.out.trans HMK.out)
                  have HB8 := Aside0.mk (HB7.out.trans (HMK.out.below.mono hb0))
                  clear HMK hgc hgf hcl hcc hcm hco hct HS7 HST7 HM7 HB7
                  generalize w7.setCell ⟨g, x.toNat, none⟩ (.bool false) = w8 at *
                  obtain ⟨hcl, hcc, hcm, hco, hct⟩ := HS8.out.cell
                  have hfo := blk_frozen HS8.out.co 0
                  obtain ⟨A8, c8, e8⟩ := Kd.R_slice HS8.out.row
                  rw [show (p ++ [x]).length = p.length + 1 by simp] at e8
                  subst e8
                  have hr8 := HS8.out.row
                  have hle8 : p.length + 1 ≤ c8 := (Kd.R_reads' hr8).2.1
                  obtain ⟨i0, hi0, _, _, _⟩ := info_parts info3
                  have hcut := cut_to (P := Try.prog) 31 3 .i64 Try.underlying31 hi0 A8 (p.length + 1) c8 (p.length : Int) (by omega) (by omega) hle8
                  have HR9 := Aside0.mk (Kd.R_take (m := p.length) hr8 (by simp))
                  rw [List.take_left] at HR9
                  simp only [Int.toNat_natCast] at hcut
                  have hb5 : (0 : Int) ≤ (p.length : Int) := by omega
                  have hb6 : (p.length : Int) < 100 := by have := HPL.out; omega
                  have hw1 : wrap64 ((p.length : Int) + 1 - 1) = p.length := by have := HPL.out; unfold wrap64; omega
                  have hw2 : (p.length : Int) + 1 - 1 = p.length := by omega
                  clear hr8 hle8
                  go_wp2
                  have HMR := Aside0.mk (LinMv.setRow (b0 := b0) (bo := bo) (g := g) (v := .slice A8 (p.length + 1) c8) (u := .slice A8 p.length c8) (Below.refl b0 w8) (Kept.refl w8 _) (.inl (by cases A8 <;> rfl)) HS8.out.go)
                  go_roundg k1
                  case measure => have := HK.out; omega
                  case rel => exact ⟨i + 1, wrap64 (x + 1), _, by first | rfl | (simp; done) | (simp [*]; done), ⟨by have := HX.out; have := HN.out; have := HLT.out; unfold wrap64; omega⟩, ⟨by have := HK.out; have := HLT.out; omega⟩, ⟨lin_some_next HF.out HFN.out⟩, ⟨HS8.out.setRow (Kept.refl w8 _) HR9.out⟩, ⟨HS8.out.stack HST8.out HMR.out⟩, ⟨HM8.out.trans HMR.out⟩, ⟨HB8.out.trans (HMR.out.below.mono hb0)⟩⟩
          · have d0 : decide (x < (l.length : Int)) = false := decide_eq_false (by have := HX.out; have := HK.out; omega)
            obtain rfl : i = l.length := by have := HK.out; omega
            obtain rfl : res = none := HXA.out.trans HF.out
            clear HXA
            go_wp2
            go_ret
            exact ⟨rfl, C, vo, HS.out, (by first | exact fun _ => rfl | rfl), HM.out⟩
    · rw [ho] at HOV
      have HX : linTry l m (q + 1) C p s = some p := by rw [linTry_succ, if_pos ho]
      rw [HX]
      clear ho HX
      simp only [Option.isSome_some, Option.getD_some]
      go_enter Try.func21, Try.ntmps21
      go_wp2_with (first | (go_at_call 22; (with_reducible refine (linear_over.calls _ _ _ l _ _ C true _ ?s1 ?s2 ?s3 ?s4 HOV.out).mono ?_); (case s1 => exact Kd.C_below HR0.out HBW.out); (case s2 => exact HC0.out); (case s3 => exact HS.out.reads); (case s4 => exact HS.out.cap); rintro e w1 ⟨rfl, hb_⟩; have HS1 := Aside0.mk (HS.out.below hb_); have HM1 := Aside0.mk (LinMv.of_below (b0 := b0) (bo := bo) (g := g) (v := v) hb_ HS.out.size); clear hb_))
      go_ret
      exact ⟨rfl, C, v, HS1.out, (fun h => by cases h), HM1.out⟩
end
/-! ### Clone, Find -/
set_option maxHeartbeats 8000000 in
set_option maxRecDepth 100000 in
theorem lin_clone_calls {w : World} {b : Nat} {v : Value} {p : List Int} (hr : Kd.R (Kd.int .i64) 3 w b (fun _ => True) v p) (hl : p.length ≤ 100) :
    Calls Try.prog 25 #[v] w fun e w' => ∃ u, e = .returned u ∧ Kd.R (Kd.int .i64) 3 w' w.heap.size (fun _ => True) u p ∧ Below w.heap.size w w' := by
  obtain ⟨A, c, rfl⟩ := Kd.R_slice hr
  have HR := Aside0.mk hr
  have HL := Aside0.mk hl
  cases A with
  | none =>
    obtain rfl : p = [] := by
      rcases Nat.eq_zero_or_pos p.length with h | h
      · exact List.length_eq_zero_iff.1 h
      · obtain ⟨_, _, e, _⟩ := Kd.R_form hr h
        cases e
    clear hr hl
    have he := Lib.run_eql_slice_nil (P := Try.prog)
    go_enter Try.func25, Try.ntmps25
    go_wp2
    go_ret
    exact ⟨_, rfl, Kd.R_nil _ _ _ _ _, Below.refl _ _⟩
  | some a =>
    clear hr hl
    have he := Lib.run_eql_slice_nil (P := Try.prog)
    go_enter Try.func25, Try.ntmps25
    go_wp2_with (first | ((with_reducible refine gate_dst (N := 5) rfl ?_); refine Kd.R_lit (Kd.int .i64) (w0 := w) w.heap.size 3 ?hg (N := 5) ?hd (xs := ([] : List Int)) (inner := []) (ok := fun _ => True) (okp := fun _ => True) ?hr ?hp (fun _ hk => hk) trivial (Below.refl _ _) (Nat.le_refl _) (by simp) ?_; (case hd => rfl); (case hg => rfl); (case hr => first | (go_simp; done) | (go_simp; rfl)); (case hp => exact ⟨by simp, fun j p hj => by simp at hj⟩); intro v1 w1 ho hb1 hg hat; have HO1 := Aside0.mk ho; have HB1 := Aside0.mk hb1; have HR1 := Aside0.mk (Kd.R_below HR.out hb1); clear ho hb1 hg hat) | ((with_reducible refine gate_builtin (b := .append) (xs := #[.tmp 5, .tmp 6]) rfl ?_); at_builtin; refine Kd.R_append_rows (Kd.int .i64) (w0 := w) w.heap.size rfl (.tmp 5) (.tmp 6) 31 3 (.int .i64 0) 8 rfl Try.underlying31 info3 rfl (by decide) (by omega) v1 [] p _ _ _ (fun _ => True) (fun _ => False) rfl rfl ?aO ?aR (fun _ _ h => h) (fun _ h => h.elim) (fun _ _ => trivial) ?aB ?aS ?aL ?_; (case aO => exact HO1.out); (case aR => exact (Kd.R_reads' HR1.out).2.2); (case aB => exact HB1.out); (case aS => exact HB1.out.size); (case aL => have := HL.out; simp; omega); intro v2 w2 ho hb2 hg hat; rw [List.nil_append] at ho; have HO2 := Aside0.mk ho; have HB2 := Aside0.mk hb2; clear ho hb2 hg hat))
    go_ret
    exact ⟨_, rfl, HO2.out, HB2.out⟩
set_option maxHeartbeats 8000000 in
set_option maxRecDepth 100000 in
theorem linear_Find.calls (A0 : Option Addr) (c0 : Nat) (l0 : List S30) (a1 : Int) (r1 : List Int) (r2 : Bool) (w : World) (hr0 : Kd.C k30 w A0 l0.length l0) (hc0 : l0.length ≤ c0) (h : linear_Find.f l0 a1 = some (r1, r2)) :
    Calls Try.prog 12 #[.slice A0 l0.length c0, .int .i64 a1] w fun e w' => ∃ v0_ : Value, e = .returned (.tuple #[v0_, .bool r2]) ∧ Kd.R (Kd.int .i64) 3 w' w.heap.size (fun _ => True) v0_ r1 ∧ Below w.heap.size w w' := by
  have HR0 := Aside0.mk hr0
  have HC0 := Aside0.mk hc0
  have HB := Aside0.mk (Below.refl w.heap.size w)
  unfold linear_Find.f at h
  by_cases hn : l0.length ≤ 6
  · rw [if_pos hn] at h
    have HN := Aside0.mk hn
    have H := Aside0.mk (Option.some.inj h)
    have d0 : decide ((6 : Int) < (l0.length : Int)) = false := decide_eq_false (by omega)
    clear h hr0 hc0
    have hb1 : (l0.length : Int) < 100 := by omega
    have hb2 : (0 : Int) ≤ (l0.length : Int) := by omega
    go_enter Try.func12, Try.ntmps12
    go_upto_region 7 with (first | ((with_reducible refine gate_dst (N := 14) rfl ?_); refine Kd.R_make Kd.bool _ 4 rfl (N := 14) rfl 54 _ _ rfl (l0.length : Int) rfl rfl Try.underlying54 (.bool false) 1 info4 rfl (by decide) (by omega) false (ok := fun _ => True) (okp := fun _ => True) rfl (fun _ hk => hk) trivial (by omega) (by have := HN.out; omega) (Below.refl _ _) (Nat.le_refl _) ?_; intro v1 w1 ho hb hg_ hnew_; obtain ⟨g, hgo, hgge⟩ := hnew_; obtain ⟨inner, hown⟩ := Kd.R_own ho; rcases hown.2 with ⟨h0, _⟩ | ⟨g1, cg, cur, hv, hrest_⟩; exact absurd hgo (by rw [h0]; simp [Value.ownBlock]); (subst hv); (simp only [List.length_replicate, Int.toNat_natCast] at ho); have HO1 := Aside0.mk ho; have HB1 := Aside0.mk hb; have HG1 := Aside0.mk (show w.heap.size ≤ g1 by injection hgo with hgo; subst hgo; have := hgge; simp at this; omega); clear ho hb hg_ hgo hgge hown hrest_ cur inner))
    have hw1 : w.heap.size + 2 ≤ w1.heap.size := by have := HB1.out.size; simp at this; omega
    have hbl : w1.heap[w.heap.size]? = some (.cells #[.slice A0 l0.length c0] 25 (0, 0)) := blk_below (blk_alloc (blk_new w _) _) HB1.out
    have hbm : w1.heap[w.heap.size + 1]? = some (.cells #[.int .i64 a1] 3 (0, 0)) := blk_below (by have := blk_new (w.alloc (.cells #[.slice A0 l0.length c0] 25)) (.cells #[.int .i64 a1] 3); simpa using this) HB1.out
    have hbc : (w1.alloc (.cells #[.slice (some ⟨g1, 0, none⟩) l0.length cg] 54)).heap[w1.heap.size]? = some (.cells #[.slice (some ⟨g1, 0, none⟩) l0.length cg] 54 (0, 0)) := blk_new _ _
    have hbo : ((w1.alloc (.cells #[.slice (some ⟨g1, 0, none⟩) l0.length cg] 54)).alloc (.cells #[.slice none 0 0] 31)).heap[w1.heap.size + 1]? = some (.cells #[.slice none 0 0] 31 (0, 0)) := by
      have := blk_new (w1.alloc (.cells #[.slice (some ⟨g1, 0, none⟩) l0.length cg] 54)) (.cells #[.slice none 0 0] 31); simpa using this
    have hbt : ∀ u : Value, (((w1.alloc (.cells #[.slice (some ⟨g1, 0, none⟩) l0.length cg] 54)).alloc (.cells #[.slice none 0 0] 31)).alloc (.cells #[u] 55)).heap[w1.heap.size + 1 + 1]? = some (.cells #[u] 55 (0, 0)) := by
      intro u
      have := blk_new ((w1.alloc (.cells #[.slice (some ⟨g1, 0, none⟩) l0.length cg] 54)).alloc (.cells #[.slice none 0 0] 31)) (.cells #[u] 55); simpa using this
    have HS : Aside0 (LinSt A0 c0 l0 a1 w.heap.size w.heap.size w1.heap.size (w.heap.size + 1) (w1.heap.size + 1) (w1.heap.size + 1 + 1) g1 cg (((w1.alloc (.cells #[.slice (some ⟨g1, 0, none⟩) l0.length cg] 54)).alloc (.cells #[.slice none 0 0] 31)).alloc (.cells #[.func (.func 21) #[] #[.pointer (some ⟨w.heap.size, 0, none⟩), .pointer (some ⟨w1.heap.size, 0, none⟩), .pointer (some ⟨w.heap.size + 1, 0, none⟩), .pointer (some ⟨w1.heap.size + 1, 0, none⟩), .pointer (some ⟨w1.heap.size + 1 + 1, 0, none⟩)]] 55)) (List.replicate l0.length false) (.slice none 0 0) []) :=
      ⟨⟨blk_alloc (blk_alloc (blk_alloc hbl _) _) _, blk_alloc (blk_alloc hbc _) _, blk_alloc (blk_alloc (blk_alloc hbm _) _) _, blk_alloc hbo _, hbt _, Kd.R_alloc (Kd.R_alloc (Kd.R_alloc (Kd.R_lower HO1.out (by simp; omega)) _) _) _, Kd.R_nil _ _ _ _ _, by omega⟩⟩
    have HB3 : Aside0 (Below w.heap.size w (((w1.alloc (.cells #[.slice (some ⟨g1, 0, none⟩) l0.length cg] 54)).alloc (.cells #[.slice none 0 0] 31)).alloc (.cells #[.func (.func 21) #[] #[.pointer (some ⟨w.heap.size, 0, none⟩), .pointer (some ⟨w1.heap.size, 0, none⟩), .pointer (some ⟨w.heap.size + 1, 0, none⟩), .pointer (some ⟨w1.heap.size + 1, 0, none⟩), .pointer (some ⟨w1.heap.size + 1 + 1, 0, none⟩)]] 55))) :=
      ⟨by have hx : Below w.heap.size w w1 := below_step (below_alloc (below_alloc (Below.refl _ _) _) _) HB1.out; repeat (first | exact hx | apply below_alloc)⟩
    clear hbl hbm hbc hbo hbt HO1 HB1 HB
    generalize (((w1.alloc (.cells #[.slice (some ⟨g1, 0, none⟩) l0.length cg] 54)).alloc (.cells #[.slice none 0 0] 31)).alloc (.cells #[.func (.func 21) #[] #[.pointer (some ⟨w.heap.size, 0, none⟩), .pointer (some ⟨w1.heap.size, 0, none⟩), .pointer (some ⟨w.heap.size + 1, 0, none⟩), .pointer (some ⟨w1.heap.size + 1, 0, none⟩), .pointer (some ⟨w1.heap.size + 1 + 1, 0, none⟩)]] 55)) = w3 at *
    have hct := HS.out.cell.2.2.2.2
    have HT0 := lin_try_calls HR0.out HC0.out (Nat.le_refl _) HN.out (l0.length + 1) (List.replicate l0.length false) [] [] (.slice none 0 0) (.slice none 0 0) w3 HS.out HB3.out (Kd.R_nil _ _ _ _ _) (by omega) (by simp) (by simp)
    cases hrr : linTry l0 a1 (l0.length + 1) (List.replicate l0.length false) [] [] with
    | none =>
      rw [hrr] at HT0 H
      have HH := H.out
      simp only [Prod.mk.injEq] at HH
      obtain ⟨rfl, rfl⟩ := HH
      simp only [Option.isSome_none, Option.getD_none] at HT0
      have HT := Aside0.mk HT0
      clear HT0 hrr H
      go_wp2_with (first | (go_at_call 21; (with_reducible refine HT.out.mono ?_); rintro e w4 ⟨rfl, C4, v4, hs_, hc_, hm_⟩; have HB4 := Aside0.mk (HB3.out.trans hm_.below); clear hs_ hc_ hm_))
      go_ret2
      exact ⟨_, rfl, Kd.R_nil _ _ _ _ _, HB4.out⟩
    | some p =>
      rw [hrr] at HT0 H
      have HH := H.out
      simp only [Prod.mk.injEq] at HH
      obtain ⟨rfl, rfl⟩ := HH
      simp only [Option.isSome_some, Option.getD_some] at HT0
      have HT := Aside0.mk HT0
      have HP := Aside0.mk (linTry_len hrr)
      clear HT0 hrr H
      go_wp2_with (first | (go_at_call 21; (with_reducible refine HT.out.mono ?_); rintro e w4 ⟨rfl, C4, v4, hs_, hc_, hm_⟩; have HS4 := Aside0.mk hs_; have HB4 := Aside0.mk (HB3.out.trans hm_.below); clear hs_ hc_ hm_ hct; have hco := HS4.out.cell.2.2.2.1) | (go_at_call 25; (with_reducible refine (lin_clone_calls (Kd.R_mono HS4.out.row (fun _ _ => trivial)) ?s1).mono ?_); (case s1 => have h1 := HP.out; have h2 := HN.out; simp at h1; omega); rintro e w5 ⟨u5, rfl, hr_, hb_⟩; have HR5 := Aside0.mk (Kd.R_lower hr_ (below_size HB4.out)); have HB5 := Aside0.mk (below_step HB4.out hb_); clear hr_ hb_))
      go_ret2
      exact ⟨_, rfl, HR5.out, HB5.out⟩
  · rw [if_neg hn] at h
    have HH := Option.some.inj h
    simp only [Prod.mk.injEq] at HH
    obtain ⟨rfl, rfl⟩ := HH
    have d0 : decide ((6 : Int) < (l0.length : Int)) = true := decide_eq_true (by omega)
    clear h hr0 hc0 hn
    go_enter Try.func12, Try.ntmps12
    go_wp2
    go_ret2
    exact ⟨_, rfl, Kd.R_nil _ _ _ _ _, by repeat (first | exact HB.out | apply below_alloc | apply pw_below_drewN | apply below_drew1)⟩

end Go.Proofs.Ytdcnnphgcapiaaa.P
