/- PackRow: of words, each the next one of the one ahead, no two are the same: for every word and every list of indexes. -/
import Derived.Test.YtkamhidjofngdaaPx3
import Derived.Laws.Bits64
set_option linter.unusedVariables false
set_option linter.unusedSimpArgs false
namespace Go.Proofs.Ytkamhidjofngdaa.Pure
open Go.RowKit Go.Proofs.Ytkamhidjofngdaa.P Go.Proofs.YtkamhidjofngdaaW.PrintWords Go.Proofs.YtkamhidjofngdaaW.PrintLast
/-- 'Option.bind_some', but no law by definition: so Lean's kernel need not compare what the two sides unfold to. -/
theorem bs {α β : Type} (x : α) (f : α → Option β) : (some x).bind f = f x := by rw [Option.bind_some]
theorem beq_no {a b : Int} (h : ¬ a = b) : (a == b) = false := beq_eq_false_iff_ne.2 h
theorem wf_i64 {x : Int} (h : (Lit.int .i64 x).wf = true) : -9223372036854775808 ≤ x ∧ x ≤ 9223372036854775807 := by
  simp [Lit.wf, IntKind.min, IntKind.max, IntKind.signed, IntKind.bits] at h; omega
theorem wf_u64 {x : Int} (h : (Lit.int .u64 x).wf = true) : 0 ≤ x ∧ x < 18446744073709551616 := by
  simp [Lit.wf, IntKind.min, IntKind.max, IntKind.signed, IntKind.bits] at h; omega
theorem wf_u32 {x : Int} (h : (Lit.int .u32 x).wf = true) : 0 ≤ x ∧ x < 4294967296 := by
  simp [Lit.wf, IntKind.min, IntKind.max, IntKind.signed, IntKind.bits] at h; omega
theorem or_comm' (k : IntKind) (a b : Int) : Go.bits .or k a b = Go.bits .or k b a := by
  simp only [Go.bits]
  rw [BitVec.or_comm]
theorem wraps_u64 (n : Int) (h0 : 0 ≤ n) (h1 : n < 2 ^ 64) : IntKind.u64.wrap n = n := by
  rw [IntKind.wrap_u64]; omega
/-- The bits of two numbers that share none are their sum. -/
theorem or_low (i : Nat) (x y : Int) (hx0 : 0 ≤ x) (hx : x % 2 ^ i = 0) (hx1 : x < 2 ^ 64) (hy0 : 0 ≤ y) (hy : y < 2 ^ i) (hy1 : y < 2 ^ 64) : Go.bits .or .u64 y x = y + x := by
  rw [or_comm', bits_join .u64 64 (by decide) wraps_u64 i x y hx0 hx hx1 hy0 hy hy1]; omega
theorem pack_word (i t : Int) (hi0 : 0 ≤ i) (hi1 : i < 4294967296) (ht0 : 0 ≤ t) (ht1 : t < 4294967296) : pack_Word.f i t = some (i + 4294967296 * t) := by
  unfold pack_Word.f
  simp only [IntKind.wrap_u64]
  have e1 : i % 18446744073709551616 = i := by omega
  have e2 : t % 18446744073709551616 * 4294967296 % 18446744073709551616 = 4294967296 * t := by omega
  rw [e1, e2, or_low 32 (4294967296 * t) i (by omega) (by omega) (by omega) (by omega) (by omega) (by omega)]
theorem pack_next (w i : Int) (hi0 : 0 ≤ i) (hi1 : i < 4294967296) : pack_Next.f w i = some (i + 4294967296 * ((w / 4294967296 % 4294967296 + 1) % 4294967296)) := by
  unfold pack_Next.f pack_Tag.f
  simp only [bs, pack_word i ((w / 4294967296 % 4294967296 + 1) % 4294967296) hi0 hi1 (by omega) (by omega)]
theorem pack_shown : hatstandlaw1_shown.f = some true := by
  unfold hatstandlaw1_shown.f
  simp only [pack_word 5 1 (by omega) (by omega) (by omega) (by omega), pack_word 5 4294967295 (by omega) (by omega) (by omega) (by omega), pack_word 7 0 (by omega) (by omega) (by omega) (by omega), bs, pack_next _ 7 (by omega) (by omega), pack_Index.f, pack_Tag.f]
  decide
theorem pack_ahead (a b : Int) : pack_Ahead.f a b = some ((b / 4294967296 % 4294967296 - a / 4294967296 % 4294967296) % 4294967296) := by
  unfold pack_Ahead.f pack_Tag.f
  simp only [bs]
/-- A word's tag. -/
def tg (w : Int) : Int := w / 4294967296 % 4294967296
theorem rd_mem {l : List Int} {i : Int} (h0 : 0 ≤ i) (h : i < (l.length : Int)) : rd l i ∈ l := by
  unfold rd
  rw [List.getD_eq_getElem?_getD, List.getElem?_eq_getElem (show i.toNat < l.length by omega), Option.getD_some]
  exact List.getElem_mem _
theorem rd_app_old (l : List Int) (x : Int) {i : Int} (h : i < (l.length : Int)) (h0 : 0 ≤ i) : rd (l ++ [x]) i = rd l i := by
  unfold rd
  simp only [List.getD_eq_getElem?_getD]
  rw [List.getElem?_append_left (by omega)]
theorem rd_app_new (l : List Int) (x : Int) : rd (l ++ [x]) (l.length : Int) = x := by
  unfold rd
  simp [List.getD_eq_getElem?_getD]
theorem row_inner (w : Int) (is ys : List Int) (i x : Int) (hn : ys.length < 1000) (hne : ∀ m : Int, 0 ≤ m → m < ys.length → rd ys m ≠ x) (hi0 : 0 ≤ i) (hi1 : i < 1000)
    (hnext : ∃ k, hatstandlaw1_PackRow.l0 k w is (ys ++ [x]) (i + 1) = some true) (d : Nat) : ∀ m : Int, 0 ≤ m → m ≤ ys.length → (ys.length : Int) - m = d → ∃ k, hatstandlaw1_PackRow.l1 k w is ys i x m = some true := by
  have ew : wrap64 (i + 1) = i + 1 := by unfold wrap64; omega
  induction d with
  | zero =>
    intro m h0 h1 hd
    obtain ⟨k, hk⟩ := hnext
    refine ⟨k + 1, ?_⟩
    simp only [hatstandlaw1_PackRow.l1]
    rw [if_neg (by omega), if_pos (by omega), ew, hk]
  | succ d ih =>
    intro m h0 h1 hd
    obtain ⟨k, hk⟩ := ih (m + 1) (by omega) (by omega) (by omega)
    refine ⟨k + 1, ?_⟩
    have em : wrap64 (m + 1) = m + 1 := by unfold wrap64; omega
    simp only [hatstandlaw1_PackRow.l1]
    rw [if_pos (by omega), if_pos h0, if_neg (hne m h0 (by omega)), em, hk]
theorem row_outer (w : Int) (is : List Int) (hl : is.length ≤ 200) (hw : ∀ x ∈ is, (Lit.int .u32 x).wf = true) (d : Nat) : ∀ (ys : List Int) (i : Int), 0 ≤ i → i ≤ is.length → (is.length : Int) - i = d → (ys.length : Int) = i + 1 →
    (∀ m : Int, 0 ≤ m → m < ys.length → tg (rd ys m) = (tg w + m) % 4294967296) → ∃ k, hatstandlaw1_PackRow.l0 k w is ys i = some true := by
  induction d with
  | zero =>
    intro ys i h0 h1 hd hy ht
    exact ⟨1, by simp only [hatstandlaw1_PackRow.l0]; rw [if_neg (by omega)]⟩
  | succ d ih =>
    intro ys i h0 h1 hd hy ht
    have hr := wf_u32 (hw _ (rd_mem (l := is) (i := i) h0 (by omega)))
    have hlast := ht i h0 (by omega)
    have htw : 0 ≤ tg w ∧ tg w < 4294967296 := by unfold tg; omega
    generalize hidx : rd is i = idx at hr
    generalize hx : idx + 4294967296 * ((tg (rd ys i) + 1) % 4294967296) = x
    have htx : tg x = (tg w + (i + 1)) % 4294967296 := by
      subst hx
      rw [hlast]
      unfold tg
      omega
    have e1 : wrap64 ((ys.length : Int) - 1) = i := by unfold wrap64; omega
    have hne : ∀ m : Int, 0 ≤ m → m < ys.length → rd ys m ≠ x := by
      intro m hm0 hm1 he
      have := ht m hm0 hm1
      rw [he, htx] at this
      omega
    have hnext := ih (ys ++ [x]) (i + 1) (by omega) (by omega) (by omega) (by simp; omega) (by
      intro m hm0 hm1
      by_cases h : m < ys.length
      · rw [rd_app_old _ _ h hm0]; exact ht m hm0 h
      · obtain rfl : m = (ys.length : Int) := by simp at hm1; omega
        rw [rd_app_new, htx]
        congr 1
        omega)
    obtain ⟨k, hk⟩ := row_inner w is ys i x (by omega) hne h0 (by omega) hnext ys.length 0 (by omega) (by omega) (by omega)
    refine ⟨k + 2, ?_⟩
    have hA : ∀ a b : Int, pack_Ahead.f a b = some ((tg b - tg a) % 4294967296) := fun a b => pack_ahead a b
    have hN : pack_Next.f (rd ys i) idx = some x := by rw [pack_next _ _ hr.1 hr.2, ← hx]; rfl
    simp only [hatstandlaw1_PackRow.l0]
    rw [if_pos (by omega), e1, if_pos h0, if_pos (by omega), if_pos h0, hidx, hN]
    simp only [bs, pack_Index.f]
    have ei : x % 4294967296 = idx := by rw [← hx]; omega
    rw [if_pos ei, hA]
    simp only [bs]
    rw [if_pos (by rw [htx, hlast]; omega), hA]
    simp only [bs]
    have e2 : wrap64 (i + 1) = i + 1 := by unfold wrap64; omega
    have e3 : (tg x - tg w) % 4294967296 = (i + 1) % 4294967296 := by rw [htx]; omega
    rw [e2, e3]
    simp only [bne_self_eq_false, hatstandlaw1_PackRow.j2, Bool.false_eq_true, if_false]
    exact hk
theorem PackRow : hatstandlaw1_PackRow.Pure := by
  intro a0 l1 w0 _ _ hw
  by_cases hl : (l1.length : Int) > 200
  · refine ⟨1, ?_⟩
    unfold hatstandlaw1_PackRow.f
    simp only [pack_shown, bs, if_true, hatstandlaw1_PackRow.j0]
    simp [hl]
  · obtain ⟨k, hk⟩ := row_outer a0 l1 (by omega) hw l1.length [a0] 0 (by omega) (by omega) (by omega) (by simp) (by
      intro m h0 h1
      obtain rfl : m = 0 := by simp at h1; omega
      show tg a0 = _
      unfold tg; omega)
    refine ⟨k + 1, ?_⟩
    unfold hatstandlaw1_PackRow.f
    simp only [pack_shown, bs, if_true, hatstandlaw1_PackRow.j0]
    rw [if_neg (by simp [hl])]
    exact hk
end Go.Proofs.Ytkamhidjofngdaa.Pure
