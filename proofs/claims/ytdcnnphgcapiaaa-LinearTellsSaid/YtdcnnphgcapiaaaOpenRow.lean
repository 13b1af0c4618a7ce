/- OpenRow: an argument that came in (a slice of numbers, of bools, of plain structs; a plain struct by value) is opened by its element's kind: a list of what its cells hold; for every reading. -/
import Derived.Test.YtdcnnphgcapiaaaWWords
import Derived.Deep.Slices
import Derived.SizedLaws
import Derived.ChangeOld
import Derived.ChangeArms
import Derived.WideShapes
set_option linter.unusedVariables false
namespace Go.Proofs.Ytdcnnphgcapiaaa.OpenRow
open Go.RowKit Go.Deep Go.WideShapes Go.Proofs.YtdcnnphgcapiaaaW.PrintWords

/-- What the cells of a value of type t read as, by its kind. -/
def Opens (P : Program) {α : Type} (t : TypeId) (d : Kd α) (ok : α → Prop) : Prop :=
  ∀ (H : Type) (enc : TypeId × Value → H) (w : World) (base : Nat) (spare : Nat → Bool) (held : Bool) (n : Nat) (cs : List Value) (x : DataW H × List MemPlace),
    DataW.trod enc P w base spare held n t cs = some x → ∃ a : α, d.K w a cs ∧ ok a
theorem opens_int {P : Program} {t : TypeId} {k : IntKind} (ht : P.underlying t = some (.int k)) : Opens P t (Kd.int k) (fun x => (Lit.int k x).wf = true) := by
  intro H enc w base spare held n cs x h
  obtain ⟨a, rfl, _, hw⟩ := DataW.trod_int ht h
  exact ⟨a, rfl, hw⟩
theorem opens_bool {P : Program} {t : TypeId} (ht : P.underlying t = some .bool) : Opens P t Kd.bool (fun _ => True) := by
  intro H enc w base spare held n cs x h
  obtain ⟨a, rfl, _⟩ := DataW.trod_bool ht h
  exact ⟨a, rfl, trivial⟩

section
variable {P : Program} {α : Type} {t e : TypeId} {d : Kd α} {ok : α → Prop} {H : Type} {enc : TypeId × Value → H} {w : World} {base : Nat} {spare : Nat → Bool} {held : Bool} {a : Option Addr} {len cap : Nat} {dd : DataW H} {ps : List MemPlace}
theorem open_row (z : α) (ht : P.underlying t = some (.slice e)) (hc : P.cellsOf e = d.sz) (ho : Opens P e d ok) (h : DataW.Trod enc P w base spare held t (.slice a len cap) dd ps) :
    ∃ l : List α, len = l.length ∧ l.length ≤ cap ∧ l.length ≤ maxLen ∧ d.C w a l.length l ∧ ∀ x ∈ l, ok x := by
  obtain ⟨fuel, hf⟩ := h
  rcases open_slice ht hf with ⟨hcs, _⟩ | ⟨x, l, c, m, n, D, Pl, hcs, hb, hl, hm, hmm, hx, hel⟩
  · simp [Value.cells] at hcs
    obtain ⟨rfl, rfl, rfl⟩ := hcs
    exact ⟨[], rfl, Nat.le_refl _, by simp, ⟨rfl, by simp, fun h => absurd h (by simp)⟩, by simp⟩
  · simp [Value.cells] at hcs
    obtain ⟨rfl, rfl, rfl⟩ := hcs
    have hle : len ≤ m := by rw [hmm]; split <;> omega
    haveI : Inhabited α := ⟨z⟩
    obtain ⟨f, hfx⟩ := choose_lt (α := α) (n := len) (p := fun i y => ∃ cs', w.cells? base (x.add (i * P.cellsOf e)) (P.cellsOf e) = some cs' ∧ d.K w y cs' ∧ ok y) (fun i hi => by
      obtain ⟨cs', h1, h2⟩ := hel i (by omega)
      obtain ⟨y, hy, hk⟩ := ho _ _ _ _ _ _ _ _ _ h2
      exact ⟨y, cs', h1, hy, hk⟩)
    refine ⟨(List.range len).map f, by simp, by simpa using hl, by simp; omega, ⟨by simp, by simp; unfold maxLen at hm; omega, fun _ => ⟨x, rfl, fun j p hj => ?_⟩⟩, fun y hy => ?_⟩
    · simp only [List.getElem?_map, Option.map_eq_some_iff] at hj
      obtain ⟨j', hj', rfl⟩ := hj
      obtain ⟨hjl, hj2⟩ := List.getElem?_eq_some_iff.1 hj'
      simp only [List.length_range] at hjl
      obtain rfl : j = j' := by simpa using hj2
      obtain ⟨cs', h1, hK, _⟩ := hfx j hjl
      obtain ⟨_, hlen, hcell⟩ := World.cells?_some h1
      refine ⟨cs', by rw [hlen, hc], hK, fun i u hu => ?_⟩
      have hi : i < cs'.length := (List.getElem?_eq_some_iff.1 hu).1
      have h3 := hcell i (by omega)
      rw [Deep.add_add, hc] at h3
      rw [h3, hu]
    · simp only [List.mem_map, List.mem_range] at hy
      obtain ⟨i, hi, rfl⟩ := hy
      exact (hfx i hi).choose_spec.2.2
theorem sized_row {ts : List TypeId} {ds : List (DataW H)} {j : Nat} (hsz : (DataW.weightsEach P ts ds).all (· ≤ reachBytes) = true) (hj : ts[j]? = some t) (hd : ds[j]? = some dd) (hu : P.underlying t = some (.slice e)) {B : Nat} (hB : P.bytesOf e = B)
    (h : DataW.Trod enc P w base spare held t (.slice a len cap) dd ps) : len * B ≤ 140737488351232 := by
  obtain ⟨fuel, hf⟩ := h
  rcases open_slice hu hf with ⟨hcs, _⟩ | ⟨x, l, c, m, n, D, Pl, hcs, hb, hl, hm, hmm, hx, hel⟩
  · simp [Value.cells] at hcs
    obtain ⟨rfl, rfl, rfl⟩ := hcs
    simp
  · simp [Value.cells] at hcs
    obtain ⟨rfl, rfl, rfl⟩ := hcs
    obtain ⟨hx, _⟩ := Prod.mk.inj hx
    subst hx
    have z := sized_slice hsz hj hd hu
    rw [hB] at z
    simp only [List.length_map, List.length_range] at z
    exact Nat.le_trans (Nat.mul_le_mul_right _ (by omega)) z
theorem open_struct {r : Reach} {b0 : Nat} {fs : Array Field} {v : Value} (ht : P.underlying t = some (.struct fs)) (ho : Opens P t d ok) (hv : Value.okWide P w r b0 t v) (h : DataW.Trod enc P w base spare held t v dd ps) :
    ∃ (x : α) (cs : Array Value), v = .agg cs ∧ d.K w x cs.toList ∧ ok x := by
  obtain ⟨cs, rfl, _⟩ := okWide_struct ht hv
  obtain ⟨fuel, hf⟩ := h
  obtain ⟨x, hk, hok⟩ := ho _ _ _ _ _ _ _ _ _ hf
  exact ⟨x, cs, rfl, by simpa [Value.cells] using hk, hok⟩
end
end Go.Proofs.Ytdcnnphgcapiaaa.OpenRow
