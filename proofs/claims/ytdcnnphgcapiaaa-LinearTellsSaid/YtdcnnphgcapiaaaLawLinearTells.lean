/- The row of the law LinearTells: for every input the Go function returns true and leaves its arguments as they were; out of the walk and the plain law. -/
import Derived.Test.YtdcnnphgcapiaaaRows
import Derived.Test.YtdcnnphgcapiaaaPx23
import Derived.Test.YtdcnnphgcapiaaaPureLinearTells
import Derived.Test.YtdcnnphgcapiaaaOpenRow
import Derived.WalkKit
import Derived.ProofKit
import Derived.OpenShut
import Derived.ShutString
import Derived.ChangeOld
import Derived.Below
import Derived.SizedLaws
namespace Go.Proofs.Ytdcnnphgcapiaaa.linearTells
open Go.ChangeShapes Go.WideShapes Go.ChangeAt Go.RowKit
open Go.ChangeMaps (open_string shut_string)
open Go.Proofs.Ytdcnnphgcapiaaa.P Go.Proofs.YtdcnnphgcapiaaaW.PrintWords
set_option linter.unusedVariables false
theorem own : ownKnob Try.prog.godebug = none := by kernel_rfl
theorem laidOut : laidOutB Try.prog = true := by kernel_rfl
theorem opens_30 : OpenRow.Opens Try.prog 30 k30 (fun x => (Lit.int .i64 x.f0).wf = true ∧ (Lit.int .u64 x.f2).wf = true ∧ (Lit.int .i64 x.f3).wf = true ∧ (Lit.int .i64 x.f4).wf = true ∧ (Lit.int .i64 x.f5).wf = true) := by
  intro H enc w base spare held n cs x h
  obtain ⟨xs, n', _, _, hl, hlen, hf⟩ := DataW.trod_struct Try.underlying30 h
  obtain ⟨c0, c1, c2, c3, c4, c5, rfl⟩ : ∃ c0 c1 c2 c3 c4 c5, cs = [c0, c1, c2, c3, c4, c5] := by
    have h2 : cs.length = 6 := hl.trans (by kernel_rfl)
    match cs, h2 with
    | [c0, c1, c2, c3, c4, c5], _ => exact ⟨c0, c1, c2, c3, c4, c5, rfl⟩
  have h3 : xs.length = 6 := hlen
  have g0 := hf 0 _ rfl
  rw [List.getElem?_eq_getElem (by omega)] at g0
  have e0 : (Try.prog.cellsOf 3) = 1 := by kernel_rfl
  simp [e0] at g0
  obtain ⟨v0, hv0, _, w0⟩ := DataW.trod_int Try.underlying3 g0
  obtain rfl : c0 = _ := (List.cons.inj hv0).1
  have g1 := hf 1 _ rfl
  rw [List.getElem?_eq_getElem (by omega)] at g1
  have e1 : (Try.prog.cellsOf 4) = 1 := by kernel_rfl
  simp [e1] at g1
  obtain ⟨v1, hv1, _⟩ := DataW.trod_bool Try.underlying4 g1
  obtain rfl : c1 = _ := (List.cons.inj hv1).1
  have g2 := hf 2 _ rfl
  rw [List.getElem?_eq_getElem (by omega)] at g2
  have e2 : (Try.prog.cellsOf 27) = 1 := by kernel_rfl
  simp [e2] at g2
  obtain ⟨v2, hv2, _, w2⟩ := DataW.trod_int Try.underlying27 g2
  obtain rfl : c2 = _ := (List.cons.inj hv2).1
  have g3 := hf 3 _ rfl
  rw [List.getElem?_eq_getElem (by omega)] at g3
  have e3 : (Try.prog.cellsOf 28) = 1 := by kernel_rfl
  simp [e3] at g3
  obtain ⟨v3, hv3, _, w3⟩ := DataW.trod_int Try.underlying28 g3
  obtain rfl : c3 = _ := (List.cons.inj hv3).1
  have g4 := hf 4 _ rfl
  rw [List.getElem?_eq_getElem (by omega)] at g4
  have e4 : (Try.prog.cellsOf 3) = 1 := by kernel_rfl
  simp [e4] at g4
  obtain ⟨v4, hv4, _, w4⟩ := DataW.trod_int Try.underlying3 g4
  obtain rfl : c4 = _ := (List.cons.inj hv4).1
  have g5 := hf 5 _ rfl
  rw [List.getElem?_eq_getElem (by omega)] at g5
  have e5 : (Try.prog.cellsOf 3) = 1 := by kernel_rfl
  simp [e5] at g5
  obtain ⟨v5, hv5, _, w5⟩ := DataW.trod_int Try.underlying3 g5
  obtain rfl : c5 = _ := (List.cons.inj hv5).1
  exact ⟨⟨v0, v1, v2, v3, v4, v5⟩, k30_mk w _, ⟨w0, w2, w3, w4, w5⟩⟩
set_option maxRecDepth 100000 in
theorem lifted (os : Os) (started : os.Started) (H : Type) (enc : TypeId × Value → H) :
    ReturnsInHanded {} Try.checked os 5 .any (Rows.linearTellsSpec.pre6 enc Try.prog Try.f5 Rows.linearTellsRow.domain false) (Rows.linearTellsSpec.post enc Try.prog Try.f5 false true false false) := by
  refine returnsInHanded_of_change_sized (C := Try.checked) own started (by kernel_rfl) Try.func5
    (ChangeSpec.witness6 (enc := enc) (C := Try.checked) false ⟨#[], #[.slice none 0 0, .int .i64 0, .slice none 0 0], []⟩ 8 (by kernel_rfl) (by kernel_rfl) (by kernel_rfl) (by kernel_rfl)) ?_
  intro W base args ds gs before hval0 hW hcnd hsz0 _
  have hsz : (DataW.weightsEach Try.prog (Try.f5.params.toList ++ Rows.linearTellsSpec.plain.varTypes Try.prog) (ds ++ gs)).all (· ≤ reachBytes) = true := hsz0
  have hval : ∀ (j : Nat) t v, Try.f5.params[j]? = some t → args[j]? = some v → Value.okWide Try.prog W .any base t v := hval0
  have hW' := hW
  obtain ⟨p, q, hA0, hV, rfl, hfz, hnd⟩ := hW
  have hA : DataW.TrodAll enc Try.prog W 0 (fun _ => true) true Try.f5.params.toList args.toList ds p := hA0
  rw [Try.params5] at hA hval hsz
  obtain ⟨v0, vs0, d0, ds0, p0, q0, hargs, rfl, rfl, h0, r0⟩ := trodAll_cons hA
  obtain ⟨v1, vs1, d1, ds1, p1, q1, rfl, rfl, rfl, h1, r1⟩ := trodAll_cons r0
  obtain ⟨v2, vs2, d2, ds2, p2, q2, rfl, rfl, rfl, h2, r2⟩ := trodAll_cons r1
  obtain ⟨rfl, rfl, rfl⟩ := trodAll_nil r2
  obtain rfl : args = #[v0, v1, v2] := by cases args; simp_all
  obtain ⟨rfl, rfl⟩ := trodVars_none hV
  have k0 := h0
  have lt0 : ∀ x ∈ p0, x.block < W.heap.size := by obtain ⟨m, hm⟩ := k0; exact DataW.trod_lt m _ _ _ hm
  obtain ⟨A0, len0, c0, rfl⟩ := okWide_slice Try.underlying25 (hval 0 25 v0 rfl rfl)
  have y0 := OpenRow.sized_row hsz (j := 0) (t := 25) rfl rfl Try.underlying25 (B := 48) (by kernel_rfl) k0
  obtain ⟨l0, rfl, hc0, hm0, hr0, hw0⟩ := OpenRow.open_row (z30) Try.underlying25 (by kernel_rfl) opens_30 k0
  obtain ⟨a1, rfl, rfl, rfl, hw1⟩ := open_int Try.underlying3 (hval 1 3 v1 rfl rfl) h1
  have k2 := h2
  have lt2 : ∀ x ∈ p2, x.block < W.heap.size := by obtain ⟨m, hm⟩ := k2; exact DataW.trod_lt m _ _ _ hm
  obtain ⟨A2, len2, c2, rfl⟩ := okWide_slice Try.underlying31 (hval 2 31 v2 rfl rfl)
  have y2 := OpenRow.sized_row hsz (j := 2) (t := 31) rfl rfl Try.underlying31 (B := 8) (by kernel_rfl) k2
  obtain ⟨l2, rfl, hc2, hm2, hr2, hw2⟩ := OpenRow.open_row (0) Try.underlying31 (by kernel_rfl) (OpenRow.opens_int Try.underlying3) k2
  clear hA0 hval0 hsz0 hsz
  refine (hatstandlaw15_LinearTells.walk Pure.LinearTells A0 c0 l0 a1 A2 c2 l2 W hr0 hc0 hr2 hc2 hm0 y0 hw0 hw1 hm2 y2 hw2).mono fun e W' ⟨he, bel⟩ => ?_
  subst he
  exact ⟨_, rfl, _, _, _, [], _, [], hW', trodAll_mk1 (shut_bool Try.underlying4 _), (trodAll_cons_mk (Below.trod laidOut (by kernel_rfl) (of_decide_eq_true (by kernel_rfl)) k0 bel lt0) (trodAll_cons_mk (shut_int Try.underlying3 hw1) (trodAll_cons_mk (Below.trod laidOut (by kernel_rfl) (of_decide_eq_true (by kernel_rfl)) k2 bel lt2) trodAll_mk0))), rfl, bel.frame _, fun h => by cases h⟩
theorem over : Rows.linearTellsRow.holds Try.pinned (OpenSpec.ofChange Rows.linearTellsSpec) :=
  OpenClaim.holds_of_wide 5 Try.f5 rfl rfl rfl rfl rfl rfl rfl ⟨rfl, rfl, rfl, rfl, rfl⟩ rfl rfl rfl rfl rfl (by kernel_rfl) Try.func5 (by kernel_rfl)
    (of_decide_eq_true (by kernel_rfl)) (by unfold Func.isWrapper; first | (rw [if_pos (by decide +kernel)]; kernel_rfl) | (rw [if_neg (by decide +kernel)]; exact ⟨rfl, rfl⟩))
    (fun os started H enc _ => lifted os started H enc)
theorem proved : Rows.LinearTellsSaid := over
#print axioms proved
end Go.Proofs.Ytdcnnphgcapiaaa.linearTells
namespace Go.Proofs.Ytdcnnphgcapiaaa
/-- The row, under a short name, for the claim. -/
theorem linearTells_holds : Rows.LinearTellsSaid := linearTells.proved
end Go.Proofs.Ytdcnnphgcapiaaa
