/- The row of the law HistoryCuts: for every input the Go function returns true and leaves its arguments as they were; out of the walk and the plain law. -/
import Derived.Test.YtmdjmfbinjnlcaaRows
import Derived.Test.YtmdjmfbinjnlcaaLCuts
import Derived.Test.YtmdjmfbinjnlcaaOpenRow
import Derived.WalkKit
import Derived.ProofKit
import Derived.OpenShut
import Derived.ShutString
import Derived.ChangeOld
import Derived.Below
import Derived.SizedLaws
namespace Go.Proofs.Ytmdjmfbinjnlcaa.historyCuts
open Go.ChangeShapes Go.WideShapes Go.ChangeAt Go.RowKit
open Go.ChangeMaps (open_string shut_string)
open Go.Proofs.Ytmdjmfbinjnlcaa.P Go.Proofs.YtmdjmfbinjnlcaaW.PrintWords
set_option linter.unusedVariables false
theorem own : ownKnob Try.prog.godebug = none := by kernel_rfl
theorem laidOut : laidOutB Try.prog = true := by kernel_rfl
theorem opens_61 : OpenRow.Opens Try.prog 61 k61 (fun x => (Lit.int .i64 x.f0).wf = true ∧ (Lit.int .i64 x.f1).wf = true ∧ (Lit.int .u64 x.f3).wf = true) := by
  intro H enc w base spare held n cs x h
  obtain ⟨xs, n', _, _, hl, hlen, hf⟩ := DataW.trod_struct Try.underlying61 h
  obtain ⟨c0, c1, c2, c3, rfl⟩ : ∃ c0 c1 c2 c3, cs = [c0, c1, c2, c3] := by
    have h2 : cs.length = 4 := hl.trans (by kernel_rfl)
    match cs, h2 with
    | [c0, c1, c2, c3], _ => exact ⟨c0, c1, c2, c3, rfl⟩
  have h3 : xs.length = 4 := hlen
  have g0 := hf 0 _ rfl
  rw [List.getElem?_eq_getElem (by omega)] at g0
  have e0 : (Try.prog.cellsOf 3) = 1 := by kernel_rfl
  simp [e0] at g0
  obtain ⟨v0, hv0, _, w0⟩ := DataW.trod_int Try.underlying3 g0
  obtain rfl : c0 = _ := (List.cons.inj hv0).1
  have g1 := hf 1 _ rfl
  rw [List.getElem?_eq_getElem (by omega)] at g1
  have e1 : (Try.prog.cellsOf 3) = 1 := by kernel_rfl
  simp [e1] at g1
  obtain ⟨v1, hv1, _, w1⟩ := DataW.trod_int Try.underlying3 g1
  obtain rfl : c1 = _ := (List.cons.inj hv1).1
  have g2 := hf 2 _ rfl
  rw [List.getElem?_eq_getElem (by omega)] at g2
  have e2 : (Try.prog.cellsOf 4) = 1 := by kernel_rfl
  simp [e2] at g2
  obtain ⟨v2, hv2, _⟩ := DataW.trod_bool Try.underlying4 g2
  obtain rfl : c2 = _ := (List.cons.inj hv2).1
  have g3 := hf 3 _ rfl
  rw [List.getElem?_eq_getElem (by omega)] at g3
  have e3 : (Try.prog.cellsOf 42) = 1 := by kernel_rfl
  simp [e3] at g3
  obtain ⟨v3, hv3, _, w3⟩ := DataW.trod_int Try.underlying42 g3
  obtain rfl : c3 = _ := (List.cons.inj hv3).1
  exact ⟨⟨v0, v1, v2, v3⟩, k61_mk w _, ⟨w0, w1, w3⟩⟩
set_option maxRecDepth 100000 in
theorem lifted (os : Os) (started : os.Started) (H : Type) (enc : TypeId × Value → H) :
    ReturnsInHanded {} Try.checked os 6 .any (Rows.historyCutsSpec.pre6 enc Try.prog Try.f6 Rows.historyCutsRow.domain false) (Rows.historyCutsSpec.post enc Try.prog Try.f6 false true false false) := by
  refine returnsInHanded_of_change_sized (C := Try.checked) own started (by kernel_rfl) Try.func6
    (ChangeSpec.witness6 (enc := enc) (C := Try.checked) false ⟨#[], #[.slice none 0 0, .int .i64 0], []⟩ 8 (by kernel_rfl) (by kernel_rfl) (by kernel_rfl) (by kernel_rfl)) ?_
  intro W base args ds gs before hval0 hW hcnd hsz0 _
  have hsz : (DataW.weightsEach Try.prog (Try.f6.params.toList ++ Rows.historyCutsSpec.plain.varTypes Try.prog) (ds ++ gs)).all (· ≤ reachBytes) = true := hsz0
  have hval : ∀ (j : Nat) t v, Try.f6.params[j]? = some t → args[j]? = some v → Value.okWide Try.prog W .any base t v := hval0
  have hW' := hW
  obtain ⟨p, q, hA0, hV, rfl, hfz, hnd⟩ := hW
  have hA : DataW.TrodAll enc Try.prog W 0 (fun _ => true) true Try.f6.params.toList args.toList ds p := hA0
  rw [Try.params6] at hA hval hsz
  obtain ⟨v0, vs0, d0, ds0, p0, q0, hargs, rfl, rfl, h0, r0⟩ := trodAll_cons hA
  obtain ⟨v1, vs1, d1, ds1, p1, q1, rfl, rfl, rfl, h1, r1⟩ := trodAll_cons r0
  obtain ⟨rfl, rfl, rfl⟩ := trodAll_nil r1
  obtain rfl : args = #[v0, v1] := by cases args; simp_all
  obtain ⟨rfl, rfl⟩ := trodVars_none hV
  have k0 := h0
  have lt0 : ∀ x ∈ p0, x.block < W.heap.size := by obtain ⟨m, hm⟩ := k0; exact DataW.trod_lt m _ _ _ hm
  obtain ⟨A0, len0, c0, rfl⟩ := okWide_slice Try.underlying39 (hval 0 39 v0 rfl rfl)
  have y0 := OpenRow.sized_row hsz (j := 0) (t := 39) rfl rfl Try.underlying39 (B := 32) (by kernel_rfl) k0
  obtain ⟨l0, rfl, hc0, hm0, hr0, hw0⟩ := OpenRow.open_row (z61) Try.underlying39 (by kernel_rfl) opens_61 k0
  obtain ⟨a1, rfl, rfl, rfl, hw1⟩ := open_int Try.underlying3 (hval 1 3 v1 rfl rfl) h1
  clear hA0 hval0 hsz0 hsz
  refine (cuts_walk A0 c0 l0 a1 W hr0 hc0 hm0 y0 hw0 hw1).mono fun e W' ⟨he, bel⟩ => ?_
  subst he
  exact ⟨_, rfl, _, _, _, [], _, [], hW', trodAll_mk1 (shut_bool Try.underlying4 _), (trodAll_cons_mk (Below.trod laidOut (by kernel_rfl) (of_decide_eq_true (by kernel_rfl)) k0 bel lt0) (trodAll_cons_mk (shut_int Try.underlying3 hw1) trodAll_mk0)), rfl, bel.frame _, fun h => by cases h⟩
theorem over : Rows.historyCutsRow.holds Try.pinned (OpenSpec.ofChange Rows.historyCutsSpec) :=
  OpenClaim.holds_of_wide 6 Try.f6 rfl rfl rfl rfl rfl rfl rfl ⟨rfl, rfl, rfl, rfl, rfl⟩ rfl rfl rfl rfl rfl (by kernel_rfl) Try.func6 (by kernel_rfl)
    (of_decide_eq_true (by kernel_rfl)) (by unfold Func.isWrapper; first | (rw [if_pos (by decide +kernel)]; kernel_rfl) | (rw [if_neg (by decide +kernel)]; exact ⟨rfl, rfl⟩))
    (fun os started H enc _ => lifted os started H enc)
theorem proved : Rows.HistoryCutsSaid := over
#print axioms proved
end Go.Proofs.Ytmdjmfbinjnlcaa.historyCuts
namespace Go.Proofs.Ytmdjmfbinjnlcaa
/-- The row, under a short name, for the claim. -/
theorem historyCuts_holds : Rows.HistoryCutsSaid := historyCuts.proved
end Go.Proofs.Ytmdjmfbinjnlcaa
