/-
  No cell of these rows narrows 'for every input' (looked for: loops, veiled, ifaces, maps, wideKeys, modest, calm, conditions, laid).
  DERIVED. THE GIVEN ROWS OF THIS SEAT. 6 by the template 'for every input the law returns true; each argument reads behind the call as it read before'; 0 by the template 'total and deterministic' (their statements: YtbcbmpklehobcaaTotals.lean).
  GIVEN WITH THE SEED: the statements are not yours to turn. If you find one false, say at which input.
  Laid BY PROGRAM, IN A SANDBOX (cutbox-rows.mjs): the forced cells as the released guide's own fill.sh prints them over the translation f7ada9b7df4f0833… (all of the seat's roots in one cut). By AI agents, Wed Nov 11 2026. No macro, syntax, notation, axiom, sorry.
-/
import Derived.Test.YtbcbmpklehobcaaChecked
import GoSem.Claim
import GoSem.ClaimJoined
import GoSem.ClaimMapViews
import Derived.JoinedTies
import Derived.KernelRfl
namespace Go.Proofs.Ytbcbmpklehobcaa
/- THE CELL 'sum', in the pinned program and in every row, IS THE sha256 OF THE DUMP (.gsa) THAT YtbcbmpklehobcaaProg.lean LOADS. Nothing in Lean hashes anything: it is a label: what it is worth is what the hold of that sum in a sandbox is worth. -/
noncomputable def Try.pinned : Pinned := { name := "ytbcbmpklehobcaa", sum := "f7ada9b7df4f0833064a8bc07fbd494ce24ad8ac69c37f4508b8a1a46eaaad2f", checked := Try.checked }
namespace Rows
def none {H : Type} : Left H := { results := [], args := [] }

/-- 'hatstandlaw11.PolicyLeads': WHATEVER THE INPUT: true; the input reads as it did. -/
def policyLeadsSpec : ChangeSpec := { name := "policyLeads", fn := fun _ => fun
  | [d1, d2] => { results := [.lit (.bool true)], args := [d1, d2] }
  | _ => none }
def policyLeadsRow : OpenClaim := { program := "ytbcbmpklehobcaa", sum := "f7ada9b7df4f0833064a8bc07fbd494ce24ad8ac69c37f4508b8a1a46eaaad2f", func := "hatstand/hatstandlaw11.PolicyLeads", spec := "policyLeads", apart := false }
def PolicyLeadsSaid : Prop := policyLeadsRow.holds Try.pinned (OpenSpec.ofChange policyLeadsSpec)

/-- ITS FALSE NEIGHBOUR: 'it returns false'. Refute it at one input. -/
def policyLeadsWrong : ChangeSpec := { name := "policyLeads", fn := fun _ => fun
  | [d1, d2] => { results := [.lit (.bool false)], args := [d1, d2] }
  | _ => none }
def PolicyLeadsWrongFalsely : Prop := policyLeadsRow.holds Try.pinned (OpenSpec.ofChange policyLeadsWrong)

/-- 'hatstandlaw11.PolicyUndoes': WHATEVER THE INPUT: true; the input reads as it did. -/
def policyUndoesSpec : ChangeSpec := { name := "policyUndoes", fn := fun _ => fun
  | [d1, d2] => { results := [.lit (.bool true)], args := [d1, d2] }
  | _ => none }
def policyUndoesRow : OpenClaim := { program := "ytbcbmpklehobcaa", sum := "f7ada9b7df4f0833064a8bc07fbd494ce24ad8ac69c37f4508b8a1a46eaaad2f", func := "hatstand/hatstandlaw11.PolicyUndoes", spec := "policyUndoes", apart := false }
def PolicyUndoesSaid : Prop := policyUndoesRow.holds Try.pinned (OpenSpec.ofChange policyUndoesSpec)

/-- ITS FALSE NEIGHBOUR: 'it returns false'. Refute it at one input. -/
def policyUndoesWrong : ChangeSpec := { name := "policyUndoes", fn := fun _ => fun
  | [d1, d2] => { results := [.lit (.bool false)], args := [d1, d2] }
  | _ => none }
def PolicyUndoesWrongFalsely : Prop := policyUndoesRow.holds Try.pinned (OpenSpec.ofChange policyUndoesWrong)

/-- 'hatstandlaw11.PolicyRest': WHATEVER THE INPUT: true; the input reads as it did. -/
def policyRestSpec : ChangeSpec := { name := "policyRest", fn := fun _ => fun
  | [d1, d2, d3] => { results := [.lit (.bool true)], args := [d1, d2, d3] }
  | _ => none }
def policyRestRow : OpenClaim := { program := "ytbcbmpklehobcaa", sum := "f7ada9b7df4f0833064a8bc07fbd494ce24ad8ac69c37f4508b8a1a46eaaad2f", func := "hatstand/hatstandlaw11.PolicyRest", spec := "policyRest", apart := false }
def PolicyRestSaid : Prop := policyRestRow.holds Try.pinned (OpenSpec.ofChange policyRestSpec)

/-- ITS FALSE NEIGHBOUR: 'it returns false'. Refute it at one input. -/
def policyRestWrong : ChangeSpec := { name := "policyRest", fn := fun _ => fun
  | [d1, d2, d3] => { results := [.lit (.bool false)], args := [d1, d2, d3] }
  | _ => none }
def PolicyRestWrongFalsely : Prop := policyRestRow.holds Try.pinned (OpenSpec.ofChange policyRestWrong)

/-- 'hatstandlaw11.PolicyWaits': WHATEVER THE INPUT: true; the input reads as it did. -/
def policyWaitsSpec : ChangeSpec := { name := "policyWaits", fn := fun _ => fun
  | [d1, d2, d3, d4] => { results := [.lit (.bool true)], args := [d1, d2, d3, d4] }
  | _ => none }
def policyWaitsRow : OpenClaim := { program := "ytbcbmpklehobcaa", sum := "f7ada9b7df4f0833064a8bc07fbd494ce24ad8ac69c37f4508b8a1a46eaaad2f", func := "hatstand/hatstandlaw11.PolicyWaits", spec := "policyWaits", apart := false }
def PolicyWaitsSaid : Prop := policyWaitsRow.holds Try.pinned (OpenSpec.ofChange policyWaitsSpec)

/-- ITS FALSE NEIGHBOUR: 'it returns false'. Refute it at one input. -/
def policyWaitsWrong : ChangeSpec := { name := "policyWaits", fn := fun _ => fun
  | [d1, d2, d3, d4] => { results := [.lit (.bool false)], args := [d1, d2, d3, d4] }
  | _ => none }
def PolicyWaitsWrongFalsely : Prop := policyWaitsRow.holds Try.pinned (OpenSpec.ofChange policyWaitsWrong)

/-- 'hatstandlaw11.PolicyTells': WHATEVER THE INPUT: true; the input reads as it did. -/
def policyTellsSpec : ChangeSpec := { name := "policyTells", fn := fun _ => fun
  | [d1, d2, d3, d4] => { results := [.lit (.bool true)], args := [d1, d2, d3, d4] }
  | _ => none }
def policyTellsRow : OpenClaim := { program := "ytbcbmpklehobcaa", sum := "f7ada9b7df4f0833064a8bc07fbd494ce24ad8ac69c37f4508b8a1a46eaaad2f", func := "hatstand/hatstandlaw11.PolicyTells", spec := "policyTells", apart := false }
def PolicyTellsSaid : Prop := policyTellsRow.holds Try.pinned (OpenSpec.ofChange policyTellsSpec)

/-- ITS FALSE NEIGHBOUR: 'it returns false'. Refute it at one input. -/
def policyTellsWrong : ChangeSpec := { name := "policyTells", fn := fun _ => fun
  | [d1, d2, d3, d4] => { results := [.lit (.bool false)], args := [d1, d2, d3, d4] }
  | _ => none }
def PolicyTellsWrongFalsely : Prop := policyTellsRow.holds Try.pinned (OpenSpec.ofChange policyTellsWrong)

/-- 'hatstandlaw11.PolicyStays': WHATEVER THE INPUT: true; the input reads as it did. -/
def policyStaysSpec : ChangeSpec := { name := "policyStays", fn := fun _ => fun
  | [d1, d2, d3] => { results := [.lit (.bool true)], args := [d1, d2, d3] }
  | _ => none }
def policyStaysRow : OpenClaim := { program := "ytbcbmpklehobcaa", sum := "f7ada9b7df4f0833064a8bc07fbd494ce24ad8ac69c37f4508b8a1a46eaaad2f", func := "hatstand/hatstandlaw11.PolicyStays", spec := "policyStays", apart := false }
def PolicyStaysSaid : Prop := policyStaysRow.holds Try.pinned (OpenSpec.ofChange policyStaysSpec)

/-- ITS FALSE NEIGHBOUR: 'it returns false'. Refute it at one input. -/
def policyStaysWrong : ChangeSpec := { name := "policyStays", fn := fun _ => fun
  | [d1, d2, d3] => { results := [.lit (.bool false)], args := [d1, d2, d3] }
  | _ => none }
def PolicyStaysWrongFalsely : Prop := policyStaysRow.holds Try.pinned (OpenSpec.ofChange policyStaysWrong)

/- THE SECOND FORM. 'bulk': how many values and letters a reading holds, each counted each time it is reached (what is shared counts as often as it is met; a slice's spare places count too). A statement '..UptoSaid' is the law's where the arguments, and the package variables that the reading takes, are together of bulk at most 1048576: NARROWER than '..Said'. Prove '..Said' where nothing that the law and all that it calls make is longer than what came in: it says more and counts as full. Else prove '..UptoSaid'. A law counts once. -/
mutual
def uptoBulk {H : Type} : DataW H → Nat
  | .lit (.string bytes) => bytes.length + 1
  | .lit _ => 1
  | .nil => 1
  | .ptr d => uptoBulk d + 1
  | .slice elems spare => uptoBulkAll elems + uptoBulkAll spare + 1
  | .agg parts => uptoBulkAll parts + 1
  | .iface _ d => uptoBulk d + 1
  | .map entries => uptoBulkEntries entries + 1
  | .held _ => 1
def uptoBulkAll {H : Type} : List (DataW H) → Nat
  | [] => 0
  | d :: r => uptoBulk d + uptoBulkAll r
def uptoBulkEntries {H : Type} : List (Lit × DataW H) → Nat
  | [] => 0
  | x :: r => uptoBulkEntry x + uptoBulkEntries r
def uptoBulkEntry {H : Type} : Lit × DataW H → Nat
  | (.string bytes, d) => bytes.length + uptoBulk d + 1
  | (_, d) => uptoBulk d + 1
 end
def uptoSmall : (H : Type) → List (DataW H) → Bool := fun _ ds => decide (uptoBulkAll ds ≤ 1048576)
def OpenSpec.upto (s : _root_.Go.ChangeSpec) : _root_.Go.OpenSpec := { _root_.Go.OpenSpec.ofChange s with cond := some uptoSmall }

/-- 'hatstandlaw11.PolicyLeads', WHERE WHAT IT READS IS OF BULK AT MOST 1048576: true; the input reads as it did. -/
def policyLeadsUptoRow : OpenClaim := { program := "ytbcbmpklehobcaa", sum := "f7ada9b7df4f0833064a8bc07fbd494ce24ad8ac69c37f4508b8a1a46eaaad2f", func := "hatstand/hatstandlaw11.PolicyLeads", spec := "policyLeads", apart := false, narrowed := true }
def PolicyLeadsUptoSaid : Prop := policyLeadsUptoRow.holds Try.pinned (OpenSpec.upto policyLeadsSpec)

/-- 'hatstandlaw11.PolicyUndoes', WHERE WHAT IT READS IS OF BULK AT MOST 1048576: true; the input reads as it did. -/
def policyUndoesUptoRow : OpenClaim := { program := "ytbcbmpklehobcaa", sum := "f7ada9b7df4f0833064a8bc07fbd494ce24ad8ac69c37f4508b8a1a46eaaad2f", func := "hatstand/hatstandlaw11.PolicyUndoes", spec := "policyUndoes", apart := false, narrowed := true }
def PolicyUndoesUptoSaid : Prop := policyUndoesUptoRow.holds Try.pinned (OpenSpec.upto policyUndoesSpec)

/-- 'hatstandlaw11.PolicyRest', WHERE WHAT IT READS IS OF BULK AT MOST 1048576: true; the input reads as it did. -/
def policyRestUptoRow : OpenClaim := { program := "ytbcbmpklehobcaa", sum := "f7ada9b7df4f0833064a8bc07fbd494ce24ad8ac69c37f4508b8a1a46eaaad2f", func := "hatstand/hatstandlaw11.PolicyRest", spec := "policyRest", apart := false, narrowed := true }
def PolicyRestUptoSaid : Prop := policyRestUptoRow.holds Try.pinned (OpenSpec.upto policyRestSpec)

/-- 'hatstandlaw11.PolicyWaits', WHERE WHAT IT READS IS OF BULK AT MOST 1048576: true; the input reads as it did. -/
def policyWaitsUptoRow : OpenClaim := { program := "ytbcbmpklehobcaa", sum := "f7ada9b7df4f0833064a8bc07fbd494ce24ad8ac69c37f4508b8a1a46eaaad2f", func := "hatstand/hatstandlaw11.PolicyWaits", spec := "policyWaits", apart := false, narrowed := true }
def PolicyWaitsUptoSaid : Prop := policyWaitsUptoRow.holds Try.pinned (OpenSpec.upto policyWaitsSpec)

/-- 'hatstandlaw11.PolicyTells', WHERE WHAT IT READS IS OF BULK AT MOST 1048576: true; the input reads as it did. -/
def policyTellsUptoRow : OpenClaim := { program := "ytbcbmpklehobcaa", sum := "f7ada9b7df4f0833064a8bc07fbd494ce24ad8ac69c37f4508b8a1a46eaaad2f", func := "hatstand/hatstandlaw11.PolicyTells", spec := "policyTells", apart := false, narrowed := true }
def PolicyTellsUptoSaid : Prop := policyTellsUptoRow.holds Try.pinned (OpenSpec.upto policyTellsSpec)

/-- 'hatstandlaw11.PolicyStays', WHERE WHAT IT READS IS OF BULK AT MOST 1048576: true; the input reads as it did. -/
def policyStaysUptoRow : OpenClaim := { program := "ytbcbmpklehobcaa", sum := "f7ada9b7df4f0833064a8bc07fbd494ce24ad8ac69c37f4508b8a1a46eaaad2f", func := "hatstand/hatstandlaw11.PolicyStays", spec := "policyStays", apart := false, narrowed := true }
def PolicyStaysUptoSaid : Prop := policyStaysUptoRow.holds Try.pinned (OpenSpec.upto policyStaysSpec)

end Rows
end Go.Proofs.Ytbcbmpklehobcaa
