/-
  No cell of these rows narrows 'for every input' (looked for: loops, veiled, ifaces, maps, wideKeys, modest, calm, conditions, laid).
  DERIVED. THE GIVEN ROWS OF THIS SEAT. 6 by the template 'for every input the law returns true; each argument reads behind the call as it read before'; 0 by the template 'total and deterministic' (their statements: YtmdjmfbinjnlcaaTotals.lean).
  GIVEN WITH THE SEED: the statements are not yours to turn. If you find one false, say at which input.
  Laid BY PROGRAM, IN A SANDBOX (cutbox-rows.mjs): the forced cells as the released guide's own fill.sh prints them over the translation 27930373c26516a6… (all of the seat's roots in one cut). By AI agents, Wed Nov 11 2026. No macro, syntax, notation, axiom, sorry.
-/
import Derived.Test.YtmdjmfbinjnlcaaChecked
import GoSem.Claim
import GoSem.ClaimJoined
import GoSem.ClaimMapViews
import Derived.JoinedTies
import Derived.KernelRfl
namespace Go.Proofs.Ytmdjmfbinjnlcaa
/- THE CELL 'sum', in the pinned program and in every row, IS THE sha256 OF THE DUMP (.gsa) THAT YtmdjmfbinjnlcaaProg.lean LOADS. Nothing in Lean hashes anything: it is a label: what it is worth is what the hold of that sum in a sandbox is worth. -/
noncomputable def Try.pinned : Pinned := { name := "ytmdjmfbinjnlcaa", sum := "27930373c26516a67dbafc004888bb0828bb4c0933413e99bf8c289e5ea0de75", checked := Try.checked }
namespace Rows
def none {H : Type} : Left H := { results := [], args := [] }

/-- 'hatstandlaw14.HistoryTells': WHATEVER THE INPUT: true; the input reads as it did. -/
def historyTellsSpec : ChangeSpec := { name := "historyTells", fn := fun _ => fun
  | [d] => { results := [.lit (.bool true)], args := [d] }
  | _ => none }
def historyTellsRow : OpenClaim := { program := "ytmdjmfbinjnlcaa", sum := "27930373c26516a67dbafc004888bb0828bb4c0933413e99bf8c289e5ea0de75", func := "hatstand/hatstandlaw14.HistoryTells", spec := "historyTells", apart := false }
def HistoryTellsSaid : Prop := historyTellsRow.holds Try.pinned (OpenSpec.ofChange historyTellsSpec)

/-- ITS FALSE NEIGHBOUR: 'it returns false'. Refute it at one input. -/
def historyTellsWrong : ChangeSpec := { name := "historyTells", fn := fun _ => fun
  | [d] => { results := [.lit (.bool false)], args := [d] }
  | _ => none }
def HistoryTellsWrongFalsely : Prop := historyTellsRow.holds Try.pinned (OpenSpec.ofChange historyTellsWrong)

/-- 'hatstandlaw14.HistoryRight': WHATEVER THE INPUT: true; the input reads as it did. -/
def historyRightSpec : ChangeSpec := { name := "historyRight", fn := fun _ => fun
  | [d] => { results := [.lit (.bool true)], args := [d] }
  | _ => none }
def historyRightRow : OpenClaim := { program := "ytmdjmfbinjnlcaa", sum := "27930373c26516a67dbafc004888bb0828bb4c0933413e99bf8c289e5ea0de75", func := "hatstand/hatstandlaw14.HistoryRight", spec := "historyRight", apart := false }
def HistoryRightSaid : Prop := historyRightRow.holds Try.pinned (OpenSpec.ofChange historyRightSpec)

/-- ITS FALSE NEIGHBOUR: 'it returns false'. Refute it at one input. -/
def historyRightWrong : ChangeSpec := { name := "historyRight", fn := fun _ => fun
  | [d] => { results := [.lit (.bool false)], args := [d] }
  | _ => none }
def HistoryRightWrongFalsely : Prop := historyRightRow.holds Try.pinned (OpenSpec.ofChange historyRightWrong)

/-- 'hatstandlaw14.HistorySpoils': WHATEVER THE INPUT: true; the input reads as it did. -/
def historySpoilsSpec : ChangeSpec := { name := "historySpoils", fn := fun _ => fun
  | [d1, d2, d3] => { results := [.lit (.bool true)], args := [d1, d2, d3] }
  | _ => none }
def historySpoilsRow : OpenClaim := { program := "ytmdjmfbinjnlcaa", sum := "27930373c26516a67dbafc004888bb0828bb4c0933413e99bf8c289e5ea0de75", func := "hatstand/hatstandlaw14.HistorySpoils", spec := "historySpoils", apart := false }
def HistorySpoilsSaid : Prop := historySpoilsRow.holds Try.pinned (OpenSpec.ofChange historySpoilsSpec)

/-- ITS FALSE NEIGHBOUR: 'it returns false'. Refute it at one input. -/
def historySpoilsWrong : ChangeSpec := { name := "historySpoils", fn := fun _ => fun
  | [d1, d2, d3] => { results := [.lit (.bool false)], args := [d1, d2, d3] }
  | _ => none }
def HistorySpoilsWrongFalsely : Prop := historySpoilsRow.holds Try.pinned (OpenSpec.ofChange historySpoilsWrong)

/-- 'hatstandlaw14.HistoryCuts': WHATEVER THE INPUT: true; the input reads as it did. -/
def historyCutsSpec : ChangeSpec := { name := "historyCuts", fn := fun _ => fun
  | [d1, d2] => { results := [.lit (.bool true)], args := [d1, d2] }
  | _ => none }
def historyCutsRow : OpenClaim := { program := "ytmdjmfbinjnlcaa", sum := "27930373c26516a67dbafc004888bb0828bb4c0933413e99bf8c289e5ea0de75", func := "hatstand/hatstandlaw14.HistoryCuts", spec := "historyCuts", apart := false }
def HistoryCutsSaid : Prop := historyCutsRow.holds Try.pinned (OpenSpec.ofChange historyCutsSpec)

/-- ITS FALSE NEIGHBOUR: 'it returns false'. Refute it at one input. -/
def historyCutsWrong : ChangeSpec := { name := "historyCuts", fn := fun _ => fun
  | [d1, d2] => { results := [.lit (.bool false)], args := [d1, d2] }
  | _ => none }
def HistoryCutsWrongFalsely : Prop := historyCutsRow.holds Try.pinned (OpenSpec.ofChange historyCutsWrong)

/-- 'hatstandlaw14.HistoryOrder': WHATEVER THE INPUT: true; the input reads as it did. -/
def historyOrderSpec : ChangeSpec := { name := "historyOrder", fn := fun _ => fun
  | [d1, d2, d3, d4] => { results := [.lit (.bool true)], args := [d1, d2, d3, d4] }
  | _ => none }
def historyOrderRow : OpenClaim := { program := "ytmdjmfbinjnlcaa", sum := "27930373c26516a67dbafc004888bb0828bb4c0933413e99bf8c289e5ea0de75", func := "hatstand/hatstandlaw14.HistoryOrder", spec := "historyOrder", apart := false }
def HistoryOrderSaid : Prop := historyOrderRow.holds Try.pinned (OpenSpec.ofChange historyOrderSpec)

/-- ITS FALSE NEIGHBOUR: 'it returns false'. Refute it at one input. -/
def historyOrderWrong : ChangeSpec := { name := "historyOrder", fn := fun _ => fun
  | [d1, d2, d3, d4] => { results := [.lit (.bool false)], args := [d1, d2, d3, d4] }
  | _ => none }
def HistoryOrderWrongFalsely : Prop := historyOrderRow.holds Try.pinned (OpenSpec.ofChange historyOrderWrong)

/-- 'hatstandlaw14.HistoryThreads': WHATEVER THE INPUT: true; the input reads as it did. -/
def historyThreadsSpec : ChangeSpec := { name := "historyThreads", fn := fun _ => fun
  | [d1, d2] => { results := [.lit (.bool true)], args := [d1, d2] }
  | _ => none }
def historyThreadsRow : OpenClaim := { program := "ytmdjmfbinjnlcaa", sum := "27930373c26516a67dbafc004888bb0828bb4c0933413e99bf8c289e5ea0de75", func := "hatstand/hatstandlaw14.HistoryThreads", spec := "historyThreads", apart := false }
def HistoryThreadsSaid : Prop := historyThreadsRow.holds Try.pinned (OpenSpec.ofChange historyThreadsSpec)

/-- ITS FALSE NEIGHBOUR: 'it returns false'. Refute it at one input. -/
def historyThreadsWrong : ChangeSpec := { name := "historyThreads", fn := fun _ => fun
  | [d1, d2] => { results := [.lit (.bool false)], args := [d1, d2] }
  | _ => none }
def HistoryThreadsWrongFalsely : Prop := historyThreadsRow.holds Try.pinned (OpenSpec.ofChange historyThreadsWrong)

/- THE SECOND FORM. 'bulk': how many values and letters a reading holds, each counted each time it is reached (what is shared counts as often as it is met; a slice's spare places count too). A statement '..UptoSaid' is the law's where the arguments, and the package variables that the reading takes, are together of bulk at most 1048576: NARROWER than '..Said'. Prove '..Said' where nothing that the law and all that it calls make is longer than what came in: it says more and counts as full. Else prove '..UptoSaid'. A law counts once. -/
mutual
def uptoBulk {H : Type} : DataW H → Nat
  | .lit (.string bytes) => bytes.length + 1
  | .lit _ => 1
  | .nil => 1
  | .ptr d => uptoBulk d + 1
  | .slice elems spare => uptoBulkAll elems + uptoBulkAll spare + 1
  | .agg parts => uptoBulkAll parts + 1
  | .iface _ d => uptoBulk d + 1
  | .map entries => uptoBulkEntries entries + 1
  | .held _ => 1
def uptoBulkAll {H : Type} : List (DataW H) → Nat
  | [] => 0
  | d :: r => uptoBulk d + uptoBulkAll r
def uptoBulkEntries {H : Type} : List (Lit × DataW H) → Nat
  | [] => 0
  | x :: r => uptoBulkEntry x + uptoBulkEntries r
def uptoBulkEntry {H : Type} : Lit × DataW H → Nat
  | (.string bytes, d) => bytes.length + uptoBulk d + 1
  | (_, d) => uptoBulk d + 1
 end
def uptoSmall : (H : Type) → List (DataW H) → Bool := fun _ ds => decide (uptoBulkAll ds ≤ 1048576)
def OpenSpec.upto (s : _root_.Go.ChangeSpec) : _root_.Go.OpenSpec := { _root_.Go.OpenSpec.ofChange s with cond := some uptoSmall }

/-- 'hatstandlaw14.HistoryTells', WHERE WHAT IT READS IS OF BULK AT MOST 1048576: true; the input reads as it did. -/
def historyTellsUptoRow : OpenClaim := { program := "ytmdjmfbinjnlcaa", sum := "27930373c26516a67dbafc004888bb0828bb4c0933413e99bf8c289e5ea0de75", func := "hatstand/hatstandlaw14.HistoryTells", spec := "historyTells", apart := false, narrowed := true }
def HistoryTellsUptoSaid : Prop := historyTellsUptoRow.holds Try.pinned (OpenSpec.upto historyTellsSpec)

/-- 'hatstandlaw14.HistoryRight', WHERE WHAT IT READS IS OF BULK AT MOST 1048576: true; the input reads as it did. -/
def historyRightUptoRow : OpenClaim := { program := "ytmdjmfbinjnlcaa", sum := "27930373c26516a67dbafc004888bb0828bb4c0933413e99bf8c289e5ea0de75", func := "hatstand/hatstandlaw14.HistoryRight", spec := "historyRight", apart := false, narrowed := true }
def HistoryRightUptoSaid : Prop := historyRightUptoRow.holds Try.pinned (OpenSpec.upto historyRightSpec)

/-- 'hatstandlaw14.HistorySpoils', WHERE WHAT IT READS IS OF BULK AT MOST 1048576: true; the input reads as it did. -/
def historySpoilsUptoRow : OpenClaim := { program := "ytmdjmfbinjnlcaa", sum := "27930373c26516a67dbafc004888bb0828bb4c0933413e99bf8c289e5ea0de75", func := "hatstand/hatstandlaw14.HistorySpoils", spec := "historySpoils", apart := false, narrowed := true }
def HistorySpoilsUptoSaid : Prop := historySpoilsUptoRow.holds Try.pinned (OpenSpec.upto historySpoilsSpec)

/-- 'hatstandlaw14.HistoryCuts', WHERE WHAT IT READS IS OF BULK AT MOST 1048576: true; the input reads as it did. -/
def historyCutsUptoRow : OpenClaim := { program := "ytmdjmfbinjnlcaa", sum := "27930373c26516a67dbafc004888bb0828bb4c0933413e99bf8c289e5ea0de75", func := "hatstand/hatstandlaw14.HistoryCuts", spec := "historyCuts", apart := false, narrowed := true }
def HistoryCutsUptoSaid : Prop := historyCutsUptoRow.holds Try.pinned (OpenSpec.upto historyCutsSpec)

/-- 'hatstandlaw14.HistoryOrder', WHERE WHAT IT READS IS OF BULK AT MOST 1048576: true; the input reads as it did. -/
def historyOrderUptoRow : OpenClaim := { program := "ytmdjmfbinjnlcaa", sum := "27930373c26516a67dbafc004888bb0828bb4c0933413e99bf8c289e5ea0de75", func := "hatstand/hatstandlaw14.HistoryOrder", spec := "historyOrder", apart := false, narrowed := true }
def HistoryOrderUptoSaid : Prop := historyOrderUptoRow.holds Try.pinned (OpenSpec.upto historyOrderSpec)

/-- 'hatstandlaw14.HistoryThreads', WHERE WHAT IT READS IS OF BULK AT MOST 1048576: true; the input reads as it did. -/
def historyThreadsUptoRow : OpenClaim := { program := "ytmdjmfbinjnlcaa", sum := "27930373c26516a67dbafc004888bb0828bb4c0933413e99bf8c289e5ea0de75", func := "hatstand/hatstandlaw14.HistoryThreads", spec := "historyThreads", apart := false, narrowed := true }
def HistoryThreadsUptoSaid : Prop := historyThreadsUptoRow.holds Try.pinned (OpenSpec.upto historyThreadsSpec)

end Rows
end Go.Proofs.Ytmdjmfbinjnlcaa
