/-
  No cell of these rows narrows 'for every input' (looked for: loops, veiled, ifaces, maps, wideKeys, modest, calm, conditions, laid).
  DERIVED. THE GIVEN ROWS OF THIS SEAT. 6 by the template 'for every input the law returns true; each argument reads behind the call as it read before'; 0 by the template 'total and deterministic' (their statements: YtijkmjhfhnhjeaaTotals.lean).
  GIVEN WITH THE SEED: the statements are not yours to turn. If you find one false, say at which input.
  Laid BY PROGRAM, IN A SANDBOX (cutbox-rows.mjs): the forced cells as the released guide's own fill.sh prints them over the translation 299af003e36aacf3… (all of the seat's roots in one cut). By AI agents, Wed Nov 11 2026. No macro, syntax, notation, axiom, sorry.
-/
import Derived.Test.YtijkmjhfhnhjeaaChecked
import GoSem.Claim
import GoSem.ClaimJoined
import GoSem.ClaimMapViews
import Derived.JoinedTies
import Derived.KernelRfl
namespace Go.Proofs.Ytijkmjhfhnhjeaa
/- THE CELL 'sum', in the pinned program and in every row, IS THE sha256 OF THE DUMP (.gsa) THAT YtijkmjhfhnhjeaaProg.lean LOADS. Nothing in Lean hashes anything: it is a label: what it is worth is what the hold of that sum in a sandbox is worth. -/
noncomputable def Try.pinned : Pinned := { name := "ytijkmjhfhnhjeaa", sum := "299af003e36aacf391ced9247154fc0967ce2691a579dcd3f405167c4a85e1f0", checked := Try.checked }
namespace Rows
def none {H : Type} : Left H := { results := [], args := [] }

/-- 'hatstandlaw9.SlotBack': WHATEVER THE INPUT: true; the input reads as it did. -/
def slotBackSpec : ChangeSpec := { name := "slotBack", fn := fun _ => fun
  | [d1, d2, d3, d4] => { results := [.lit (.bool true)], args := [d1, d2, d3, d4] }
  | _ => none }
def slotBackRow : OpenClaim := { program := "ytijkmjhfhnhjeaa", sum := "299af003e36aacf391ced9247154fc0967ce2691a579dcd3f405167c4a85e1f0", func := "hatstand/hatstandlaw9.SlotBack", spec := "slotBack", apart := false }
def SlotBackSaid : Prop := slotBackRow.holds Try.pinned (OpenSpec.ofChange slotBackSpec)

/-- ITS FALSE NEIGHBOUR: 'it returns false'. Refute it at one input. -/
def slotBackWrong : ChangeSpec := { name := "slotBack", fn := fun _ => fun
  | [d1, d2, d3, d4] => { results := [.lit (.bool false)], args := [d1, d2, d3, d4] }
  | _ => none }
def SlotBackWrongFalsely : Prop := slotBackRow.holds Try.pinned (OpenSpec.ofChange slotBackWrong)

/-- 'hatstandlaw9.SlotOnce': WHATEVER THE INPUT: true; the input reads as it did. -/
def slotOnceSpec : ChangeSpec := { name := "slotOnce", fn := fun _ => fun
  | [d1, d2, d3] => { results := [.lit (.bool true)], args := [d1, d2, d3] }
  | _ => none }
def slotOnceRow : OpenClaim := { program := "ytijkmjhfhnhjeaa", sum := "299af003e36aacf391ced9247154fc0967ce2691a579dcd3f405167c4a85e1f0", func := "hatstand/hatstandlaw9.SlotOnce", spec := "slotOnce", apart := false }
def SlotOnceSaid : Prop := slotOnceRow.holds Try.pinned (OpenSpec.ofChange slotOnceSpec)

/-- ITS FALSE NEIGHBOUR: 'it returns false'. Refute it at one input. -/
def slotOnceWrong : ChangeSpec := { name := "slotOnce", fn := fun _ => fun
  | [d1, d2, d3] => { results := [.lit (.bool false)], args := [d1, d2, d3] }
  | _ => none }
def SlotOnceWrongFalsely : Prop := slotOnceRow.holds Try.pinned (OpenSpec.ofChange slotOnceWrong)

/-- 'hatstandlaw9.SlotKinds': WHATEVER THE INPUT: true; the input reads as it did. -/
def slotKindsSpec : ChangeSpec := { name := "slotKinds", fn := fun _ => fun
  | [d1, d2, d3, d4, d5] => { results := [.lit (.bool true)], args := [d1, d2, d3, d4, d5] }
  | _ => none }
def slotKindsRow : OpenClaim := { program := "ytijkmjhfhnhjeaa", sum := "299af003e36aacf391ced9247154fc0967ce2691a579dcd3f405167c4a85e1f0", func := "hatstand/hatstandlaw9.SlotKinds", spec := "slotKinds", apart := false }
def SlotKindsSaid : Prop := slotKindsRow.holds Try.pinned (OpenSpec.ofChange slotKindsSpec)

/-- ITS FALSE NEIGHBOUR: 'it returns false'. Refute it at one input. -/
def slotKindsWrong : ChangeSpec := { name := "slotKinds", fn := fun _ => fun
  | [d1, d2, d3, d4, d5] => { results := [.lit (.bool false)], args := [d1, d2, d3, d4, d5] }
  | _ => none }
def SlotKindsWrongFalsely : Prop := slotKindsRow.holds Try.pinned (OpenSpec.ofChange slotKindsWrong)

/-- 'hatstandlaw9.SlotTells': WHATEVER THE INPUT: true; the input reads as it did. -/
def slotTellsSpec : ChangeSpec := { name := "slotTells", fn := fun _ => fun
  | [d1, d2, d3, d4, d5] => { results := [.lit (.bool true)], args := [d1, d2, d3, d4, d5] }
  | _ => none }
def slotTellsRow : OpenClaim := { program := "ytijkmjhfhnhjeaa", sum := "299af003e36aacf391ced9247154fc0967ce2691a579dcd3f405167c4a85e1f0", func := "hatstand/hatstandlaw9.SlotTells", spec := "slotTells", apart := false }
def SlotTellsSaid : Prop := slotTellsRow.holds Try.pinned (OpenSpec.ofChange slotTellsSpec)

/-- ITS FALSE NEIGHBOUR: 'it returns false'. Refute it at one input. -/
def slotTellsWrong : ChangeSpec := { name := "slotTells", fn := fun _ => fun
  | [d1, d2, d3, d4, d5] => { results := [.lit (.bool false)], args := [d1, d2, d3, d4, d5] }
  | _ => none }
def SlotTellsWrongFalsely : Prop := slotTellsRow.holds Try.pinned (OpenSpec.ofChange slotTellsWrong)

/-- 'hatstandlaw9.SlotRound': WHATEVER THE INPUT: true; the input reads as it did. -/
def slotRoundSpec : ChangeSpec := { name := "slotRound", fn := fun _ => fun
  | [d1, d2, d3, d4] => { results := [.lit (.bool true)], args := [d1, d2, d3, d4] }
  | _ => none }
def slotRoundRow : OpenClaim := { program := "ytijkmjhfhnhjeaa", sum := "299af003e36aacf391ced9247154fc0967ce2691a579dcd3f405167c4a85e1f0", func := "hatstand/hatstandlaw9.SlotRound", spec := "slotRound", apart := false }
def SlotRoundSaid : Prop := slotRoundRow.holds Try.pinned (OpenSpec.ofChange slotRoundSpec)

/-- ITS FALSE NEIGHBOUR: 'it returns false'. Refute it at one input. -/
def slotRoundWrong : ChangeSpec := { name := "slotRound", fn := fun _ => fun
  | [d1, d2, d3, d4] => { results := [.lit (.bool false)], args := [d1, d2, d3, d4] }
  | _ => none }
def SlotRoundWrongFalsely : Prop := slotRoundRow.holds Try.pinned (OpenSpec.ofChange slotRoundWrong)

/-- 'hatstandlaw9.SlotStamps': WHATEVER THE INPUT: true; the input reads as it did. -/
def slotStampsSpec : ChangeSpec := { name := "slotStamps", fn := fun _ => fun
  | [d1, d2, d3] => { results := [.lit (.bool true)], args := [d1, d2, d3] }
  | _ => none }
def slotStampsRow : OpenClaim := { program := "ytijkmjhfhnhjeaa", sum := "299af003e36aacf391ced9247154fc0967ce2691a579dcd3f405167c4a85e1f0", func := "hatstand/hatstandlaw9.SlotStamps", spec := "slotStamps", apart := false }
def SlotStampsSaid : Prop := slotStampsRow.holds Try.pinned (OpenSpec.ofChange slotStampsSpec)

/-- ITS FALSE NEIGHBOUR: 'it returns false'. Refute it at one input. -/
def slotStampsWrong : ChangeSpec := { name := "slotStamps", fn := fun _ => fun
  | [d1, d2, d3] => { results := [.lit (.bool false)], args := [d1, d2, d3] }
  | _ => none }
def SlotStampsWrongFalsely : Prop := slotStampsRow.holds Try.pinned (OpenSpec.ofChange slotStampsWrong)

/- THE SECOND FORM. 'bulk': how many values and letters a reading holds, each counted each time it is reached (what is shared counts as often as it is met; a slice's spare places count too). A statement '..UptoSaid' is the law's where the arguments, and the package variables that the reading takes, are together of bulk at most 1048576: NARROWER than '..Said'. Prove '..Said' where nothing that the law and all that it calls make is longer than what came in: it says more and counts as full. Else prove '..UptoSaid'. A law counts once. -/
mutual
def uptoBulk {H : Type} : DataW H → Nat
  | .lit (.string bytes) => bytes.length + 1
  | .lit _ => 1
  | .nil => 1
  | .ptr d => uptoBulk d + 1
  | .slice elems spare => uptoBulkAll elems + uptoBulkAll spare + 1
  | .agg parts => uptoBulkAll parts + 1
  | .iface _ d => uptoBulk d + 1
  | .map entries => uptoBulkEntries entries + 1
  | .held _ => 1
def uptoBulkAll {H : Type} : List (DataW H) → Nat
  | [] => 0
  | d :: r => uptoBulk d + uptoBulkAll r
def uptoBulkEntries {H : Type} : List (Lit × DataW H) → Nat
  | [] => 0
  | x :: r => uptoBulkEntry x + uptoBulkEntries r
def uptoBulkEntry {H : Type} : Lit × DataW H → Nat
  | (.string bytes, d) => bytes.length + uptoBulk d + 1
  | (_, d) => uptoBulk d + 1
 end
def uptoSmall : (H : Type) → List (DataW H) → Bool := fun _ ds => decide (uptoBulkAll ds ≤ 1048576)
def OpenSpec.upto (s : _root_.Go.ChangeSpec) : _root_.Go.OpenSpec := { _root_.Go.OpenSpec.ofChange s with cond := some uptoSmall }

/-- 'hatstandlaw9.SlotBack', WHERE WHAT IT READS IS OF BULK AT MOST 1048576: true; the input reads as it did. -/
def slotBackUptoRow : OpenClaim := { program := "ytijkmjhfhnhjeaa", sum := "299af003e36aacf391ced9247154fc0967ce2691a579dcd3f405167c4a85e1f0", func := "hatstand/hatstandlaw9.SlotBack", spec := "slotBack", apart := false, narrowed := true }
def SlotBackUptoSaid : Prop := slotBackUptoRow.holds Try.pinned (OpenSpec.upto slotBackSpec)

/-- 'hatstandlaw9.SlotOnce', WHERE WHAT IT READS IS OF BULK AT MOST 1048576: true; the input reads as it did. -/
def slotOnceUptoRow : OpenClaim := { program := "ytijkmjhfhnhjeaa", sum := "299af003e36aacf391ced9247154fc0967ce2691a579dcd3f405167c4a85e1f0", func := "hatstand/hatstandlaw9.SlotOnce", spec := "slotOnce", apart := false, narrowed := true }
def SlotOnceUptoSaid : Prop := slotOnceUptoRow.holds Try.pinned (OpenSpec.upto slotOnceSpec)

/-- 'hatstandlaw9.SlotKinds', WHERE WHAT IT READS IS OF BULK AT MOST 1048576: true; the input reads as it did. -/
def slotKindsUptoRow : OpenClaim := { program := "ytijkmjhfhnhjeaa", sum := "299af003e36aacf391ced9247154fc0967ce2691a579dcd3f405167c4a85e1f0", func := "hatstand/hatstandlaw9.SlotKinds", spec := "slotKinds", apart := false, narrowed := true }
def SlotKindsUptoSaid : Prop := slotKindsUptoRow.holds Try.pinned (OpenSpec.upto slotKindsSpec)

/-- 'hatstandlaw9.SlotTells', WHERE WHAT IT READS IS OF BULK AT MOST 1048576: true; the input reads as it did. -/
def slotTellsUptoRow : OpenClaim := { program := "ytijkmjhfhnhjeaa", sum := "299af003e36aacf391ced9247154fc0967ce2691a579dcd3f405167c4a85e1f0", func := "hatstand/hatstandlaw9.SlotTells", spec := "slotTells", apart := false, narrowed := true }
def SlotTellsUptoSaid : Prop := slotTellsUptoRow.holds Try.pinned (OpenSpec.upto slotTellsSpec)

/-- 'hatstandlaw9.SlotRound', WHERE WHAT IT READS IS OF BULK AT MOST 1048576: true; the input reads as it did. -/
def slotRoundUptoRow : OpenClaim := { program := "ytijkmjhfhnhjeaa", sum := "299af003e36aacf391ced9247154fc0967ce2691a579dcd3f405167c4a85e1f0", func := "hatstand/hatstandlaw9.SlotRound", spec := "slotRound", apart := false, narrowed := true }
def SlotRoundUptoSaid : Prop := slotRoundUptoRow.holds Try.pinned (OpenSpec.upto slotRoundSpec)

/-- 'hatstandlaw9.SlotStamps', WHERE WHAT IT READS IS OF BULK AT MOST 1048576: true; the input reads as it did. -/
def slotStampsUptoRow : OpenClaim := { program := "ytijkmjhfhnhjeaa", sum := "299af003e36aacf391ced9247154fc0967ce2691a579dcd3f405167c4a85e1f0", func := "hatstand/hatstandlaw9.SlotStamps", spec := "slotStamps", apart := false, narrowed := true }
def SlotStampsUptoSaid : Prop := slotStampsUptoRow.holds Try.pinned (OpenSpec.upto slotStampsSpec)

end Rows
end Go.Proofs.Ytijkmjhfhnhjeaa
