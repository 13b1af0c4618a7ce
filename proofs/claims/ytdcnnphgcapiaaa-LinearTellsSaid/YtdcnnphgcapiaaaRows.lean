/-
  No cell of these rows narrows 'for every input' (looked for: loops, veiled, ifaces, maps, wideKeys, modest, calm, conditions, laid).
  DERIVED. THE GIVEN ROWS OF THIS SEAT. 6 by the template 'for every input the law returns true; each argument reads behind the call as it read before'; 0 by the template 'total and deterministic' (their statements: YtdcnnphgcapiaaaTotals.lean).
  GIVEN WITH THE SEED: the statements are not yours to turn. If you find one false, say at which input.
  Laid BY PROGRAM, IN A SANDBOX (cutbox-rows.mjs): the forced cells as the released guide's own fill.sh prints them over the translation 27cbaa97e8dba303… (all of the seat's roots in one cut). By AI agents, Wed Nov 11 2026. No macro, syntax, notation, axiom, sorry.
-/
import Derived.Test.YtdcnnphgcapiaaaChecked
import GoSem.Claim
import GoSem.ClaimJoined
import GoSem.ClaimMapViews
import Derived.JoinedTies
import Derived.KernelRfl
namespace Go.Proofs.Ytdcnnphgcapiaaa
/- THE CELL 'sum', in the pinned program and in every row, IS THE sha256 OF THE DUMP (.gsa) THAT YtdcnnphgcapiaaaProg.lean LOADS. Nothing in Lean hashes anything: it is a label: what it is worth is what the hold of that sum in a sandbox is worth. -/
noncomputable def Try.pinned : Pinned := { name := "ytdcnnphgcapiaaa", sum := "27cbaa97e8dba3039eca3e7a945b89e04c027bffa6d8af02a03a23520a210c98", checked := Try.checked }
namespace Rows
def none {H : Type} : Left H := { results := [], args := [] }

/-- 'hatstandlaw15.LinearLonger': WHATEVER THE INPUT: true; the input reads as it did. -/
def linearLongerSpec : ChangeSpec := { name := "linearLonger", fn := fun _ => fun
  | [d1, d2, d3, d4, d5] => { results := [.lit (.bool true)], args := [d1, d2, d3, d4, d5] }
  | _ => none }
def linearLongerRow : OpenClaim := { program := "ytdcnnphgcapiaaa", sum := "27cbaa97e8dba3039eca3e7a945b89e04c027bffa6d8af02a03a23520a210c98", func := "hatstand/hatstandlaw15.LinearLonger", spec := "linearLonger", unfollowed := true, recurses := true, apart := false }
def LinearLongerSaid : Prop := linearLongerRow.holds Try.pinned (OpenSpec.ofChange linearLongerSpec)

/-- ITS FALSE NEIGHBOUR: 'it returns false'. Refute it at one input. -/
def linearLongerWrong : ChangeSpec := { name := "linearLonger", fn := fun _ => fun
  | [d1, d2, d3, d4, d5] => { results := [.lit (.bool false)], args := [d1, d2, d3, d4, d5] }
  | _ => none }
def LinearLongerWrongFalsely : Prop := linearLongerRow.holds Try.pinned (OpenSpec.ofChange linearLongerWrong)

/-- 'hatstandlaw15.LinearAlone': WHATEVER THE INPUT: true; the input reads as it did. -/
def linearAloneSpec : ChangeSpec := { name := "linearAlone", fn := fun _ => fun
  | [d1, d2, d3, d4] => { results := [.lit (.bool true)], args := [d1, d2, d3, d4] }
  | _ => none }
def linearAloneRow : OpenClaim := { program := "ytdcnnphgcapiaaa", sum := "27cbaa97e8dba3039eca3e7a945b89e04c027bffa6d8af02a03a23520a210c98", func := "hatstand/hatstandlaw15.LinearAlone", spec := "linearAlone", unfollowed := true, recurses := true, apart := false }
def LinearAloneSaid : Prop := linearAloneRow.holds Try.pinned (OpenSpec.ofChange linearAloneSpec)

/-- ITS FALSE NEIGHBOUR: 'it returns false'. Refute it at one input. -/
def linearAloneWrong : ChangeSpec := { name := "linearAlone", fn := fun _ => fun
  | [d1, d2, d3, d4] => { results := [.lit (.bool false)], args := [d1, d2, d3, d4] }
  | _ => none }
def LinearAloneWrongFalsely : Prop := linearAloneRow.holds Try.pinned (OpenSpec.ofChange linearAloneWrong)

/-- 'hatstandlaw15.LinearTells': WHATEVER THE INPUT: true; the input reads as it did. -/
def linearTellsSpec : ChangeSpec := { name := "linearTells", fn := fun _ => fun
  | [d1, d2, d3] => { results := [.lit (.bool true)], args := [d1, d2, d3] }
  | _ => none }
def linearTellsRow : OpenClaim := { program := "ytdcnnphgcapiaaa", sum := "27cbaa97e8dba3039eca3e7a945b89e04c027bffa6d8af02a03a23520a210c98", func := "hatstand/hatstandlaw15.LinearTells", spec := "linearTells", unfollowed := true, recurses := true, apart := false }
def LinearTellsSaid : Prop := linearTellsRow.holds Try.pinned (OpenSpec.ofChange linearTellsSpec)

/-- ITS FALSE NEIGHBOUR: 'it returns false'. Refute it at one input. -/
def linearTellsWrong : ChangeSpec := { name := "linearTells", fn := fun _ => fun
  | [d1, d2, d3] => { results := [.lit (.bool false)], args := [d1, d2, d3] }
  | _ => none }
def LinearTellsWrongFalsely : Prop := linearTellsRow.holds Try.pinned (OpenSpec.ofChange linearTellsWrong)

/-- 'hatstandlaw15.LinearMade': WHATEVER THE INPUT: true; the input reads as it did. -/
def linearMadeSpec : ChangeSpec := { name := "linearMade", fn := fun _ => fun
  | [d1, d2] => { results := [.lit (.bool true)], args := [d1, d2] }
  | _ => none }
def linearMadeRow : OpenClaim := { program := "ytdcnnphgcapiaaa", sum := "27cbaa97e8dba3039eca3e7a945b89e04c027bffa6d8af02a03a23520a210c98", func := "hatstand/hatstandlaw15.LinearMade", spec := "linearMade", unfollowed := true, recurses := true, apart := false }
def LinearMadeSaid : Prop := linearMadeRow.holds Try.pinned (OpenSpec.ofChange linearMadeSpec)

/-- ITS FALSE NEIGHBOUR: 'it returns false'. Refute it at one input. -/
def linearMadeWrong : ChangeSpec := { name := "linearMade", fn := fun _ => fun
  | [d1, d2] => { results := [.lit (.bool false)], args := [d1, d2] }
  | _ => none }
def LinearMadeWrongFalsely : Prop := linearMadeRow.holds Try.pinned (OpenSpec.ofChange linearMadeWrong)

/-- 'hatstandlaw15.LinearDrops': WHATEVER THE INPUT: true; the input reads as it did. -/
def linearDropsSpec : ChangeSpec := { name := "linearDrops", fn := fun _ => fun
  | [d1, d2, d3, d4] => { results := [.lit (.bool true)], args := [d1, d2, d3, d4] }
  | _ => none }
def linearDropsRow : OpenClaim := { program := "ytdcnnphgcapiaaa", sum := "27cbaa97e8dba3039eca3e7a945b89e04c027bffa6d8af02a03a23520a210c98", func := "hatstand/hatstandlaw15.LinearDrops", spec := "linearDrops", unfollowed := true, recurses := true, apart := false }
def LinearDropsSaid : Prop := linearDropsRow.holds Try.pinned (OpenSpec.ofChange linearDropsSpec)

/-- ITS FALSE NEIGHBOUR: 'it returns false'. Refute it at one input. -/
def linearDropsWrong : ChangeSpec := { name := "linearDrops", fn := fun _ => fun
  | [d1, d2, d3, d4] => { results := [.lit (.bool false)], args := [d1, d2, d3, d4] }
  | _ => none }
def LinearDropsWrongFalsely : Prop := linearDropsRow.holds Try.pinned (OpenSpec.ofChange linearDropsWrong)

/-- 'hatstandlaw15.LinearRetry': WHATEVER THE INPUT: true; the input reads as it did. -/
def linearRetrySpec : ChangeSpec := { name := "linearRetry", fn := fun _ => fun
  | [d1, d2, d3, d4] => { results := [.lit (.bool true)], args := [d1, d2, d3, d4] }
  | _ => none }
def linearRetryRow : OpenClaim := { program := "ytdcnnphgcapiaaa", sum := "27cbaa97e8dba3039eca3e7a945b89e04c027bffa6d8af02a03a23520a210c98", func := "hatstand/hatstandlaw15.LinearRetry", spec := "linearRetry", unfollowed := true, recurses := true, apart := false }
def LinearRetrySaid : Prop := linearRetryRow.holds Try.pinned (OpenSpec.ofChange linearRetrySpec)

/-- ITS FALSE NEIGHBOUR: 'it returns false'. Refute it at one input. -/
def linearRetryWrong : ChangeSpec := { name := "linearRetry", fn := fun _ => fun
  | [d1, d2, d3, d4] => { results := [.lit (.bool false)], args := [d1, d2, d3, d4] }
  | _ => none }
def LinearRetryWrongFalsely : Prop := linearRetryRow.holds Try.pinned (OpenSpec.ofChange linearRetryWrong)

/- THE SECOND FORM. 'bulk': how many values and letters a reading holds, each counted each time it is reached (what is shared counts as often as it is met; a slice's spare places count too). A statement '..UptoSaid' is the law's where the arguments, and the package variables that the reading takes, are together of bulk at most 1048576: NARROWER than '..Said'. Prove '..Said' where nothing that the law and all that it calls make is longer than what came in: it says more and counts as full. Else prove '..UptoSaid'. A law counts once. -/
mutual
def uptoBulk {H : Type} : DataW H → Nat
  | .lit (.string bytes) => bytes.length + 1
  | .lit _ => 1
  | .nil => 1
  | .ptr d => uptoBulk d + 1
  | .slice elems spare => uptoBulkAll elems + uptoBulkAll spare + 1
  | .agg parts => uptoBulkAll parts + 1
  | .iface _ d => uptoBulk d + 1
  | .map entries => uptoBulkEntries entries + 1
  | .held _ => 1
def uptoBulkAll {H : Type} : List (DataW H) → Nat
  | [] => 0
  | d :: r => uptoBulk d + uptoBulkAll r
def uptoBulkEntries {H : Type} : List (Lit × DataW H) → Nat
  | [] => 0
  | x :: r => uptoBulkEntry x + uptoBulkEntries r
def uptoBulkEntry {H : Type} : Lit × DataW H → Nat
  | (.string bytes, d) => bytes.length + uptoBulk d + 1
  | (_, d) => uptoBulk d + 1
 end
def uptoSmall : (H : Type) → List (DataW H) → Bool := fun _ ds => decide (uptoBulkAll ds ≤ 1048576)
def OpenSpec.upto (s : _root_.Go.ChangeSpec) : _root_.Go.OpenSpec := { _root_.Go.OpenSpec.ofChange s with cond := some uptoSmall }

/-- 'hatstandlaw15.LinearLonger', WHERE WHAT IT READS IS OF BULK AT MOST 1048576: true; the input reads as it did. -/
def linearLongerUptoRow : OpenClaim := { program := "ytdcnnphgcapiaaa", sum := "27cbaa97e8dba3039eca3e7a945b89e04c027bffa6d8af02a03a23520a210c98", func := "hatstand/hatstandlaw15.LinearLonger", spec := "linearLonger", unfollowed := true, recurses := true, apart := false, narrowed := true }
def LinearLongerUptoSaid : Prop := linearLongerUptoRow.holds Try.pinned (OpenSpec.upto linearLongerSpec)

/-- 'hatstandlaw15.LinearAlone', WHERE WHAT IT READS IS OF BULK AT MOST 1048576: true; the input reads as it did. -/
def linearAloneUptoRow : OpenClaim := { program := "ytdcnnphgcapiaaa", sum := "27cbaa97e8dba3039eca3e7a945b89e04c027bffa6d8af02a03a23520a210c98", func := "hatstand/hatstandlaw15.LinearAlone", spec := "linearAlone", unfollowed := true, recurses := true, apart := false, narrowed := true }
def LinearAloneUptoSaid : Prop := linearAloneUptoRow.holds Try.pinned (OpenSpec.upto linearAloneSpec)

/-- 'hatstandlaw15.LinearTells', WHERE WHAT IT READS IS OF BULK AT MOST 1048576: true; the input reads as it did. -/
def linearTellsUptoRow : OpenClaim := { program := "ytdcnnphgcapiaaa", sum := "27cbaa97e8dba3039eca3e7a945b89e04c027bffa6d8af02a03a23520a210c98", func := "hatstand/hatstandlaw15.LinearTells", spec := "linearTells", unfollowed := true, recurses := true, apart := false, narrowed := true }
def LinearTellsUptoSaid : Prop := linearTellsUptoRow.holds Try.pinned (OpenSpec.upto linearTellsSpec)

/-- 'hatstandlaw15.LinearMade', WHERE WHAT IT READS IS OF BULK AT MOST 1048576: true; the input reads as it did. -/
def linearMadeUptoRow : OpenClaim := { program := "ytdcnnphgcapiaaa", sum := "27cbaa97e8dba3039eca3e7a945b89e04c027bffa6d8af02a03a23520a210c98", func := "hatstand/hatstandlaw15.LinearMade", spec := "linearMade", unfollowed := true, recurses := true, apart := false, narrowed := true }
def LinearMadeUptoSaid : Prop := linearMadeUptoRow.holds Try.pinned (OpenSpec.upto linearMadeSpec)

/-- 'hatstandlaw15.LinearDrops', WHERE WHAT IT READS IS OF BULK AT MOST 1048576: true; the input reads as it did. -/
def linearDropsUptoRow : OpenClaim := { program := "ytdcnnphgcapiaaa", sum := "27cbaa97e8dba3039eca3e7a945b89e04c027bffa6d8af02a03a23520a210c98", func := "hatstand/hatstandlaw15.LinearDrops", spec := "linearDrops", unfollowed := true, recurses := true, apart := false, narrowed := true }
def LinearDropsUptoSaid : Prop := linearDropsUptoRow.holds Try.pinned (OpenSpec.upto linearDropsSpec)

/-- 'hatstandlaw15.LinearRetry', WHERE WHAT IT READS IS OF BULK AT MOST 1048576: true; the input reads as it did. -/
def linearRetryUptoRow : OpenClaim := { program := "ytdcnnphgcapiaaa", sum := "27cbaa97e8dba3039eca3e7a945b89e04c027bffa6d8af02a03a23520a210c98", func := "hatstand/hatstandlaw15.LinearRetry", spec := "linearRetry", unfollowed := true, recurses := true, apart := false, narrowed := true }
def LinearRetryUptoSaid : Prop := linearRetryUptoRow.holds Try.pinned (OpenSpec.upto linearRetrySpec)

end Rows
end Go.Proofs.Ytdcnnphgcapiaaa
