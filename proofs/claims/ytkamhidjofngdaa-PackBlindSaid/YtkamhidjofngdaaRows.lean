/-
  No cell of these rows narrows 'for every input' (looked for: loops, veiled, ifaces, maps, wideKeys, modest, calm, conditions, laid).
  DERIVED. THE GIVEN ROWS OF THIS SEAT. 6 by the template 'for every input the law returns true; each argument reads behind the call as it read before'; 0 by the template 'total and deterministic' (their statements: YtkamhidjofngdaaTotals.lean).
  GIVEN WITH THE SEED: the statements are not yours to turn. If you find one false, say at which input.
  Laid BY PROGRAM, IN A SANDBOX (cutbox-rows.mjs): the forced cells as the released guide's own fill.sh prints them over the translation a50141ab8ffd5d1b… (all of the seat's roots in one cut). By AI agents, Wed Nov 11 2026. No macro, syntax, notation, axiom, sorry.
-/
import Derived.Test.YtkamhidjofngdaaChecked
import GoSem.Claim
import GoSem.ClaimJoined
import GoSem.ClaimMapViews
import Derived.JoinedTies
import Derived.KernelRfl
namespace Go.Proofs.Ytkamhidjofngdaa
/- THE CELL 'sum', in the pinned program and in every row, IS THE sha256 OF THE DUMP (.gsa) THAT YtkamhidjofngdaaProg.lean LOADS. Nothing in Lean hashes anything: it is a label: what it is worth is what the hold of that sum in a sandbox is worth. -/
noncomputable def Try.pinned : Pinned := { name := "ytkamhidjofngdaa", sum := "a50141ab8ffd5d1bf86377032b6bb26913bc405aadb4d48a023c8b25a902917f", checked := Try.checked }
namespace Rows
def none {H : Type} : Left H := { results := [], args := [] }

/-- 'hatstandlaw1.PackBack': WHATEVER THE INPUT: true; the input reads as it did. -/
def packBackSpec : ChangeSpec := { name := "packBack", fn := fun _ => fun
  | [d1, d2, d3, d4] => { results := [.lit (.bool true)], args := [d1, d2, d3, d4] }
  | _ => none }
def packBackRow : OpenClaim := { program := "ytkamhidjofngdaa", sum := "a50141ab8ffd5d1bf86377032b6bb26913bc405aadb4d48a023c8b25a902917f", func := "hatstand/hatstandlaw1.PackBack", spec := "packBack", unfollowed := true, recurses := true, apart := false }
def PackBackSaid : Prop := packBackRow.holds Try.pinned (OpenSpec.ofChange packBackSpec)

/-- ITS FALSE NEIGHBOUR: 'it returns false'. Refute it at one input. -/
def packBackWrong : ChangeSpec := { name := "packBack", fn := fun _ => fun
  | [d1, d2, d3, d4] => { results := [.lit (.bool false)], args := [d1, d2, d3, d4] }
  | _ => none }
def PackBackWrongFalsely : Prop := packBackRow.holds Try.pinned (OpenSpec.ofChange packBackWrong)

/-- 'hatstandlaw1.PackBlind': WHATEVER THE INPUT: true; the input reads as it did. -/
def packBlindSpec : ChangeSpec := { name := "packBlind", fn := fun _ => fun
  | [d1, d2, d3, d4] => { results := [.lit (.bool true)], args := [d1, d2, d3, d4] }
  | _ => none }
def packBlindRow : OpenClaim := { program := "ytkamhidjofngdaa", sum := "a50141ab8ffd5d1bf86377032b6bb26913bc405aadb4d48a023c8b25a902917f", func := "hatstand/hatstandlaw1.PackBlind", spec := "packBlind", unfollowed := true, recurses := true, apart := false }
def PackBlindSaid : Prop := packBlindRow.holds Try.pinned (OpenSpec.ofChange packBlindSpec)

/-- ITS FALSE NEIGHBOUR: 'it returns false'. Refute it at one input. -/
def packBlindWrong : ChangeSpec := { name := "packBlind", fn := fun _ => fun
  | [d1, d2, d3, d4] => { results := [.lit (.bool false)], args := [d1, d2, d3, d4] }
  | _ => none }
def PackBlindWrongFalsely : Prop := packBlindRow.holds Try.pinned (OpenSpec.ofChange packBlindWrong)

/-- 'hatstandlaw1.PackTells': WHATEVER THE INPUT: true; the input reads as it did. -/
def packTellsSpec : ChangeSpec := { name := "packTells", fn := fun _ => fun
  | [d1, d2, d3, d4] => { results := [.lit (.bool true)], args := [d1, d2, d3, d4] }
  | _ => none }
def packTellsRow : OpenClaim := { program := "ytkamhidjofngdaa", sum := "a50141ab8ffd5d1bf86377032b6bb26913bc405aadb4d48a023c8b25a902917f", func := "hatstand/hatstandlaw1.PackTells", spec := "packTells", unfollowed := true, recurses := true, apart := false }
def PackTellsSaid : Prop := packTellsRow.holds Try.pinned (OpenSpec.ofChange packTellsSpec)

/-- ITS FALSE NEIGHBOUR: 'it returns false'. Refute it at one input. -/
def packTellsWrong : ChangeSpec := { name := "packTells", fn := fun _ => fun
  | [d1, d2, d3, d4] => { results := [.lit (.bool false)], args := [d1, d2, d3, d4] }
  | _ => none }
def PackTellsWrongFalsely : Prop := packTellsRow.holds Try.pinned (OpenSpec.ofChange packTellsWrong)

/-- 'hatstandlaw1.PackRow': WHATEVER THE INPUT: true; the input reads as it did. -/
def packRowSpec : ChangeSpec := { name := "packRow", fn := fun _ => fun
  | [d1, d2] => { results := [.lit (.bool true)], args := [d1, d2] }
  | _ => none }
def packRowRow : OpenClaim := { program := "ytkamhidjofngdaa", sum := "a50141ab8ffd5d1bf86377032b6bb26913bc405aadb4d48a023c8b25a902917f", func := "hatstand/hatstandlaw1.PackRow", spec := "packRow", unfollowed := true, recurses := true, apart := false }
def PackRowSaid : Prop := packRowRow.holds Try.pinned (OpenSpec.ofChange packRowSpec)

/-- ITS FALSE NEIGHBOUR: 'it returns false'. Refute it at one input. -/
def packRowWrong : ChangeSpec := { name := "packRow", fn := fun _ => fun
  | [d1, d2] => { results := [.lit (.bool false)], args := [d1, d2] }
  | _ => none }
def PackRowWrongFalsely : Prop := packRowRow.holds Try.pinned (OpenSpec.ofChange packRowWrong)

/-- 'hatstandlaw1.PackTurns': WHATEVER THE INPUT: true; the input reads as it did. -/
def packTurnsSpec : ChangeSpec := { name := "packTurns", fn := fun _ => fun
  | [d1, d2, d3] => { results := [.lit (.bool true)], args := [d1, d2, d3] }
  | _ => none }
def packTurnsRow : OpenClaim := { program := "ytkamhidjofngdaa", sum := "a50141ab8ffd5d1bf86377032b6bb26913bc405aadb4d48a023c8b25a902917f", func := "hatstand/hatstandlaw1.PackTurns", spec := "packTurns", unfollowed := true, recurses := true, apart := false }
def PackTurnsSaid : Prop := packTurnsRow.holds Try.pinned (OpenSpec.ofChange packTurnsSpec)

/-- ITS FALSE NEIGHBOUR: 'it returns false'. Refute it at one input. -/
def packTurnsWrong : ChangeSpec := { name := "packTurns", fn := fun _ => fun
  | [d1, d2, d3] => { results := [.lit (.bool false)], args := [d1, d2, d3] }
  | _ => none }
def PackTurnsWrongFalsely : Prop := packTurnsRow.holds Try.pinned (OpenSpec.ofChange packTurnsWrong)

/-- 'hatstandlaw1.PackCount': WHATEVER THE INPUT: true; the input reads as it did. -/
def packCountSpec : ChangeSpec := { name := "packCount", fn := fun _ => fun
  | [d1, d2] => { results := [.lit (.bool true)], args := [d1, d2] }
  | _ => none }
def packCountRow : OpenClaim := { program := "ytkamhidjofngdaa", sum := "a50141ab8ffd5d1bf86377032b6bb26913bc405aadb4d48a023c8b25a902917f", func := "hatstand/hatstandlaw1.PackCount", spec := "packCount", unfollowed := true, recurses := true, apart := false }
def PackCountSaid : Prop := packCountRow.holds Try.pinned (OpenSpec.ofChange packCountSpec)

/-- ITS FALSE NEIGHBOUR: 'it returns false'. Refute it at one input. -/
def packCountWrong : ChangeSpec := { name := "packCount", fn := fun _ => fun
  | [d1, d2] => { results := [.lit (.bool false)], args := [d1, d2] }
  | _ => none }
def PackCountWrongFalsely : Prop := packCountRow.holds Try.pinned (OpenSpec.ofChange packCountWrong)

/- THE SECOND FORM. 'bulk': how many values and letters a reading holds, each counted each time it is reached (what is shared counts as often as it is met; a slice's spare places count too). A statement '..UptoSaid' is the law's where the arguments, and the package variables that the reading takes, are together of bulk at most 1048576: NARROWER than '..Said'. Prove '..Said' where nothing that the law and all that it calls make is longer than what came in: it says more and counts as full. Else prove '..UptoSaid'. A law counts once. -/
mutual
def uptoBulk {H : Type} : DataW H → Nat
  | .lit (.string bytes) => bytes.length + 1
  | .lit _ => 1
  | .nil => 1
  | .ptr d => uptoBulk d + 1
  | .slice elems spare => uptoBulkAll elems + uptoBulkAll spare + 1
  | .agg parts => uptoBulkAll parts + 1
  | .iface _ d => uptoBulk d + 1
  | .map entries => uptoBulkEntries entries + 1
  | .held _ => 1
def uptoBulkAll {H : Type} : List (DataW H) → Nat
  | [] => 0
  | d :: r => uptoBulk d + uptoBulkAll r
def uptoBulkEntries {H : Type} : List (Lit × DataW H) → Nat
  | [] => 0
  | x :: r => uptoBulkEntry x + uptoBulkEntries r
def uptoBulkEntry {H : Type} : Lit × DataW H → Nat
  | (.string bytes, d) => bytes.length + uptoBulk d + 1
  | (_, d) => uptoBulk d + 1
 end
def uptoSmall : (H : Type) → List (DataW H) → Bool := fun _ ds => decide (uptoBulkAll ds ≤ 1048576)
def OpenSpec.upto (s : _root_.Go.ChangeSpec) : _root_.Go.OpenSpec := { _root_.Go.OpenSpec.ofChange s with cond := some uptoSmall }

/-- 'hatstandlaw1.PackBack', WHERE WHAT IT READS IS OF BULK AT MOST 1048576: true; the input reads as it did. -/
def packBackUptoRow : OpenClaim := { program := "ytkamhidjofngdaa", sum := "a50141ab8ffd5d1bf86377032b6bb26913bc405aadb4d48a023c8b25a902917f", func := "hatstand/hatstandlaw1.PackBack", spec := "packBack", unfollowed := true, recurses := true, apart := false, narrowed := true }
def PackBackUptoSaid : Prop := packBackUptoRow.holds Try.pinned (OpenSpec.upto packBackSpec)

/-- 'hatstandlaw1.PackBlind', WHERE WHAT IT READS IS OF BULK AT MOST 1048576: true; the input reads as it did. -/
def packBlindUptoRow : OpenClaim := { program := "ytkamhidjofngdaa", sum := "a50141ab8ffd5d1bf86377032b6bb26913bc405aadb4d48a023c8b25a902917f", func := "hatstand/hatstandlaw1.PackBlind", spec := "packBlind", unfollowed := true, recurses := true, apart := false, narrowed := true }
def PackBlindUptoSaid : Prop := packBlindUptoRow.holds Try.pinned (OpenSpec.upto packBlindSpec)

/-- 'hatstandlaw1.PackTells', WHERE WHAT IT READS IS OF BULK AT MOST 1048576: true; the input reads as it did. -/
def packTellsUptoRow : OpenClaim := { program := "ytkamhidjofngdaa", sum := "a50141ab8ffd5d1bf86377032b6bb26913bc405aadb4d48a023c8b25a902917f", func := "hatstand/hatstandlaw1.PackTells", spec := "packTells", unfollowed := true, recurses := true, apart := false, narrowed := true }
def PackTellsUptoSaid : Prop := packTellsUptoRow.holds Try.pinned (OpenSpec.upto packTellsSpec)

/-- 'hatstandlaw1.PackRow', WHERE WHAT IT READS IS OF BULK AT MOST 1048576: true; the input reads as it did. -/
def packRowUptoRow : OpenClaim := { program := "ytkamhidjofngdaa", sum := "a50141ab8ffd5d1bf86377032b6bb26913bc405aadb4d48a023c8b25a902917f", func := "hatstand/hatstandlaw1.PackRow", spec := "packRow", unfollowed := true, recurses := true, apart := false, narrowed := true }
def PackRowUptoSaid : Prop := packRowUptoRow.holds Try.pinned (OpenSpec.upto packRowSpec)

/-- 'hatstandlaw1.PackTurns', WHERE WHAT IT READS IS OF BULK AT MOST 1048576: true; the input reads as it did. -/
def packTurnsUptoRow : OpenClaim := { program := "ytkamhidjofngdaa", sum := "a50141ab8ffd5d1bf86377032b6bb26913bc405aadb4d48a023c8b25a902917f", func := "hatstand/hatstandlaw1.PackTurns", spec := "packTurns", unfollowed := true, recurses := true, apart := false, narrowed := true }
def PackTurnsUptoSaid : Prop := packTurnsUptoRow.holds Try.pinned (OpenSpec.upto packTurnsSpec)

/-- 'hatstandlaw1.PackCount', WHERE WHAT IT READS IS OF BULK AT MOST 1048576: true; the input reads as it did. -/
def packCountUptoRow : OpenClaim := { program := "ytkamhidjofngdaa", sum := "a50141ab8ffd5d1bf86377032b6bb26913bc405aadb4d48a023c8b25a902917f", func := "hatstand/hatstandlaw1.PackCount", spec := "packCount", unfollowed := true, recurses := true, apart := false, narrowed := true }
def PackCountUptoSaid : Prop := packCountUptoRow.holds Try.pinned (OpenSpec.upto packCountSpec)

end Rows
end Go.Proofs.Ytkamhidjofngdaa
