/- Walks, written by a program for this claim: each Go function that the laws reach comes to what its Lean function says. -/
import Derived.Test.YtbcbmpklehobcaaProg
import Derived.Below
import Derived.Deep.Draws
import Derived.Deep.AppendLies
import Derived.Maps.AppendAt
import Derived.OwnWalk
import Derived.Laws.BytesArg
import Derived.Laws.MakeOwn
import Derived.Laws.OwnMore
import Derived.Deep.OwnRows
import Derived.Tactics
import Derived.Lib.ConvBytes
import Derived.Laws.Slices
import Derived.WalkKit
import Derived.KernelRfl
import Derived.RowKit3
import Derived.Deep.LoopGhost
import Derived.Deep.QuietTactic
import Derived.BigQuiet
import Derived.WideLaws
import Derived.Deep.DeepCutAuto
import Derived.Deep.CutBlock
import Derived.Deep.RegionHeld3
import Derived.Laws.Rows
import Derived.Lib.AppendStr
import Derived.ArgAppend
import Derived.Laws.IdiomCopy
import Derived.OrdersHeld
import Derived.Laws.BitsLemmas
import Derived.RowKit
import Derived.Test.YtbcbmpklehobcaaWWords
import Derived.Test.YtbcbmpklehobcaaWLast
import Derived.Test.YtbcbmpklehobcaaWTab
import Derived.Test.YtbcbmpklehobcaaWFour
import Derived.Test.YtbcbmpklehobcaaWQPut
import Derived.Test.YtbcbmpklehobcaaWApart
import Derived.Test.YtbcbmpklehobcaaWArr
import Derived.Test.YtbcbmpklehobcaaWZeros
import Derived.Test.YtbcbmpklehobcaaWFoot
import Derived.Test.YtbcbmpklehobcaaWKept
import Derived.Test.YtbcbmpklehobcaaWShare
import Derived.Test.YtbcbmpklehobcaaWN
import Derived.Test.YtbcbmpklehobcaaWFootNe
import Derived.Test.YtbcbmpklehobcaaWAt
import Derived.Test.YtbcbmpklehobcaaWEqStruct
import Derived.Test.YtbcbmpklehobcaaWRepsOne
import Derived.Test.YtbcbmpklehobcaaWInv
import Derived.Test.YtbcbmpklehobcaaWInvWords
import Derived.Test.YtbcbmpklehobcaaWGuard
import Derived.Test.YtbcbmpklehobcaaWNEv
import Derived.Test.YtbcbmpklehobcaaWMore
namespace Go.Proofs.Ytbcbmpklehobcaa.P
open Go.RowKit Go.Proofs.YtbcbmpklehobcaaW.PrintWords Go.Proofs.YtbcbmpklehobcaaW.PrintLast Go.Proofs.YtbcbmpklehobcaaW.PrintMore
attribute [local go_sem] max2_int min2_int max_two min_two max_three min_three max_four min_four   -- for this text's walks alone
set_option linter.unusedVariables false
set_option linter.unusedSimpArgs false



def errW : Option Int → Value
  | none => .nilIface
  | some c => .iface 0 (.int .i64 c)
theorem errW_none : errW none = .nilIface := rfl
theorem errW_some (c : Int) : errW (some c) = .iface 0 (.int .i64 c) := rfl

-- the values' own types

end Go.Proofs.Ytbcbmpklehobcaa.P
