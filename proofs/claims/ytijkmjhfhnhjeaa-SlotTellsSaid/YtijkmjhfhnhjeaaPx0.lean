/- Walks, written by a program for this claim: each Go function that the laws reach comes to what its Lean function says. -/
import Derived.Test.YtijkmjhfhnhjeaaProg
import Derived.Below
import Derived.Deep.Draws
import Derived.Deep.AppendLies
import Derived.Maps.AppendAt
import Derived.OwnWalk
import Derived.Laws.BytesArg
import Derived.Laws.MakeOwn
import Derived.Laws.OwnMore
import Derived.Deep.OwnRows
import Derived.Tactics
import Derived.Lib.ConvBytes
import Derived.Laws.Slices
import Derived.WalkKit
import Derived.KernelRfl
import Derived.RowKit3
import Derived.Deep.LoopGhost
import Derived.Deep.QuietTactic
import Derived.BigQuiet
import Derived.WideLaws
import Derived.Deep.DeepCutAuto
import Derived.Deep.CutBlock
import Derived.Deep.RegionHeld3
import Derived.Laws.Rows
import Derived.Lib.AppendStr
import Derived.ArgAppend
import Derived.Laws.IdiomCopy
import Derived.OrdersHeld
import Derived.Laws.BitsLemmas
import Derived.RowKit
import Derived.Test.YtijkmjhfhnhjeaaWWords
import Derived.Test.YtijkmjhfhnhjeaaWLast
import Derived.Test.YtijkmjhfhnhjeaaWTab
import Derived.Test.YtijkmjhfhnhjeaaWFour
import Derived.Test.YtijkmjhfhnhjeaaWQPut
import Derived.Test.YtijkmjhfhnhjeaaWApart
import Derived.Test.YtijkmjhfhnhjeaaWArr
import Derived.Test.YtijkmjhfhnhjeaaWZeros
import Derived.Test.YtijkmjhfhnhjeaaWFoot
import Derived.Test.YtijkmjhfhnhjeaaWKept
import Derived.Test.YtijkmjhfhnhjeaaWShare
import Derived.Test.YtijkmjhfhnhjeaaWN
import Derived.Test.YtijkmjhfhnhjeaaWFootNe
import Derived.Test.YtijkmjhfhnhjeaaWAt
import Derived.Test.YtijkmjhfhnhjeaaWEqStruct
import Derived.Test.YtijkmjhfhnhjeaaWRepsOne
import Derived.Test.YtijkmjhfhnhjeaaWInv
import Derived.Test.YtijkmjhfhnhjeaaWInvWords
import Derived.Test.YtijkmjhfhnhjeaaWGuard
import Derived.Test.YtijkmjhfhnhjeaaWNEv
import Derived.Test.YtijkmjhfhnhjeaaWMore
namespace Go.Proofs.Ytijkmjhfhnhjeaa.P
open Go.RowKit Go.Proofs.YtijkmjhfhnhjeaaW.PrintWords Go.Proofs.YtijkmjhfhnhjeaaW.PrintLast Go.Proofs.YtijkmjhfhnhjeaaW.PrintMore
attribute [local go_sem] max2_int min2_int max_two min_two max_three min_three max_four min_four   -- for this text's walks alone
set_option linter.unusedVariables false
set_option linter.unusedSimpArgs false



def errW : Option Int → Value
  | none => .nilIface
  | some c => .iface 0 (.int .i64 c)
theorem errW_none : errW none = .nilIface := rfl
theorem errW_some (c : Int) : errW (some c) = .iface 0 (.int .i64 c) := rfl

-- the values' own types

end Go.Proofs.Ytijkmjhfhnhjeaa.P
