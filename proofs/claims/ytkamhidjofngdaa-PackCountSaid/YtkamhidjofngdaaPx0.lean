/- Walks, written by a program for this claim: each Go function that the laws reach comes to what its Lean function says. -/
import Derived.Test.YtkamhidjofngdaaProg
import Derived.Below
import Derived.Deep.Draws
import Derived.Deep.AppendLies
import Derived.Maps.AppendAt
import Derived.OwnWalk
import Derived.Laws.BytesArg
import Derived.Laws.MakeOwn
import Derived.Laws.OwnMore
import Derived.Deep.OwnRows
import Derived.Tactics
import Derived.Lib.ConvBytes
import Derived.Laws.Slices
import Derived.WalkKit
import Derived.KernelRfl
import Derived.RowKit3
import Derived.Deep.LoopGhost
import Derived.Deep.QuietTactic
import Derived.BigQuiet
import Derived.WideLaws
import Derived.Deep.DeepCutAuto
import Derived.Deep.CutBlock
import Derived.Deep.RegionHeld3
import Derived.Laws.Rows
import Derived.Lib.AppendStr
import Derived.ArgAppend
import Derived.Laws.IdiomCopy
import Derived.OrdersHeld
import Derived.Laws.BitsLemmas
import Derived.RowKit
import Derived.Test.YtkamhidjofngdaaWWords
import Derived.Test.YtkamhidjofngdaaWLast
import Derived.Test.YtkamhidjofngdaaWTab
import Derived.Test.YtkamhidjofngdaaWFour
import Derived.Test.YtkamhidjofngdaaWQPut
import Derived.Test.YtkamhidjofngdaaWApart
import Derived.Test.YtkamhidjofngdaaWArr
import Derived.Test.YtkamhidjofngdaaWZeros
import Derived.Test.YtkamhidjofngdaaWFoot
import Derived.Test.YtkamhidjofngdaaWKept
import Derived.Test.YtkamhidjofngdaaWShare
import Derived.Test.YtkamhidjofngdaaWN
import Derived.Test.YtkamhidjofngdaaWFootNe
import Derived.Test.YtkamhidjofngdaaWAt
import Derived.Test.YtkamhidjofngdaaWEqStruct
import Derived.Test.YtkamhidjofngdaaWRepsOne
import Derived.Test.YtkamhidjofngdaaWInv
import Derived.Test.YtkamhidjofngdaaWInvWords
import Derived.Test.YtkamhidjofngdaaWGuard
import Derived.Test.YtkamhidjofngdaaWNEv
import Derived.Test.YtkamhidjofngdaaWMore
namespace Go.Proofs.Ytkamhidjofngdaa.P
open Go.RowKit Go.Proofs.YtkamhidjofngdaaW.PrintWords Go.Proofs.YtkamhidjofngdaaW.PrintLast Go.Proofs.YtkamhidjofngdaaW.PrintMore
attribute [local go_sem] max2_int min2_int max_two min_two max_three min_three max_four min_four   -- for this text's walks alone
set_option linter.unusedVariables false
set_option linter.unusedSimpArgs false



def errW : Option Int → Value
  | none => .nilIface
  | some c => .iface 0 (.int .i64 c)
theorem errW_none : errW none = .nilIface := rfl
theorem errW_some (c : Int) : errW (some c) = .iface 0 (.int .i64 c) := rfl

theorem info23 : (Try.prog.info? 23).map (fun i => (i.zero, i.size, i.bytes)) = some (some (.int .u64 0), 1, 8) := by kernel_rfl
-- the values' own types

end Go.Proofs.Ytkamhidjofngdaa.P
