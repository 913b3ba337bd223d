-- Written by the session's own program (wip/gen).
import Derived.Test.YtnggjnhfdjjphaaProg
import Derived.Below
import Derived.Deep.Draws
import Derived.Deep.AppendLies
import Derived.Maps.AppendAt
import Derived.OwnWalk
import Derived.Laws.BytesArg
import Derived.Laws.MakeOwn
import Derived.Laws.OwnMore
import Derived.Deep.OwnRows
import Derived.Tactics
import Derived.Lib.ConvBytes
import Derived.Laws.Slices
import Derived.WalkKit
import Derived.KernelRfl
import Derived.RowKit3
import Derived.Deep.LoopGhost
import Derived.Deep.QuietTactic
import Derived.BigQuiet
import Derived.WideLaws
import Derived.Deep.DeepCutAuto
import Derived.Deep.CutBlock
import Derived.Deep.RegionHeld3
import Derived.Laws.Rows
import Derived.Lib.AppendStr
import Derived.ArgAppend
import Derived.Laws.IdiomCopy
import Derived.OrdersHeld
import Derived.Laws.BitsLemmas
import Derived.RowKit
import Derived.Laws.RangeString
import Derived.Laws.RangeAny
import Derived.Laws.BitsAllLaws
import Derived.RegionTactic
import Derived.ChangeAlike
import Derived.Laws.IdiomCopy
import Derived.Deep.RegionWith
import Derived.Test.YtnggjnhfdjjphaaWWords
import Derived.Test.YtnggjnhfdjjphaaWLast
import Derived.Test.YtnggjnhfdjjphaaWTab
import Derived.Test.YtnggjnhfdjjphaaWFour
import Derived.Test.YtnggjnhfdjjphaaWQPut
import Derived.Test.YtnggjnhfdjjphaaWApart
import Derived.Test.YtnggjnhfdjjphaaWArr
import Derived.Test.YtnggjnhfdjjphaaWZeros
import Derived.Test.YtnggjnhfdjjphaaWFoot
import Derived.Test.YtnggjnhfdjjphaaWKept
import Derived.Test.YtnggjnhfdjjphaaWShare
import Derived.Test.YtnggjnhfdjjphaaWN
import Derived.Test.YtnggjnhfdjjphaaWFootNe
import Derived.Test.YtnggjnhfdjjphaaWAt
import Derived.Test.YtnggjnhfdjjphaaWEqStruct
import Derived.Test.YtnggjnhfdjjphaaWRepsOne
import Derived.Test.YtnggjnhfdjjphaaWInv
import Derived.Test.YtnggjnhfdjjphaaWInvWords
import Derived.Test.YtnggjnhfdjjphaaWGuard
import Derived.Test.YtnggjnhfdjjphaaWNEv
import Derived.Test.YtnggjnhfdjjphaaWMore
namespace Go.Proofs.Ytnggjnhfdjjphaa.PQP
open Go.RowKit Go.Proofs.YtnggjnhfdjjphaaW.PrintWords Go.Proofs.YtnggjnhfdjjphaaW.PrintLast Go.Proofs.YtnggjnhfdjjphaaW.PrintMore
attribute [local go_sem] max2_int min2_int max_two min_two max_three min_three max_four min_four   -- for this text's walks alone
set_option linter.unusedVariables false
set_option linter.unusedSimpArgs false



def errW : Option Int → Value
  | none => .nilIface
  | some c => .iface 0 (.int .i64 c)
theorem errW_none : errW none = .nilIface := rfl
theorem errW_some (c : Int) : errW (some c) = .iface 0 (.int .i64 c) := rfl

-- the values' own types

end Go.Proofs.Ytnggjnhfdjjphaa.PQP
