-- Written by the session's own program (wip/gen).
import Derived.Test.YtegbklmmkamjgaaProg
import Derived.Below
import Derived.Deep.Draws
import Derived.Deep.AppendLies
import Derived.Maps.AppendAt
import Derived.OwnWalk
import Derived.Laws.BytesArg
import Derived.Laws.MakeOwn
import Derived.Laws.OwnMore
import Derived.Deep.OwnRows
import Derived.Tactics
import Derived.Lib.ConvBytes
import Derived.Laws.Slices
import Derived.WalkKit
import Derived.KernelRfl
import Derived.RowKit3
import Derived.Deep.LoopGhost
import Derived.Deep.QuietTactic
import Derived.BigQuiet
import Derived.WideLaws
import Derived.Deep.DeepCutAuto
import Derived.Deep.CutBlock
import Derived.Deep.RegionHeld3
import Derived.Laws.Rows
import Derived.Lib.AppendStr
import Derived.ArgAppend
import Derived.Laws.IdiomCopy
import Derived.OrdersHeld
import Derived.Laws.BitsLemmas
import Derived.RowKit
import Derived.Laws.RangeString
import Derived.Laws.RangeAny
import Derived.Laws.BitsAllLaws
import Derived.RegionTactic
import Derived.ChangeAlike
import Derived.Laws.IdiomCopy
import Derived.RangeFuncBox
import Derived.RangeFuncLeaves
import Derived.Shelf.Abstract
import Derived.WalkKit
import Derived.OwnWalkIn
import Derived.TacticsInMore
import Derived.LoopNIn
import Derived.LoopIn
import Derived.Maps.AppendAt
import Derived.Sort.OwnSortedInts
import Derived.Test.YtegbklmmkamjgaaSort
import Derived.Test.YtegbklmmkamjgaaWWords
import Derived.Test.YtegbklmmkamjgaaWLast
import Derived.Test.YtegbklmmkamjgaaWTab
import Derived.Test.YtegbklmmkamjgaaWFour
import Derived.Test.YtegbklmmkamjgaaWQPut
import Derived.Test.YtegbklmmkamjgaaWApart
import Derived.Test.YtegbklmmkamjgaaWArr
import Derived.Test.YtegbklmmkamjgaaWZeros
import Derived.Test.YtegbklmmkamjgaaWFoot
import Derived.Test.YtegbklmmkamjgaaWKept
import Derived.Test.YtegbklmmkamjgaaWShare
import Derived.Test.YtegbklmmkamjgaaWN
import Derived.Test.YtegbklmmkamjgaaWFootNe
import Derived.Test.YtegbklmmkamjgaaWAt
import Derived.Test.YtegbklmmkamjgaaWEqStruct
import Derived.Test.YtegbklmmkamjgaaWRepsOne
import Derived.Test.YtegbklmmkamjgaaWInv
import Derived.Test.YtegbklmmkamjgaaWInvWords
import Derived.Test.YtegbklmmkamjgaaWGuard
import Derived.Test.YtegbklmmkamjgaaWNEv
import Derived.Test.YtegbklmmkamjgaaWMore
namespace Go.Proofs.Ytegbklmmkamjgaa.PBT
open Go.RowKit Go.Proofs.YtegbklmmkamjgaaW.PrintWords Go.Proofs.YtegbklmmkamjgaaW.PrintLast Go.Proofs.YtegbklmmkamjgaaW.PrintMore
attribute [local go_sem] max2_int min2_int max_two min_two max_three min_three max_four min_four   -- for this text's walks alone
set_option linter.unusedVariables false
set_option linter.unusedSimpArgs false



def errW : Option Int → Value
  | none => .nilIface
  | some c => .iface 0 (.int .i64 c)
theorem errW_none : errW none = .nilIface := rfl
theorem errW_some (c : Int) : errW (some c) = .iface 0 (.int .i64 c) := rfl

theorem info3 : (Try.prog.info? 3).map (fun i => (i.zero, i.size, i.bytes)) = some (some (.int .i64 0), 1, 8) := by kernel_rfl
-- the values' own types

end Go.Proofs.Ytegbklmmkamjgaa.PBT
