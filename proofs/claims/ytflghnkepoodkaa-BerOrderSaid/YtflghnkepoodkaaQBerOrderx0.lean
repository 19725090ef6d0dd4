/- Walks of the functions that the law BerOrder reaches: each call comes to the answer of its plain function, which stands beside it. No conditions. (Turned by wip/qtext.py out of what the kit's print wrote for this law, whose own text falls in Lean.) -/
import Derived.Test.YtflghnkepoodkaaProg
import Derived.Below
import Derived.Deep.Draws
import Derived.Deep.AppendLies
import Derived.Maps.AppendAt
import Derived.OwnWalk
import Derived.Laws.BytesArg
import Derived.Laws.MakeOwn
import Derived.Laws.OwnMore
import Derived.Deep.OwnRows
import Derived.Tactics
import Derived.Lib.ConvBytes
import Derived.Laws.Slices
import Derived.WalkKit
import Derived.KernelRfl
import Derived.RowKit3
import Derived.Deep.LoopGhost
import Derived.Deep.QuietTactic
import Derived.BigQuiet
import Derived.WideLaws
import Derived.Deep.DeepCutAuto
import Derived.Deep.CutBlock
import Derived.Deep.RegionHeld3
import Derived.Laws.Rows
import Derived.Lib.AppendStr
import Derived.ArgAppend
import Derived.Laws.IdiomCopy
import Derived.OrdersHeld
import Derived.Laws.BitsLemmas
import Derived.RowKit
import Derived.Test.YtflghnkepoodkaaWWords
import Derived.Test.YtflghnkepoodkaaWLast
import Derived.Test.YtflghnkepoodkaaWTab
import Derived.Test.YtflghnkepoodkaaWFour
import Derived.Test.YtflghnkepoodkaaWQPut
import Derived.Test.YtflghnkepoodkaaWApart
import Derived.Test.YtflghnkepoodkaaWArr
import Derived.Test.YtflghnkepoodkaaWZeros
import Derived.Test.YtflghnkepoodkaaWFoot
import Derived.Test.YtflghnkepoodkaaWKept
import Derived.Test.YtflghnkepoodkaaWShare
import Derived.Test.YtflghnkepoodkaaWN
import Derived.Test.YtflghnkepoodkaaWFootNe
import Derived.Test.YtflghnkepoodkaaWAt
import Derived.Test.YtflghnkepoodkaaWEqStruct
import Derived.Test.YtflghnkepoodkaaWRepsOne
import Derived.Test.YtflghnkepoodkaaWInv
import Derived.Test.YtflghnkepoodkaaWInvWords
import Derived.Test.YtflghnkepoodkaaWGuard
import Derived.Test.YtflghnkepoodkaaWNEv
import Derived.Test.YtflghnkepoodkaaWMore
namespace Go.Proofs.Ytflghnkepoodkaa.QBerOrder
open Go.RowKit Go.Proofs.YtflghnkepoodkaaW.PrintWords Go.Proofs.YtflghnkepoodkaaW.PrintLast Go.Proofs.YtflghnkepoodkaaW.PrintMore
attribute [local go_sem] max2_int min2_int max_two min_two max_three min_three max_four min_four   -- for this text's walks alone
set_option linter.unusedVariables false
set_option linter.unusedSimpArgs false



def errW : Option Int → Value
  | none => .nilIface
  | some c => .iface 0 (.int .i64 c)
theorem errW_none : errW none = .nilIface := rfl
theorem errW_some (c : Int) : errW (some c) = .iface 0 (.int .i64 c) := rfl

theorem info5 : (Try.prog.info? 5).map (fun i => (i.zero, i.size, i.bytes)) = some (some (.int .u8 0), 1, 1) := by kernel_rfl
-- the values' own types

end Go.Proofs.Ytflghnkepoodkaa.QBerOrder
