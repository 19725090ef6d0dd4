/- Walks of the functions that the law TagKinds reaches: each call comes to the answer of its plain function, which stands beside it. No conditions. (Turned by wip/qtext.py out of what the kit's print wrote for this law, whose own text falls in Lean.) -/
import Derived.Test.YtjbhdfnicbamoaaProg
import Derived.Below
import Derived.Deep.Draws
import Derived.Deep.AppendLies
import Derived.Maps.AppendAt
import Derived.OwnWalk
import Derived.Laws.BytesArg
import Derived.Laws.MakeOwn
import Derived.Laws.OwnMore
import Derived.Deep.OwnRows
import Derived.Tactics
import Derived.Lib.ConvBytes
import Derived.Laws.Slices
import Derived.WalkKit
import Derived.KernelRfl
import Derived.RowKit3
import Derived.Deep.LoopGhost
import Derived.Deep.QuietTactic
import Derived.BigQuiet
import Derived.WideLaws
import Derived.Deep.DeepCutAuto
import Derived.Deep.CutBlock
import Derived.Deep.RegionHeld3
import Derived.Laws.Rows
import Derived.Lib.AppendStr
import Derived.ArgAppend
import Derived.Laws.IdiomCopy
import Derived.OrdersHeld
import Derived.Laws.BitsLemmas
import Derived.RowKit
import Derived.Test.YtjbhdfnicbamoaaWWords
import Derived.Test.YtjbhdfnicbamoaaWLast
import Derived.Test.YtjbhdfnicbamoaaWTab
import Derived.Test.YtjbhdfnicbamoaaWFour
import Derived.Test.YtjbhdfnicbamoaaWQPut
import Derived.Test.YtjbhdfnicbamoaaWApart
import Derived.Test.YtjbhdfnicbamoaaWArr
import Derived.Test.YtjbhdfnicbamoaaWZeros
import Derived.Test.YtjbhdfnicbamoaaWFoot
import Derived.Test.YtjbhdfnicbamoaaWKept
import Derived.Test.YtjbhdfnicbamoaaWShare
import Derived.Test.YtjbhdfnicbamoaaWN
import Derived.Test.YtjbhdfnicbamoaaWFootNe
import Derived.Test.YtjbhdfnicbamoaaWAt
import Derived.Test.YtjbhdfnicbamoaaWEqStruct
import Derived.Test.YtjbhdfnicbamoaaWRepsOne
import Derived.Test.YtjbhdfnicbamoaaWInv
import Derived.Test.YtjbhdfnicbamoaaWInvWords
import Derived.Test.YtjbhdfnicbamoaaWGuard
import Derived.Test.YtjbhdfnicbamoaaWNEv
import Derived.Test.YtjbhdfnicbamoaaWMore
namespace Go.Proofs.Ytjbhdfnicbamoaa.QTagKinds
open Go.RowKit Go.Proofs.YtjbhdfnicbamoaaW.PrintWords Go.Proofs.YtjbhdfnicbamoaaW.PrintLast Go.Proofs.YtjbhdfnicbamoaaW.PrintMore
attribute [local go_sem] max2_int min2_int max_two min_two max_three min_three max_four min_four   -- for this text's walks alone
set_option linter.unusedVariables false
set_option linter.unusedSimpArgs false



def errW : Option Int → Value
  | none => .nilIface
  | some c => .iface 0 (.int .i64 c)
theorem errW_none : errW none = .nilIface := rfl
theorem errW_some (c : Int) : errW (some c) = .iface 0 (.int .i64 c) := rfl

theorem info5 : (Try.prog.info? 5).map (fun i => (i.zero, i.size, i.bytes)) = some (some (.int .u8 0), 1, 1) := by kernel_rfl
-- the values' own types

end Go.Proofs.Ytjbhdfnicbamoaa.QTagKinds
