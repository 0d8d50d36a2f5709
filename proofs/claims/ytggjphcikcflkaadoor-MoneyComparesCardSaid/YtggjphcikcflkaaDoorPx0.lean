-- Written by the session's own program xprint.py, which runs the kit's print over functions given by hand.
import Derived.Test.YtggjphcikcflkaaDoorProg
import Derived.Below
import Derived.Deep.Draws
import Derived.Deep.AppendLies
import Derived.Maps.AppendAt
import Derived.OwnWalk
import Derived.Laws.BytesArg
import Derived.Laws.MakeOwn
import Derived.Laws.OwnMore
import Derived.Deep.OwnRows
import Derived.Tactics
import Derived.Lib.ConvBytes
import Derived.Laws.Slices
import Derived.WalkKit
import Derived.KernelRfl
import Derived.RowKit3
import Derived.Deep.LoopGhost
import Derived.Deep.QuietTactic
import Derived.BigQuiet
import Derived.WideLaws
import Derived.Deep.DeepCutAuto
import Derived.Deep.CutBlock
import Derived.Deep.RegionHeld3
import Derived.Laws.Rows
import Derived.Lib.AppendStr
import Derived.ArgAppend
import Derived.Laws.IdiomCopy
import Derived.OrdersHeld
import Derived.Laws.BitsLemmas
import Derived.RowKit
import Derived.Lib.Hide
import Derived.ScopeJumps
import Derived.WalkMore
import Derived.Test.YtggjphcikcflkaaDoorScope
import Derived.Test.YtggjphcikcflkaaDoorTabs
import Derived.Lib.AppendIntMem
import Derived.Deep.RegionHeld3
import Derived.Test.YtggjphcikcflkaaDoorWWords
import Derived.Test.YtggjphcikcflkaaDoorWLast
import Derived.Test.YtggjphcikcflkaaDoorWTab
import Derived.Test.YtggjphcikcflkaaDoorWFour
import Derived.Test.YtggjphcikcflkaaDoorWQPut
import Derived.Test.YtggjphcikcflkaaDoorWApart
import Derived.Test.YtggjphcikcflkaaDoorWArr
import Derived.Test.YtggjphcikcflkaaDoorWZeros
import Derived.Test.YtggjphcikcflkaaDoorWFoot
import Derived.Test.YtggjphcikcflkaaDoorWKept
import Derived.Test.YtggjphcikcflkaaDoorWShare
import Derived.Test.YtggjphcikcflkaaDoorWN
import Derived.Test.YtggjphcikcflkaaDoorWFootNe
import Derived.Test.YtggjphcikcflkaaDoorWAt
import Derived.Test.YtggjphcikcflkaaDoorWEqStruct
import Derived.Test.YtggjphcikcflkaaDoorWRepsOne
import Derived.Test.YtggjphcikcflkaaDoorWInv
import Derived.Test.YtggjphcikcflkaaDoorWInvWords
import Derived.Test.YtggjphcikcflkaaDoorWGuard
import Derived.Test.YtggjphcikcflkaaDoorWNEv
import Derived.Test.YtggjphcikcflkaaDoorWMore
namespace Go.Proofs.YtggjphcikcflkaaDoor.P
open Go.RowKit Go.Proofs.YtggjphcikcflkaaDoorW.PrintWords Go.Proofs.YtggjphcikcflkaaDoorW.PrintLast Go.Proofs.YtggjphcikcflkaaDoorW.PrintMore
attribute [local go_sem] max2_int min2_int max_two min_two max_three min_three max_four min_four   -- for this text's walks alone
set_option linter.unusedVariables false
set_option linter.unusedSimpArgs false



def errW : Option Int → Value
 | none => .nilIface
 | some c => .iface 0 (.int .i64 c)
theorem errW_none : errW none = .nilIface := rfl
theorem errW_some (c : Int) : errW (some c) = .iface 0 (.int .i64 c) := rfl

theorem info3 : (Tryd.prog.info? 3).map (fun i => (i.zero, i.size, i.bytes)) = some (some (.int .i64 0), 1, 8) := by kernel_rfl
theorem info5 : (Tryd.prog.info? 5).map (fun i => (i.zero, i.size, i.bytes)) = some (some (.int .u8 0), 1, 1) := by kernel_rfl
-- the values' own types

end Go.Proofs.YtggjphcikcflkaaDoor.P
