-- Written by the session's own program xprint.py, which runs the kit's print over functions given by hand.
import Derived.Test.YtpmclpblnhjjeaaDoorProg
import Derived.Below
import Derived.Deep.Draws
import Derived.Deep.AppendLies
import Derived.Maps.AppendAt
import Derived.OwnWalk
import Derived.Laws.BytesArg
import Derived.Laws.MakeOwn
import Derived.Laws.OwnMore
import Derived.Deep.OwnRows
import Derived.Tactics
import Derived.Lib.ConvBytes
import Derived.Laws.Slices
import Derived.WalkKit
import Derived.KernelRfl
import Derived.RowKit3
import Derived.Deep.LoopGhost
import Derived.Deep.QuietTactic
import Derived.BigQuiet
import Derived.WideLaws
import Derived.Deep.DeepCutAuto
import Derived.Deep.CutBlock
import Derived.Deep.RegionHeld3
import Derived.Laws.Rows
import Derived.Lib.AppendStr
import Derived.ArgAppend
import Derived.Laws.IdiomCopy
import Derived.OrdersHeld
import Derived.Laws.BitsLemmas
import Derived.RowKit
import Derived.Lib.Hide
import Derived.ScopeJumps
import Derived.WalkMore
import Derived.Test.YtpmclpblnhjjeaaDoorScope
import Derived.Test.YtpmclpblnhjjeaaDoorTabs
import Derived.Lib.AppendIntMem
import Derived.Lib.AtoiErrMem
import Derived.Deep.RegionHeld3
import Derived.Test.YtpmclpblnhjjeaaDoorShelfA
import Derived.Test.YtpmclpblnhjjeaaDoorWWords
import Derived.Test.YtpmclpblnhjjeaaDoorWLast
import Derived.Test.YtpmclpblnhjjeaaDoorWTab
import Derived.Test.YtpmclpblnhjjeaaDoorWFour
import Derived.Test.YtpmclpblnhjjeaaDoorWQPut
import Derived.Test.YtpmclpblnhjjeaaDoorWApart
import Derived.Test.YtpmclpblnhjjeaaDoorWArr
import Derived.Test.YtpmclpblnhjjeaaDoorWZeros
import Derived.Test.YtpmclpblnhjjeaaDoorWFoot
import Derived.Test.YtpmclpblnhjjeaaDoorWKept
import Derived.Test.YtpmclpblnhjjeaaDoorWShare
import Derived.Test.YtpmclpblnhjjeaaDoorWN
import Derived.Test.YtpmclpblnhjjeaaDoorWFootNe
import Derived.Test.YtpmclpblnhjjeaaDoorWAt
import Derived.Test.YtpmclpblnhjjeaaDoorWEqStruct
import Derived.Test.YtpmclpblnhjjeaaDoorWRepsOne
import Derived.Test.YtpmclpblnhjjeaaDoorWInv
import Derived.Test.YtpmclpblnhjjeaaDoorWInvWords
import Derived.Test.YtpmclpblnhjjeaaDoorWGuard
import Derived.Test.YtpmclpblnhjjeaaDoorWNEv
import Derived.Test.YtpmclpblnhjjeaaDoorWMore
namespace Go.Proofs.YtpmclpblnhjjeaaDoor.P
open Go.RowKit Go.Proofs.YtpmclpblnhjjeaaDoorW.PrintWords Go.Proofs.YtpmclpblnhjjeaaDoorW.PrintLast Go.Proofs.YtpmclpblnhjjeaaDoorW.PrintMore
attribute [local go_sem] max2_int min2_int max_two min_two max_three min_three max_four min_four   -- for this text's walks alone
set_option linter.unusedVariables false
set_option linter.unusedSimpArgs false



def errW : Option Int → Value
  | none => .nilIface
  | some c => .iface 0 (.int .i64 c)
theorem errW_none : errW none = .nilIface := rfl
theorem errW_some (c : Int) : errW (some c) = .iface 0 (.int .i64 c) := rfl

theorem info3 : (Tryd.prog.info? 3).map (fun i => (i.zero, i.size, i.bytes)) = some (some (.int .i64 0), 1, 8) := by kernel_rfl
theorem info5 : (Tryd.prog.info? 5).map (fun i => (i.zero, i.size, i.bytes)) = some (some (.int .u8 0), 1, 1) := by kernel_rfl
-- the values' own types

end Go.Proofs.YtpmclpblnhjjeaaDoor.P
