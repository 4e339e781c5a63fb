/- Made by a program of this seat's own (myprint.py, round the kit's print): what the functions compute, and that they do. -/
import Derived.Test.YtmbfnbnlajchmaaDoorProg
import Derived.Below
import Derived.Deep.Draws
import Derived.Deep.AppendLies
import Derived.Maps.AppendAt
import Derived.OwnWalk
import Derived.Laws.BytesArg
import Derived.Laws.MakeOwn
import Derived.Laws.OwnMore
import Derived.Deep.OwnRows
import Derived.Tactics
import Derived.Lib.ConvBytes
import Derived.Laws.Slices
import Derived.WalkKit
import Derived.KernelRfl
import Derived.RowKit3
import Derived.Deep.LoopGhost
import Derived.Deep.QuietTactic
import Derived.BigQuiet
import Derived.WideLaws
import Derived.Deep.DeepCutAuto
import Derived.Deep.CutBlock
import Derived.Deep.RegionHeld3
import Derived.Laws.Rows
import Derived.Lib.AppendStr
import Derived.ArgAppend
import Derived.Laws.IdiomCopy
import Derived.OrdersHeld
import Derived.Laws.BitsLemmas
import Derived.RowKit
import Derived.Test.YtmbfnbnlajchmaaDoorAdEach
import Derived.Test.YtmbfnbnlajchmaaDoorAdPackW
import Derived.Test.YtmbfnbnlajchmaaDoorAdUnpackW
import Derived.Test.YtmbfnbnlajchmaaDoorAdGrandW
import Derived.RangeFuncNested
import Derived.RangeFuncBound
import Derived.RangeFuncCalls
import Derived.RangeFuncLeaves
import Derived.Shelf.Abstract
import Derived.Shelf.RegionOpen
import Derived.OwnWalkIn
import Derived.TacticsInMore
import Derived.LoopNIn
import Derived.LoopIn
import Derived.Test.YtmbfnbnlajchmaaDoorAdStrOrd
import Derived.Test.YtmbfnbnlajchmaaDoorAdAliasW
import Derived.LoopTactic
import Derived.Test.YtmbfnbnlajchmaaDoorAdWWords
import Derived.Test.YtmbfnbnlajchmaaDoorAdWLast
import Derived.Test.YtmbfnbnlajchmaaDoorAdWTab
import Derived.Test.YtmbfnbnlajchmaaDoorAdWApart
import Derived.Test.YtmbfnbnlajchmaaDoorAdWFoot
import Derived.Test.YtmbfnbnlajchmaaDoorAdWKept
import Derived.Test.YtmbfnbnlajchmaaDoorAdWShare
import Derived.Test.YtmbfnbnlajchmaaDoorAdWN
import Derived.Test.YtmbfnbnlajchmaaDoorAdWEqStruct
import Derived.Test.YtmbfnbnlajchmaaDoorAdWRepsOne
import Derived.Test.YtmbfnbnlajchmaaDoorAdWInv
import Derived.Test.YtmbfnbnlajchmaaDoorAdWGuard
import Derived.Test.YtmbfnbnlajchmaaDoorAdWMore
namespace Go.Proofs.YtmbfnbnlajchmaaDoor.P
open Go.RowKit Go.Proofs.YtmbfnbnlajchmaaDoorW.PrintWords Go.Proofs.YtmbfnbnlajchmaaDoorW.PrintLast Go.Proofs.YtmbfnbnlajchmaaDoorW.PrintMore
attribute [local go_sem] StrOrd.binOp_gtr StrOrd.binOp_leq max2_int min2_int max_two min_two max_three min_three max_four min_four   -- for this text's walks alone
set_option linter.unusedVariables false
set_option linter.unusedSimpArgs false



def errW : Option Int → Value
  | none => .nilIface
  | some c => .iface 0 (.int .i64 c)
theorem errW_none : errW none = .nilIface := rfl
theorem errW_some (c : Int) : errW (some c) = .iface 0 (.int .i64 c) := rfl

theorem info5 : (Tryd.prog.info? 5).map (fun i => (i.zero, i.size, i.bytes)) = some (some (.int .u8 0), 1, 1) := by kernel_rfl
structure S82 where
  f0 : Int
  f1 : ByteArray
end Go.Proofs.YtmbfnbnlajchmaaDoor.P
