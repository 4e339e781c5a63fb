/- Made by a program of this seat's own (myprint.py, round the kit's print): what the functions compute, and that they do. -/
import Derived.Test.YtccojdjmbilgcaaProg
import Derived.Below
import Derived.Deep.Draws
import Derived.Deep.AppendLies
import Derived.Maps.AppendAt
import Derived.OwnWalk
import Derived.Laws.BytesArg
import Derived.Laws.MakeOwn
import Derived.Laws.OwnMore
import Derived.Deep.OwnRows
import Derived.Tactics
import Derived.Lib.ConvBytes
import Derived.Laws.Slices
import Derived.WalkKit
import Derived.KernelRfl
import Derived.RowKit3
import Derived.Deep.LoopGhost
import Derived.Deep.QuietTactic
import Derived.BigQuiet
import Derived.WideLaws
import Derived.Deep.DeepCutAuto
import Derived.Deep.CutBlock
import Derived.Deep.RegionHeld3
import Derived.Laws.Rows
import Derived.Lib.AppendStr
import Derived.ArgAppend
import Derived.Laws.IdiomCopy
import Derived.OrdersHeld
import Derived.Laws.BitsLemmas
import Derived.RowKit
import Derived.Test.YtccojdjmbilgcaaEach
import Derived.Test.YtccojdjmbilgcaaPackW
import Derived.Test.YtccojdjmbilgcaaUnpackW
import Derived.Test.YtccojdjmbilgcaaWWords
import Derived.Test.YtccojdjmbilgcaaWLast
import Derived.Test.YtccojdjmbilgcaaWTab
import Derived.Test.YtccojdjmbilgcaaWFour
import Derived.Test.YtccojdjmbilgcaaWQPut
import Derived.Test.YtccojdjmbilgcaaWApart
import Derived.Test.YtccojdjmbilgcaaWArr
import Derived.Test.YtccojdjmbilgcaaWZeros
import Derived.Test.YtccojdjmbilgcaaWFoot
import Derived.Test.YtccojdjmbilgcaaWKept
import Derived.Test.YtccojdjmbilgcaaWShare
import Derived.Test.YtccojdjmbilgcaaWN
import Derived.Test.YtccojdjmbilgcaaWFootNe
import Derived.Test.YtccojdjmbilgcaaWAt
import Derived.Test.YtccojdjmbilgcaaWEqStruct
import Derived.Test.YtccojdjmbilgcaaWRepsOne
import Derived.Test.YtccojdjmbilgcaaWInv
import Derived.Test.YtccojdjmbilgcaaWInvWords
import Derived.Test.YtccojdjmbilgcaaWGuard
import Derived.Test.YtccojdjmbilgcaaWNEv
import Derived.Test.YtccojdjmbilgcaaWMore
namespace Go.Proofs.Ytccojdjmbilgcaa.P
open Go.RowKit Go.Proofs.YtccojdjmbilgcaaW.PrintWords Go.Proofs.YtccojdjmbilgcaaW.PrintLast Go.Proofs.YtccojdjmbilgcaaW.PrintMore
attribute [local go_sem] max2_int min2_int max_two min_two max_three min_three max_four min_four   -- for this text's walks alone
set_option linter.unusedVariables false
set_option linter.unusedSimpArgs false



def errW : Option Int → Value
  | none => .nilIface
  | some c => .iface 0 (.int .i64 c)
theorem errW_none : errW none = .nilIface := rfl
theorem errW_some (c : Int) : errW (some c) = .iface 0 (.int .i64 c) := rfl

theorem info5 : (Try.prog.info? 5).map (fun i => (i.zero, i.size, i.bytes)) = some (some (.int .u8 0), 1, 1) := by kernel_rfl
-- the values' own types

end Go.Proofs.Ytccojdjmbilgcaa.P
