/- The tags' iterator: for every loop body; how many tags there are. -/
import Derived.Test.YtmbfnbnlajchmaaDoorAtGrandW
import Derived.RangeFuncNested
import Derived.RangeFuncBound
import Derived.RangeFuncCalls
import Derived.RangeFuncLeaves
import Derived.Shelf.Abstract
import Derived.Shelf.RegionOpen
import Derived.WalkKit
import Derived.OwnWalkIn
import Derived.TacticsInMore
import Derived.LoopNIn
import Derived.LoopIn
namespace Go.Proofs.YtmbfnbnlajchmaaDoor.GrandIter
open Go.RowKit Go.Shelf Go.Proofs.YtmbfnbnlajchmaaDoorW.PrintWords Go.Proofs.YtmbfnbnlajchmaaDoorW.PrintLast
open Go.Proofs.YtmbfnbnlajchmaaDoor.GrandW
attribute [local go_sem] Oper.semAt_some
set_option linter.unusedVariables false
set_option linter.unusedSimpArgs false

end Go.Proofs.YtmbfnbnlajchmaaDoor.GrandIter
