/- What finding a tag comes to, in the program and by the document. -/
import Derived.Test.YtmbfnbnlajchmaaDoorAdAsciiEv
import Derived.Test.YtmbfnbnlajchmaaDoorAdP2
import Derived.Test.YtmbfnbnlajchmaaDoorAdP4
import Derived.Test.YtmbfnbnlajchmaaDoorAdP5
import Derived.Test.YtmbfnbnlajchmaaDoorAdP0
import Derived.Test.YtmbfnbnlajchmaaDoorAdPureFacts
import Derived.Test.YtmbfnbnlajchmaaDoorAdGrandW
namespace Go.Proofs.YtmbfnbnlajchmaaDoor.Pure
open Go.RowKit Go.Proofs.YtmbfnbnlajchmaaDoor.P Go.Proofs.YtmbfnbnlajchmaaDoorW.PrintWords Go.Proofs.YtmbfnbnlajchmaaDoorW.PrintLast Go.Proofs.YtmbfnbnlajchmaaDoorW.PrintMore
open Go.Proofs.YtmbfnbnlajchmaaDoor.Each Go.Proofs.YtmbfnbnlajchmaaDoor.Base Go.Proofs.YtmbfnbnlajchmaaDoor.GrandW
set_option linter.unusedVariables false
set_option linter.unusedSimpArgs false

def starL : List ByteArray := (isoglossref05_List.f).getD []
theorem List_eq : isoglossref05_List.f = some starL := rfl
theorem starL_length : starL.length = 26 := rfl
end Go.Proofs.YtmbfnbnlajchmaaDoor.Pure
