/- TopQuick: one packet alone is brought from host to host (a part of the walks and of the plain laws). -/
import Derived.Test.YtdopmlopafgonaaGreatDoorC0
import Derived.Test.YtdopmlopafgonaaGreatDoorC7
set_option linter.unusedVariables false
set_option linter.unusedSimpArgs false
set_option maxHeartbeats 4000000
set_option maxRecDepth 100000
namespace Go.Proofs.YtdopmlopafgonaaGreatDoor.PTopQuick
open Go.RowKit Go.Proofs.YtdopmlopafgonaaGreatDoorW.PrintWords Go.Proofs.YtdopmlopafgonaaGreatDoorW.PrintLast Go.Proofs.YtdopmlopafgonaaGreatDoorW.PrintMore
open Go.Proofs.YtdopmlopafgonaaGreatDoor.Own
attribute [local go_sem] k17 k1e k1q k1I k15
set_option linter.unusedVariables false
set_option linter.unusedSimpArgs false
theorem eqA131 (d:Nat) (w:World) (x0 y0:Int) (x1 y1:Int) :
 (Op.equalIn (d+2) 131 (.agg #[.int .i64 x0,.int .i64 x1]) (.agg #[.int .i64 y0,.int .i64 y1])).run Tryz.prog w = .ok (x0 == y0 && (x1 == y1)) w:=by
 refine k9e Tryz.underlying131 zz3 ?_;exact zz24
end Go.Proofs.YtdopmlopafgonaaGreatDoor.PTopQuick
