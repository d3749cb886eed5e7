/- TopOrder: of each flow what came is some of what was injected, in its order (a part of the walks and of the plain laws). -/
import Derived.Test.YtdopmlopafgonaaGreatDoorD0
import Derived.Test.YtdopmlopafgonaaGreatDoorD7
set_option linter.unusedVariables false
set_option linter.unusedSimpArgs false
set_option maxHeartbeats 4000000
set_option maxRecDepth 100000
namespace Go.Proofs.YtdopmlopafgonaaGreatDoor.PTopQuick
open Go.RowKit Go.Proofs.YtdopmlopafgonaaGreatDoorW.PrintWords Go.Proofs.YtdopmlopafgonaaGreatDoorW.PrintLast Go.Proofs.YtdopmlopafgonaaGreatDoorW.PrintMore
open Go.Proofs.YtdopmlopafgonaaGreatDoor.Own
attribute [local go_sem] k1c k1j k1u k1N k1b
set_option linter.unusedVariables false
set_option linter.unusedSimpArgs false
theorem eqA131(d:Nat)(w:World)(x0 y0:Int)(x1 y1:Int) :
 (Op.equalIn (d+2) 131 (.agg #[.int .i64 x0,.int .i64 x1]) (.agg #[.int .i64 y0,.int .i64 y1])).run Tryz.prog w=.ok (x0 == y0 && (x1 == y1)) w:=by
 refine k9S Tryz.underlying131 zz2 ?_;exact zz29
end Go.Proofs.YtdopmlopafgonaaGreatDoor.PTopQuick
