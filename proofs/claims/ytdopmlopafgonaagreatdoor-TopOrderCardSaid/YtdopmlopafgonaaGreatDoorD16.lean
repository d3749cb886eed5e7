/- TopOrder: of each flow what came is some of what was injected, in its order (a part of the walks and of the plain laws). -/
import Derived.Test.YtdopmlopafgonaaGreatDoorD0
import Derived.Test.YtdopmlopafgonaaGreatDoorD14
set_option linter.unusedVariables false
set_option linter.unusedSimpArgs false
set_option maxHeartbeats 4000000
set_option maxRecDepth 100000
namespace Go.Proofs.YtdopmlopafgonaaGreatDoor.Own
open Go.RowKit Go.Proofs.YtdopmlopafgonaaGreatDoorW.PrintWords Go.Proofs.YtdopmlopafgonaaGreatDoorW.PrintLast Go.Proofs.YtdopmlopafgonaaGreatDoorW.PrintMore
theorem kd4:∀m:Fin 64,∀k:Fin 6,(bits BinOp.and IntKind.u16 ((m.1:Int) / 2 ^ k.1) 1 == 1)=m.1.testBit k.1:=by decide
theorem k9H(m k:Nat)(w:World)(h1:m<64)(hk:k<6) :
 Calls Tryz.prog 150 #[.int .u16 m,.int .i64 k] w fun e w'=>e=.returned (.bool (m.testBit k))/\w'=w:=by
 have f:=kd4 ⟨m,h1⟩ ⟨k,hk⟩;have t1:decide ((0:Int)<=k)=true:=decide_eq_true zz1;have t2:decide ((k:Int)<16)=true:=decide_eq_true zz1;simp only at f;go_enter Tryz.func150,Tryz.ntmps150;exact zz16
end Go.Proofs.YtdopmlopafgonaaGreatDoor.Own
