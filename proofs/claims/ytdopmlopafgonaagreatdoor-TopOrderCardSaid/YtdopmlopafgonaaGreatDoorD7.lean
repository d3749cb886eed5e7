/- TopOrder: of each flow what came is some of what was injected, in its order (a part of the walks and of the plain laws). -/
import Derived.Test.YtdopmlopafgonaaGreatDoorProg
import Derived.Test.YtdopmlopafgonaaGreatDoorD0
import Derived.Test.YtdopmlopafgonaaGreatDoorD4
import Derived.Test.YtdopmlopafgonaaGreatDoorD5
import Derived.Test.YtdopmlopafgonaaGreatDoorD6
import Derived.ArgAppend
import Derived.Below
import Derived.BigQuiet
import Derived.Deep.AppendLies
import Derived.Deep.CutBlock
import Derived.Deep.DeepCutAuto
import Derived.Deep.Draws
import Derived.Deep.LoopGhost
import Derived.Deep.OwnRows
import Derived.Deep.QuietTactic
import Derived.Deep.RegionHeld3
import Derived.KernelRfl
import Derived.Laws.BitsLemmas
import Derived.Laws.BytesArg
import Derived.Laws.IdiomCopy
import Derived.Laws.MakeOwn
import Derived.Laws.OwnMore
import Derived.Laws.Rows
import Derived.Laws.Slices
import Derived.Lib.AppendStr
import Derived.Lib.ConvBytes
import Derived.Maps.AppendAt
import Derived.OrdersHeld
import Derived.OwnWalk
import Derived.RowKit
import Derived.RowKit3
import Derived.Tactics
import Derived.WalkKit
import Derived.WideLaws
set_option linter.unusedVariables false
set_option linter.unusedSimpArgs false
set_option maxHeartbeats 4000000
set_option maxRecDepth 100000
namespace Go.Proofs.YtdopmlopafgonaaGreatDoor.PTopQuick
open Go.RowKit Go.Proofs.YtdopmlopafgonaaGreatDoorW.PrintWords Go.Proofs.YtdopmlopafgonaaGreatDoorW.PrintLast Go.Proofs.YtdopmlopafgonaaGreatDoorW.PrintMore
open Go.Proofs.YtdopmlopafgonaaGreatDoor.Own
attribute [local go_sem] k1c k1j k1u k1N k1b
set_option linter.unusedVariables false
set_option linter.unusedSimpArgs false
def errW:Option Int->Value
 |none=>.nilIface
 |some c=>.iface 0 (.int .i64 c)
theorem k2l:errW none=.nilIface:=rfl
theorem k2r(c:Int):errW (some c)=.iface 0 (.int .i64 c):=rfl
theorem k1o:(Tryz.prog.info? 3).map (fun i=>(i.zero,i.size,i.bytes))=some (some (.int .i64 0),1,8):=by kernel_rfl
theorem k7a:(Tryz.prog.info? 29).map (fun i=>(i.zero,i.size,i.bytes))=some (some (.slice none 0 0),1,24):=by kernel_rfl
theorem k5D:(Tryz.prog.info? 131).map (fun i=>(i.zero,i.size,i.bytes))=some (some (.agg #[(.int .i64 0),(.int .i64 0)]),2,16):=by kernel_rfl
structure S131 where
 f0:Int
 f1:Int
def z131:S131:=⟨(0:Int),(0:Int)⟩
def k131:Kd S131:=Kd.iso (Kd.pair (Kd.int .i64) (Kd.int .i64)) (fun x:S131=>(x.f0,x.f1))
theorem k8K{w:World}{base:Nat}{ok:Nat->Prop}{x:S131}{cs:List Value}(h:k131.M w base ok x cs):cs=[.int .i64 x.f0,.int .i64 x.f1]:=by
 obtain⟨_,_,rfl,rfl,rfl⟩:=h;exact rfl
theorem kaM(w:World)(base:Nat)(ok:Nat->Prop)(x:S131)  : k131.M w base ok x [.int .i64 x.f0,.int .i64 x.f1]:=⟨[.int .i64 x.f0],[.int .i64 x.f1],rfl,rfl,rfl⟩
end Go.Proofs.YtdopmlopafgonaaGreatDoor.PTopQuick
