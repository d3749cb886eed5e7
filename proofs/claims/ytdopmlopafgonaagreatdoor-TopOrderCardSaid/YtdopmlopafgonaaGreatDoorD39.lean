/- TopOrder: of each flow what came is some of what was injected, in its order (a part of the walks and of the plain laws). -/
import Derived.Test.YtdopmlopafgonaaGreatDoorRows
import Derived.Test.YtdopmlopafgonaaGreatDoorD0
import Derived.Test.YtdopmlopafgonaaGreatDoorD12
import Derived.LaidMore
import Derived.Lay
import Derived.OpenShut
import Derived.ProofKit
import Derived.Stop.Joined
set_option linter.unusedVariables false
set_option linter.unusedSimpArgs false
set_option maxHeartbeats 4000000
set_option maxRecDepth 100000
namespace Go.Proofs.YtdopmlopafgonaaGreatDoor.Own
open Go.ChangeShapes Go.WideShapes Go.ChangeAt Go.RowKit
open Go.Proofs.YtdopmlopafgonaaGreatDoorW.PrintWords
abbrev k9z:List (String×DataW Unit):=[("math/bits.deBruijn32tab",Rows.laid_math_bits_deBruijn32tab)]
theorem k9f:(Rows.laid_math_bits_deBruijn32tab:DataW Unit)=.agg (tabL.map fun n=>.lit (.int .u8 n)):=by kernel_rfl
theorem k7m{W:World}(h:laidMetH Tryz.prog k9z W):Tab W:=by
 intro r hr;rw[MakeChecks.laidMetH_plain _ _ _ zz2]at h;obtain⟨ps,⟨g,t,cs,fuel,p,q,hg,ht,hv,hd,_,_⟩,_,_⟩:=h;obtain rfl:=Option.some.inj ((show Tryz.prog.globalNamed "math/bits.deBruijn32tab" = some 0 by kernel_rfl).symm.trans hg);obtain rfl:=Option.some.inj ((show(Tryz.prog.globals[0]?).map (·.type)=some 280 by kernel_rfl).symm.trans ht);obtain⟨xs,m,_,ex,_,hl,hel⟩:=DataW.trod_array Tryz.underlying280 hd;have c5:Tryz.prog.cellsOf 5=1:=by kernel_rfl
 have hE:=hel r hr;rw[c5,Nat.mul_one,List.getElem?_eq_getElem zz1]at hE;obtain⟨z,e1,e2,_⟩:=DataW.trod_int Tryz.underlying5 hE;have hlen:tabL.length=32:=zz2
 rw[k9f]at ex;have e3:(xs.map (·.1))=tabL.map fun n=>.lit (.int .u8 n):=(DataW.agg.inj (Prod.mk.inj ex).1).symm
 have e4:(xs.map (·.1))[r]? = (tabL.map fun n=>(DataW.lit (.int .u8 n):DataW Unit))[r]?:=by rw[e3]
 rw[List.getElem?_map,List.getElem?_map,List.getElem?_eq_getElem (by omega:r<xs.length),List.getElem?_eq_getElem (by omega:r<tabL.length),e2]at e4;have hz:z=tabL.getD r 0:=by
  simp only[Option.map_some,Option.some.injEq,DataW.lit.injEq,Lit.int.injEq,true_and]at e4;rw[e4,List.getD,List.getElem?_eq_getElem (by omega:r<tabL.length)];rfl
 rw[World.var?_cell hg hv r,<- hz];have:cs.toList[r]? = some (.int .u8 z):=by
  have h0:((cs.toList.drop r).take 1)[0]? = some (.int .u8 z):=by rw[e1];rfl
  simpa using h0
 simpa using this
theorem ka6{x:Int}(h:(Lit.int .u8 x).wf=true):0<=x/\x<=255:=by
 simp[Lit.wf]at h;exact⟨h.1,h.2⟩
theorem kd8{x:Int}(h:(Lit.int .u16 x).wf=true):0<=x/\x<=65535:=by
 simp[Lit.wf]at h;exact⟨h.1,h.2⟩
theorem kcS{x:Int}(h:(Lit.int .u32 x).wf=true):0<=x/\x<=4294967295:=by
 simp[Lit.wf]at h;exact⟨h.1,h.2⟩
theorem k97{w:World}{A:Option Addr}{l:List Int}(h:∀x∈l,(Lit.int .u8 x).wf=true):∃m:List Nat,(∀x∈m,x<256)/\l=m.map fun x=>((x:Nat):Int):=by
 refine⟨l.map Int.toNat,fun x hx=>?_,?_⟩
 ·obtain⟨y,hy,rfl⟩:=List.mem_map.1 hx
  have:=ka6 (h y hy);exact zz1
 ·rw[List.map_map]
  conv=>lhs;rw[<- List.map_id l]
  exact List.map_congr_left fun y hy=>by have:=ka6 (h y hy);simp only[id,Function.comp];omega
theorem k7p{w:World}{A:Option Addr}{n:Nat}{l:List Int}(h:ReadsInt w .u8 A n l):Kd.C (Kd.int .u8) w A n l:=
 ⟨h.1,h.2.1,fun h0=>by
  obtain⟨ad,e,hc⟩:=h.2.2 h0;refine⟨ad,e,fun j p hp=>⟨[.int .u8 p],rfl,rfl,fun i u hu=>?_⟩⟩;have hi:i=0:=by have:=(List.getElem?_eq_some_iff.1 hu).1;simp at this;exact this
  subst hi;simp at hu;subst hu;have hj:=(List.getElem?_eq_some_iff.1 hp).1;have:=hc j (by have:=h.1;omega);rw[List.getD_eq_getElem?_getD,hp]at this;rw[show j*(Kd.int .u8).sz+0=j from Nat.mul_one j];exact this⟩
end Go.Proofs.YtdopmlopafgonaaGreatDoor.Own
