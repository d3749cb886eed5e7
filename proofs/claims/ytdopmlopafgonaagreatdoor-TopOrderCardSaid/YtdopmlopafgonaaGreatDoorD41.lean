/- TopOrder: of each flow what came is some of what was injected, in its order (a part of the walks and of the plain laws). -/
import Derived.Test.YtdopmlopafgonaaGreatDoorD0
import Derived.Test.YtdopmlopafgonaaGreatDoorD15
import Derived.Test.YtdopmlopafgonaaGreatDoorD40
set_option linter.unusedVariables false
set_option linter.unusedSimpArgs false
set_option maxHeartbeats 4000000
set_option maxRecDepth 100000
namespace Go.Proofs.YtdopmlopafgonaaGreatDoor.Own
open Go.RowKit Go.Proofs.YtdopmlopafgonaaGreatDoorW.PrintWords Go.Proofs.YtdopmlopafgonaaGreatDoorW.PrintLast Go.Proofs.YtdopmlopafgonaaGreatDoorW.PrintMore
theorem kd6{x y:Pk}(hx:Nn x)(hy:Nn y):decide ((y.src,y.dst,y.lane)=(x.src,x.dst,x.lane))=decide (k19 y=k19 x):=by
 obtain⟨a1,a2,a3⟩:=hx;obtain⟨b1,b2,b3⟩:=hy;rw[Bool.eq_iff_iff,decide_eq_true_eq,decide_eq_true_eq];unfold k19;simp only[Prod.mk.injEq];exact zz1
theorem kbz{x:Pk}(hx:Nn x):∀{l:List Pk},(∀y∈l,Nn y)->bod (x.src,x.dst,x.lane) l=(fl (k19 x) l).map Pk.body:=by
 intro l h;unfold bod fl;congr 1;exact List.filter_congr fun y hy=>kd6 hx (h y hy)
theorem kcN{D:PlanD}{P:Nat->Nat->List Nat}{S:List Pk}{M:Int}{C:Nat}{st:FSt}(W:Ways D P)(h:Holds D P S M C st){v:Nat}(hv:v<D.nodes)(hS:∀x∈S,Nn x)(f:Int×Int×Int):List.Sublist (bod f ((st.node v).waits 3)) (bod f S):=by
 obtain⟨c1,c2⟩:=h.came W hv;by_cases hx:∃x∈(st.node v).waits 3,(x.src,x.dst,x.lane)=f
 ·obtain⟨x,hx,rfl⟩:=hx
  obtain⟨hd,hn⟩:=c1 x hx;rw[kbz hn (fun y hy=>(c1 y hy).2),kbz hn hS];exact(c2 _ (h.flo W hv hx) (by show x.dst.toNat=v;omega)).map _
 ·have e:bod f ((st.node v).waits 3)=[]:=by
   unfold bod;rw[List.filter_eq_nil_iff.2 (fun y hy=>by simpa using fun e=>hx ⟨y,hy,e⟩)];rfl
  rw[e];exact List.nil_sublist _
def colA(w:World):Nat->Col:=fun b=>if b<w.heap.size then .fix else .junk
theorem k3F(w:World):Fresh (colA w) w:=fun b hb=>if_neg (Nat.not_lt.2 hb)
theorem k47(w:World):∀b,b<w.heap.size->colA w b=.fix:=fun b hb=>if_pos hb
theorem Tr.oldA{w:World}{T:Col->Prop}{w1 w2:World}{o1 o2:Nat->Col}(t:Tr T o1 w1 o2 w2)(b:Below w.heap.size w w1)(h:∀b,b<w.heap.size->o1 b=.fix)(hn:¬T .fix):Below w.heap.size w w2:=
 ⟨t.only.os.trans b.os,t.only.tape.trans b.tape,t.only.output.trans b.output,Nat.le_trans b.size t.only.size,fun c hc=>(t.only.keep c (Nat.lt_of_lt_of_le hc b.size) (by rw[h c hc];exact hn)).trans (b.block c hc)⟩
theorem kci(f:Int×Int×Int)(l:List Pk):(bod f l).length<=l.length:=by
 unfold bod;rw[List.length_map];exact List.length_filter_le _ _
end Go.Proofs.YtdopmlopafgonaaGreatDoor.Own
