/- TopOrder: of each flow what came is some of what was injected, in its order (a part of the walks and of the plain laws). -/
import Derived.Test.YtdopmlopafgonaaGreatDoorD0
import Derived.Lib.SlicesCompact
set_option linter.unusedVariables false
set_option linter.unusedSimpArgs false
set_option maxHeartbeats 4000000
set_option maxRecDepth 100000
namespace Go.Proofs.YtdopmlopafgonaaGreatDoor.Own
structure PlanD where
 nodes:Nat
 lanes:Nat
 room:Nat
 queue:Nat
 rounds:Nat
 every:Nat
 bag:Nat
 start:Nat
 edges:List (Nat×Nat)
 weights:List Nat
 next:List (List Nat)
def besL(e:List (Nat×Nat))(v:Nat):List Nat:=e.flatMap fun p=>if p.1=p.2 then[] else if p.1=v then[p.2] else if p.2=v then[p.1] else[]
def besN(e:List (Nat×Nat))(n v:Nat):List Nat:=(List.range n).filter fun w=>e.contains (v,w) || e.contains (w,v)
def nxtL(next:List (List Nat))(v d:Nat):Nat:=(next.getD v []).getD d 0
def PlanD.bs(D:PlanD)(v:Nat):List Nat:=besN D.edges D.nodes v
def PlanD.nxt(D:PlanD)(v d:Nat):Nat:=nxtL D.next v d
structure IsPath(D:PlanD)(v w:Nat)(l:List Nat):Prop where
 len:l.length<=D.nodes
 pos:0<l.length
 first:l[0]? = some v
 last:l[l.length-1]? = some w
 nodup:l.Nodup
 step:∀i a b,l[i]? = some a->l[i+1]? = some b->b∈D.bs a/\D.nxt a w=b/\a≠w
structure Good(D:PlanD):Prop where
 n0:2<=D.nodes
 n1:D.nodes<=6
 l0:1<=D.lanes
 l1:D.lanes<=3
 r0:1<=D.room
 r1:D.room<=8
 q0:1<=D.queue
 q1:D.queue<=8
 i0:1<=D.rounds
 i1:D.rounds<=4
 e0:1<=D.every
 e1:D.every<=8
 b0:D.bag=64
 s1:D.start<65536
 wl:D.weights.length=D.lanes
 wb:∀x∈D.weights,1<=x/\x<=5
 el:D.edges.length<=15
 eb:∀p∈D.edges,p.1<p.2/\p.2<D.nodes
 en:D.edges.Nodup
 nl:D.next.length=D.nodes
 nr:∀r∈D.next,r.length=D.nodes
 nb:∀r∈D.next,∀x∈r,x<D.nodes
 bp:∀v,v<D.nodes->(besL D.edges v).Perm (D.bs v)
 bn:∀v,v<D.nodes->D.bs v≠[]
 bl:∀v,v<D.nodes->(D.bs v).length<=5
 path:∀v w,v<D.nodes->w<D.nodes->∃l,IsPath D v w l
 rank:∃rk:Nat->Nat->Nat,∀u v w,u<D.nodes->v∈D.bs u->w<D.nodes->w≠u->w≠v->D.nxt u w=v->rk v (D.nxt v w)<rk u v
theorem k8C{D:PlanD}{v w:Nat}(h:w∈D.bs v):w<D.nodes:=by
 have:=(List.mem_filter.1 h).1;exact zz39
theorem k48(D:PlanD)(v:Nat):(D.bs v).Nodup:=List.Nodup.sublist List.filter_sublist List.nodup_range
theorem k7d(D:PlanD)(v:Nat):(D.bs v).Pairwise (· < ·):=List.Pairwise.sublist List.filter_sublist List.pairwise_lt_range
theorem k2X{D:PlanD}{v w:Nat}(h:w∈D.bs v)(hv:v<D.nodes):v∈D.bs w:=by
 have:=List.mem_filter.1 h;exact List.mem_filter.2 ⟨by simpa using hv,by simpa[Bool.or_comm] using this.2⟩
theorem Good.nxt_bs{D:PlanD}(G:Good D){v d:Nat}(hv:v<D.nodes)(hd:d<D.nodes)(hne:v≠d):D.nxt v d∈D.bs v:=by
 obtain⟨l,h⟩:=G.path v d hv hd;have h1:1<l.length:=by
  rcases Nat.lt_or_ge 1 l.length with h1|h1
  ·exact h1
  ·have e:l.length=1:=by have:=h.pos;omega
   have a:=h.first;have b:=h.last;rw[e]at b;rw[a]at b;simp at b;exact absurd b hne
 obtain⟨x,hx⟩:∃x,l[0+1]? = some x:=⟨l[1],by simp[h1]⟩;obtain⟨h2,h3,_⟩:=h.step 0 v x h.first hx;rw[h3];exact h2
theorem k7f{α : Type}[Inhabited α](zs:List α)(j:Nat)(h:j<zs.length):zs.toArray[j]! = zs[j]:=by simp[h]
theorem k50(zs:List Int)(h:zs.Pairwise (· < ·)):Lib.compact zs=zs:=by
 refine Lib.compact_all zs fun j hj=>?_
 unfold Lib.keeps;by_cases e:j=0
 ·simp[e]
 ·have:=(List.pairwise_iff_getElem.1 h) (j-1) j zz1 hj zz1
  rw[k7f _ _ hj,k7f _ _ zz1];simp[e];exact zz1
theorem k7H(zs:List Int):∀x∈Lib.compact zs,x∈zs:=by
 intro x hx;unfold Lib.compact Lib.compactUpTo at hx;obtain⟨j,hj,rfl⟩:=List.mem_map.1 hx;have:=(List.mem_filter.1 hj).1;have hj':j<zs.length:=by simpa using this
 rw[k7f _ _ hj'];exact List.getElem_mem _
theorem k9q{l m:List Nat}(hp:l.Perm m)(hs:m.Pairwise (· < ·)):((l.map fun(n:Nat)=>(n:Int)).mergeSort fun a b=>decide (a<=b))=m.map fun(n:Nat)=>(n:Int):=by
 refine List.Perm.eq_of_pairwise (le:=fun a b=>a<=b) (fun a b _ _ h1 h2=>by omega) ?_ ?_ ((List.mergeSort_perm _ _).trans (hp.map _))
 ·have:=List.pairwise_mergeSort (le:=fun(a b:Int)=>decide (a<=b)) (fun a b c h1 h2=>by simp at h1 h2 ⊢;omega) (fun a b=>by simp;omega) (l.map fun(n:Nat)=>(n:Int))
  exact this.imp (fun h=>by simpa using h)
 ·rw[List.pairwise_map]
  exact hs.imp (fun h=>by omega)
theorem k63{D:PlanD}(G:Good D){v:Nat}(hv:v<D.nodes):Lib.compact (((besL D.edges v).map fun(n:Nat)=>(n:Int)).mergeSort fun a b=>decide (a<=b))=(D.bs v).map fun(n:Nat)=>(n:Int):=by
 rw[k9q (G.bp v hv) (k7d D v)];refine k50 _ ?_;rw[List.pairwise_map];exact(k7d D v).imp (fun h=>by omega)
def k3K:Nat->List (List Nat)
 |0=>[[]]
 |m+1=>(k3K m).flatMap fun t=>(List.range (m+1)).map fun p=>t++[p]
theorem k4i:∀(m:Nat)(t:List Nat),t.length=m->(∀i (h:i<t.length),t[i]<=i)->t∈k3K m
 |0,t,h,_=>by rw[List.eq_nil_of_length_eq_zero h];simp[k3K]
 |m+1,t,h,hb=>by
  have hne:t≠[]:=by rintro rfl;simp at h
  have e:=(List.dropLast_concat_getLast hne).symm;have hl:t.dropLast.length=m:=by simp[h]
  refine List.mem_flatMap.2 ⟨t.dropLast,k4i m _ hl (fun i hi=>?_),List.mem_map.2 ⟨t.getLast hne,?_,e.symm⟩⟩
  ·rw[List.getElem_dropLast];exact hb i (by simp at hi;omega)
  ·have:=hb (t.length-1) zz1
   rw[List.getLast_eq_getElem];rw[List.mem_range];exact zz1
def upT(t:List Nat):Nat->Nat->List Nat
 |0,v=>[v]
 |f+1,v=>if v=0 then[v] else v :: upT t f (t.getD (v-1) 0)
def k9X:Nat->List Nat->List Nat->List Nat×List Nat
 |0,a,b=>(a,b)
 |f+1,a,b=>if 1<a.length/\1<b.length/\a.getD (a.length-2) 0=b.getD (b.length-2) 0 then k9X f a.dropLast b.dropLast else(a,b)
def kb6(t:List Nat)(v w:Nat):List Nat:=(k9X 6 (upT t 6 v) (upT t 6 w)).1++(k9X 6 (upT t 6 v) (upT t 6 w)).2.dropLast.reverse
def kax(t:List Nat)(v w:Nat):Nat:=if v=w then v else(kb6 t v w).getD 1 0
def k0X(t:List Nat):List (Nat×Nat):=t.zipIdx.map fun p=>(p.1,p.2+1)
def k17(t:List Nat):List (List Nat):=(List.range (t.length+1)).map fun v=>(List.range (t.length+1)).map fun w=>kax t v w
def k82:List Nat->Bool
 |[]=>true
 |a :: l=>!l.contains a && k82 l
theorem k5v:∀l,k82 l=true->l.Nodup
 |[],_=>List.nodup_nil
 |a :: l,h=>by
  simp[k82]at h;exact List.nodup_cons.2 ⟨h.1,k5v l h.2⟩
def k7U(bs:Nat->List Nat)(nx:Nat->Nat->Nat)(w:Nat):List Nat->Bool
 |a :: b :: l=>(bs a).contains b && nx a w == b && a != w && k7U bs nx w (b :: l)
 |_=>true
theorem k56(bs:Nat->List Nat)(nx:Nat->Nat->Nat)(w:Nat):∀l,k7U bs nx w l=true->∀i a b,l[i]? = some a->l[i+1]? = some b->b∈bs a/\nx a w=b/\a≠w
 |[],_,i,a,b,h,_=>by simp at h
 |[x],_,i,a,b,h1,h2=>by simp at h2
 |x :: y :: l,h,i,a,b,h1,h2=>by
  simp only[k7U,Bool.and_eq_true,beq_iff_eq,bne_iff_ne,List.contains_iff_mem]at h;cases i with
  |zero=>simp at h1 h2;subst h1;subst h2;exact⟨h.1.1.1,h.1.1.2,h.1.2⟩
  |succ i=>exact k56 bs nx w (y :: l) h.2 i a b (by simpa using h1) (by simpa using h2)
def kcJ(bs:Nat->List Nat)(nx:Nat->Nat->Nat)(n v w:Nat)(l:List Nat):Bool:=
 l[0]? == some v && l[l.length-1]? == some w && Nat.ble l.length n && k82 l && k7U bs nx w l
def rkT(nx:Nat->Nat->Nat)(n u v:Nat):Nat:=((List.range n).filter fun w=>w != u && nx u w == v).length
def k7J(t:List Nat):Bool:=
 let n:=t.length+1
 let e:=k0X t
 let rows:=k17 t
 let nx:=nxtL rows
 let bs:=besN e n
 (List.range n).all fun v=>(besL e v).isPerm (bs v) && !(bs v).isEmpty && Nat.ble (bs v).length 5 &&
   (List.range n).all fun w=>kcJ bs nx n v w (kb6 t v w) && Nat.blt (nx v w) n && (w == v || w == nx v w || Nat.blt (rkT nx n (nx v w) (nx (nx v w) w)) (rkT nx n v (nx v w)))
theorem fact1:(k3K 1).all k7J=true:=by decide +kernel
theorem fact2:(k3K 2).all k7J=true:=by decide +kernel
theorem fact3:(k3K 3).all k7J=true:=by decide +kernel
theorem fact4:(k3K 4).all k7J=true:=by decide +kernel
theorem fact5:(k3K 5).all k7J=true:=by decide +kernel
def k8p(t:List Nat)(lanes room queue rounds every start:Nat)(weights:List Nat):PlanD:=⟨t.length+1,lanes,room,queue,rounds,every,64,start,k0X t,weights,k17 t⟩
theorem kde(t:List Nat)(h0:0<t.length)(h1:t.length<=5)(hb:∀i (h:i<t.length),t[i]<=i):k7J t=true:=by
 have hm:=k4i t.length t rfl hb;have:t.length=1\/t.length=2\/t.length=3\/t.length=4\/t.length=5:=zz1
 rcases this with e|e|e|e|e<;>rw[e]at hm
 ·exact List.all_eq_true.1 fact1 t hm
 ·exact List.all_eq_true.1 fact2 t hm
 ·exact List.all_eq_true.1 fact3 t hm
 ·exact List.all_eq_true.1 fact4 t hm
 ·exact List.all_eq_true.1 fact5 t hm
theorem k3G(t:List Nat)(i:Nat):(k0X t)[i]? = (t[i]?).map fun p=>(p,i+1):=by
 unfold k0X;rw[List.getElem?_map,List.getElem?_zipIdx];cases t[i]?<;>simp
theorem k5x(t:List Nat):(k0X t).length=t.length:=by simp[k0X]
theorem k9O(t:List Nat)(i:Nat)(h:i<t.length+1):(k17 t)[i]? = some ((List.range (t.length+1)).map fun w=>kax t i w):=by
 unfold k17;rw[List.getElem?_map,List.getElem?_range h];rfl
theorem kao(t:List Nat)(v w:Nat)(hv:v<t.length+1)(hw:w<t.length+1):nxtL (k17 t) v w=kax t v w:=by
 unfold nxtL;rw[List.getD_eq_getElem?_getD,List.getD_eq_getElem?_getD,k9O t v hv];simp[hw]
structure FactT(t:List Nat)(v:Nat):Prop where
 perm:(besL (k0X t) v).Perm (besN (k0X t) (t.length+1) v)
 ne:besN (k0X t) (t.length+1) v≠[]
 le:(besN (k0X t) (t.length+1) v).length<=5
 path:∀w,w<t.length+1->kcJ (besN (k0X t) (t.length+1)) (nxtL (k17 t)) (t.length+1) v w (kb6 t v w)=true
 lt:∀w,w<t.length+1->nxtL (k17 t) v w<t.length+1
 rank:∀w,w<t.length+1->w≠v->w≠nxtL (k17 t) v w->rkT (nxtL (k17 t)) (t.length+1) (nxtL (k17 t) v w) (nxtL (k17 t) (nxtL (k17 t) v w) w)<rkT (nxtL (k17 t)) (t.length+1) v (nxtL (k17 t) v w)
theorem kc2{t:List Nat}(h:k7J t=true)(v:Nat)(hv:v<t.length+1):FactT t v:=by
 have h1:=List.all_eq_true.1 h v (List.mem_range.2 hv);simp only[Bool.and_eq_true]at h1;obtain⟨⟨⟨a,b⟩,c⟩,d⟩:=h1;have hd:∀w,w<t.length+1->_:=fun w hw=>List.all_eq_true.1 d w (List.mem_range.2 hw)
 refine⟨List.isPerm_iff.1 a,?_,Nat.le_of_ble_eq_true c,fun w hw=>?_,fun w hw=>?_,fun w hw e1 e2=>?_⟩
 ·simpa using b
 ·have:=hd w hw
  simp only[Bool.and_eq_true]at this;exact this.1.1
 ·have:=hd w hw
  simp only[Bool.and_eq_true]at this;exact Nat.le_of_ble_eq_true this.1.2
 ·have:=hd w hw
  simp only[Bool.and_eq_true,Bool.or_eq_true,beq_iff_eq]at this;rcases this.2 with(h|h)|h
  ·exact absurd h e1
  ·exact absurd h e2
  ·exact Nat.le_of_ble_eq_true h
theorem k8u(t:List Nat)(h0:0<t.length)(h1:t.length<=5)(hb:∀i (h:i<t.length),t[i]<=i)(lanes room queue rounds every start:Nat)(weights:List Nat)
 (l0:1<=lanes) (l1:lanes<=3) (r0:1<=room) (r1:room<=8) (q0:1<=queue) (q1:queue<=8) (i0:1<=rounds) (i1:rounds<=4) (e0:1<=every) (e1:every<=8) (s1:start<65536) (wl:weights.length=lanes) (wb:∀x∈weights,1<=x/\x<=5) :
 Good (k8p t lanes room queue rounds every start weights):=by
 have hf:=kde t h0 h1 hb;have F:=kc2 hf;have row:∀r∈k17 t,∃v,v<t.length+1/\r=(List.range (t.length+1)).map fun w=>kax t v w:=fun r hr=>by
  obtain⟨v,hv,rfl⟩:=List.mem_map.1 hr;exact⟨v,List.mem_range.1 hv,rfl⟩
 refine⟨by show 2<=t.length+1;omega,by show t.length+1<=6;omega,l0,l1,r0,r1,q0,q1,i0,i1,e0,e1,rfl,s1,wl,wb,by show(k0X t).length<=15;rw[k5x];omega,fun p hp=>?_,?_,by simp[k8p,k17],fun r hr=>?_,fun r hr x hx=>?_,fun v hv=>(F v hv).perm,fun v hv=>(F v hv).ne,fun v hv=>(F v hv).le,fun v w hv hw=>?_,rkT (nxtL (k17 t)) (t.length+1),?_⟩
 ·obtain⟨i,hi⟩:=List.mem_iff_getElem?.1 hp
  have hi':(k0X t)[i]? = some p:=hi;rw[k3G]at hi';obtain⟨x,hx,rfl⟩:=Option.map_eq_some_iff.1 hi';obtain⟨hl,rfl⟩:=List.getElem?_eq_some_iff.1 hx;have:=hb i hl;show t[i] < i+1/\i+1<t.length+1;exact zz1
 ·show(k0X t).Nodup
  rw[List.nodup_iff_pairwise_ne,List.pairwise_iff_getElem];intro i j hi hj hij e;have a1:=k3G t i;have a2:=k3G t j;rw[List.getElem?_eq_getElem hi]at a1;rw[List.getElem?_eq_getElem hj]at a2;rw[k5x]at hi hj;rw[List.getElem?_eq_getElem hi]at a1;rw[List.getElem?_eq_getElem hj]at a2;simp only[Option.map_some,Option.some.injEq]at a1 a2;rw[a1,a2]at e;injection e with _ e
  omega
 ·obtain⟨v,hv,rfl⟩:=row r hr
  simp[k8p]
 ·obtain⟨v,hv,rfl⟩:=row r hr
  obtain⟨w,hw,rfl⟩:=List.mem_map.1 hx;have:=(F v hv).lt w (List.mem_range.1 hw);rw[kao t v w hv (List.mem_range.1 hw)]at this;exact this
 ·have:=(F v hv).path w hw
  simp only[kcJ,Bool.and_eq_true,beq_iff_eq]at this;obtain⟨⟨⟨⟨a,b⟩,c⟩,d⟩,e⟩:=this;refine⟨_,Nat.le_of_ble_eq_true c,?_,a,b,k5v _ d,k56 _ _ _ _ e⟩;rcases Nat.eq_zero_or_pos (kb6 t v w).length with h|h
  ·rw[List.getElem?_eq_none zz1]at a;cases a
  ·exact h
 ·intro u v w hu hv hw e1 e2 e3
  have:=(F u hu).rank w hw e1 (by
   intro h;have e3':nxtL (k17 t) u w=v:=e3;rw[e3']at h;exact e2 h)
  have e3':nxtL (k17 t) u w=v:=e3;rw[e3']at this;exact this
end Go.Proofs.YtdopmlopafgonaaGreatDoor.Own
