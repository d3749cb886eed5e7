/- TopOrder: of each flow what came is some of what was injected, in its order (a part of the walks and of the plain laws). -/
import Derived.Test.YtdopmlopafgonaaGreatDoorD0
import Derived.Test.YtdopmlopafgonaaGreatDoorD33
set_option linter.unusedVariables false
set_option linter.unusedSimpArgs false
set_option maxHeartbeats 4000000
set_option maxRecDepth 100000
namespace Go.Proofs.YtdopmlopafgonaaGreatDoor.Own
open Go.RowKit Go.Proofs.YtdopmlopafgonaaGreatDoorW.PrintWords Go.Proofs.YtdopmlopafgonaaGreatDoorW.PrintLast Go.Proofs.YtdopmlopafgonaaGreatDoorW.PrintMore
def nst0(D:PlanD):NSt:=⟨fun _=>[],fun _=>[],fun _ _=>((D.start:Int),(D.start:Int)+D.room),fun _ _=>((D.start:Int),0),0⟩
structure Half(W:World)(o:Nat->Col)(v:Nat)(D:PlanD)(T:NTab)(nw n m:Nat):Prop where
 host:HostAt W o (.host v) T.host D.lanes D.queue (fun _=>[])
 whl:∀i,i<nw->WheelAt W o (.whl v i) (T.whl i) D.lanes
 snd:∀i k,1<=i->k<D.lanes->(i<n\/(i=n/\k<m))->o (T.snd i k)=.snd v i k/\W.heap[T.snd i k]? = some (.cells #[.int .u64 D.start,.int .u64 ((D.start:Int)+D.room)] 191 (0,0))
 rcv:∀i k,1<=i->k<D.lanes->(i<n\/(i=n/\k<m))->o (T.rcv i k)=.rcv v i k/\W.heap[T.rcv i k]? = some (.cells #[.int .u64 D.start,.int .i64 0,.int .i64 D.room] 193 (0,0))
def kcX(c:Col):Prop:=c.nodeOf=none\/∃v,c=.node v
theorem Half.tr{S:Col->Prop}{W W':World}{o o':Nat->Col}{v:Nat}{D:PlanD}{T:NTab}{nw n m:Nat}(h:Half W o v D T nw n m)(t:Tr S o W o' W')(hS:∀c,S c->kcX c):Half W' o' v D T nw n m where
 host:=h.host.tr t (fun h=>by rcases hS _ h with h|⟨_,h⟩<;>cases h)
 whl:=fun i hi=>(h.whl i hi).tr t (fun h=>by rcases hS _ h with h|⟨_,h⟩<;>cases h)
 snd:=fun i k a b c=>by
  obtain⟨x,y⟩:=h.snd i k a b c;exact⟨(t.own _ (k03 y)).trans x,t.blk y (by rw[x];intro h;rcases hS _ h with h|⟨_,h⟩<;>cases h)⟩
 rcv:=fun i k a b c=>by
  obtain⟨x,y⟩:=h.rcv i k a b c;exact⟨(t.own _ (k03 y)).trans x,t.blk y (by rw[x];intro h;rcases hS _ h with h|⟨_,h⟩<;>cases h)⟩
structure NewB(lo:Nat)(o:Nat->Col)(w:World)(o':Nat->Col)(w':World):Prop where
 below:Below lo w w'
 own:∀b,b<lo->o' b=o b
 fresh:Fresh o' w'
theorem NewB.blw{lo:Nat}{o o':Nat->Col}{w W W':World}(h:NewB lo o w o' W)(b:Below W.heap.size W W')(hl:lo<=W.heap.size):NewB lo o w o' W':=⟨h.below.trans (b.mono hl),h.own,h.fresh.blw b⟩
theorem NewB.paint{lo:Nat}{o o':Nat->Col}{w W W':World}(h:NewB lo o w o' W)(b:Below W.heap.size W W')(hl:lo<=W.heap.size)(c:Col):NewB lo o w (paint o' W.heap.size W'.heap.size c) W':=
 ⟨h.below.trans (b.mono hl),fun b hb=>(k0v _ _ (Nat.lt_of_lt_of_le hb hl)).trans (h.own b hb),fun b hb=>by have:=b;have hs:=‹Below W.heap.size W W'›.size;simp[Own.paint,Nat.not_lt.2 (Nat.le_trans hs hb),Nat.not_lt.2 hb]⟩
theorem NewB.blw'{lo:Nat}{o o':Nat->Col}{w W:World}(h:NewB lo o w o' W)(p:Addr)(u:Value)(hl:lo<=p.block):NewB lo o w o' (W.setCell p u):=⟨h.below.setCell hl _,h.own,fun b hb=>h.fresh b zz78⟩
abbrev k8E(D:PlanD)(A1:Option Addr)(c1:Nat)(A2:Option Addr)(c2:Nat)(A3:Option Addr)(c3:Nat)(v:Nat)(a:Option Addr)(ports:Value)(gh:Nat)(r:Option Addr):Obj:=.cells #[.pointer a,.int .i64 D.nodes,.slice A1 D.edges.length c1,.int .i64 D.lanes,.int .i64 D.room,.int .i64 D.queue,.int .i64 D.rounds,.int .i64 D.every,.int .i64 D.bag,.slice A2 D.weights.length c2,.int .u16 D.start,.slice A3 D.next.length c3,.int .i64 v,ports,.pointer (some ⟨gh,0,none⟩),.pointer r,.int .i64 0] 100 (0,0)
theorem WheelAt.made{w w':World}{o:Nat->Col}{c:Col}{n:Nat}{ws:List Nat}{e:Ending}(h:k6N n ws w e w')(hn:0<n)(hw:∀x∈ws,1<=x/\x<=5):∃gw,e=.returned (.pointer (some ⟨gw,0,none⟩))/\Below w.heap.size w w'/\WheelAt w' (paint o w.heap.size w'.heap.size c) c gw n:=by
 obtain⟨gw,va,vb,ga,gb,rfl,hb,h1,h2,r1,r2,hne,h3,h4⟩:=h;exact⟨gw,rfl,hb,k0C _ _ h1 (k03 h2),va,vb,ga,gb,ws,ws,0,h2,r1,r2,hne,k0C _ _ h3 (r1.lt rfl),k0C _ _ h4 (r2.lt rfl),hn,hw,fun x hx=>(hw x hx).2⟩
def k29(D:PlanD)(T:NTab)(v n:Nat):List Value:=(List.range n).flatMap (k6k D T v)
structure Made(w:World)(o:Nat->Col)(D:PlanD)(A1:Option Addr)(c1:Nat)(A2:Option Addr)(c2:Nat)(A3:Option Addr)(c3:Nat)(v:Nat)(W:World)(oc:Nat->Col)(T:NTab)(n:Nat):Prop where
 new:NewB w.heap.size o w oc W
 half:Half W oc v D T n n 0
 og:oc T.g=.node v
 node:W.heap[T.g]? = some (k8E D A1 c1 A2 c2 A3 c3 v none (.slice (some ⟨T.pb,T.po,none⟩) n T.pc) T.host none)
 ports:Row W (.slice (some ⟨T.pb,T.po,none⟩) n T.pc) 141 3 n (k29 D T v n) (some T.pb)
 op:oc T.pb=.fix
 opn:w.heap.size<=T.pb
 lanes:∀i,1<=i->i<n->Row W (.slice (some ⟨T.lb i,T.lo i,none⟩) D.lanes (T.lc i)) 148 2 D.lanes (k1s D T i) (some (T.lb i))/\oc (T.lb i)=.fix
 box:W.heap[w.heap.size]? = some (pbox D A1 c1 A2 c2 A3 c3)
 gn:w.heap.size<T.g
theorem Made.blw{w W W':World}{o oc:Nat->Col}{D:PlanD}{A1 c1 A2 c2 A3 c3 v}{T:NTab}{n:Nat}(h:Made w o D A1 c1 A2 c2 A3 c3 v W oc T n)(b:Below W.heap.size W W'):Made w o D A1 c1 A2 c2 A3 c3 v W' oc T n:=
 ⟨h.new.blw b h.new.below.size,h.half.tr (Tr.below (S:=fun _=>False) h.new.fresh b) (fun _ x=>x.elim),h.og,(b.block _ (k03 h.node)).trans h.node,h.ports.below b,h.op,h.opn,fun i h1 h2=>⟨(h.lanes i h1 h2).1.below b,(h.lanes i h1 h2).2⟩,(b.block _ (k03 h.box)).trans h.box,h.gn⟩
structure LaneB(w11:World)(o11:Nat->Col)(D:PlanD)(v i xb x gw:Nat)(W:World)(oc:Nat->Col)(sf rf:Nat->Nat)(A:Option Addr)(c:Nat)(gl:Option Nat)(k:Nat):Prop where
 only:Only (fun b=>xb<=b) w11 W
 own:∀b,b<w11.heap.size->oc b=o11 b
 fresh:Fresh oc W
 xbox:W.heap[xb]? = some (.cells #[.int .i64 x,.slice A k c,.pointer (some ⟨gw,0,none⟩)] 141 (0,0))
 row:Row W (.slice A k c) 148 2 k ((List.range k).flatMap fun j=>[Value.pointer (some ⟨sf j,0,none⟩),Value.pointer (some ⟨rf j,0,none⟩)]) gl
 gl:∀b,gl=some b->xb<b/\oc b=.fix
 snd:∀j,j<k->xb<sf j/\oc (sf j)=.snd v i j/\W.heap[sf j]? = some (.cells #[.int .u64 D.start,.int .u64 ((D.start:Int)+D.room)] 191 (0,0))
 rcv:∀j,j<k->xb<rf j/\oc (rf j)=.rcv v i j/\W.heap[rf j]? = some (.cells #[.int .u64 D.start,.int .i64 0,.int .i64 D.room] 193 (0,0))
theorem k2a{α : Type}(f:Nat->List α)(n:Nat):(List.range (n+1)).flatMap f=(List.range n).flatMap f++f n:=by rw[List.range_succ,List.flatMap_append];simp
theorem k1S{α : Type}(f g:Nat->List α):∀n,(∀i,i<n->f i=g i)->(List.range n).flatMap f=(List.range n).flatMap g
 |0,_=>rfl
 |n+1,h=>by rw[k2a,k2a,k1S f g n (fun i hi=>h i zz1),h n zz1]
theorem LaneB.next{w11 W wa wb wd:World}{o11 oc:Nat->Col}{D:PlanD}{v i xb x gw:Nat}{sf rf:Nat->Nat}{A Ad:Option Addr}{c cd:Nat}{gl gd:Option Nat}{k:Nat}(Q:LaneB w11 o11 D v i xb x gw W oc sf rf A c gl k)(h11:w11.heap.size=xb+1)
 (La:Below W.heap.size W wa) (Za:wa.heap[W.heap.size]? = some (.cells #[.int .u64 D.start,.int .u64 ((D.start:Int)+D.room)] 191 (0,0))) (sa:wa.heap.size=W.heap.size+1) (Lb:Below wa.heap.size wa wb) (Zb:wb.heap[wa.heap.size]? = some (.cells #[.int .u64 D.start,.int .i64 0,.int .i64 D.room] 193 (0,0))) (sb:wb.heap.size=wa.heap.size+1)
 (Rd:Row wd (.slice Ad (k+1) cd) 148 2 (k+1) (((List.range k).flatMap fun j=>[Value.pointer (some ⟨sf j,0,none⟩),Value.pointer (some ⟨rf j,0,none⟩)])++[.pointer (some ⟨W.heap.size,0,none⟩),.pointer (some ⟨wa.heap.size,0,none⟩)]) gd) (Od:Only (fun b=>gl=some b) wb wd) (Gd:gd=gl\/∃b,gd=some b/\wb.heap.size<=b) :
 ∃oc',LaneB w11 o11 D v i xb x gw (wd.setCell ⟨xb,1,none⟩ (.slice Ad (k+1) cd)) oc' (upd sf k W.heap.size) (upd rf k wa.heap.size) Ad cd gd (k+1):=by
 have hx:=k03 Q.xbox;have hW:=Q.only.size;have sd:=Od.size;have hgl:∀b,gl=some b->b<W.heap.size/\xb<b:=fun b e=>⟨Q.row.lt e,(Q.gl b e).1⟩
 have hu:∀j,upd sf k W.heap.size j=if j=k then W.heap.size else sf j:=fun j=>rfl
 refine⟨fun b=>if b<W.heap.size then oc b else if b=W.heap.size then .snd v i k else if b=wa.heap.size then .rcv v i k else if b<wd.heap.size then .fix else .junk,?_⟩;have keepW:∀b,b<W.heap.size->gl≠some b->b≠xb->(wd.setCell ⟨xb,1,none⟩ (.slice Ad (k+1) cd)).heap[b]? = W.heap[b]?:=fun b hb h1 h2=>
  (Below.heap_setCell _ _ _ _ h2).trans ((Od.keep b zz1 h1).trans ((Lb.block b zz1).trans (La.block b hb)))
 refine⟨?_,fun b hb=>?_,fun b hb=>?_,?_,?_,fun b hb=>?_,fun j hj=>?_,fun j hj=>?_⟩
 ·refine((((Q.only.below La).below Lb).then Od (fun b _ h=>by have:=hgl b h;omega))).then (k0j wd xb 1 _) (fun b _ e=>by omega)
 ·show(if b<W.heap.size then oc b else _)=_
  rw[if_pos zz1];exact Q.own b hb
 ·have hb':wd.heap.size<=b:=by simpa[World.setCell] using hb
  show(if b<W.heap.size then oc b else if b=W.heap.size then _ else if b=wa.heap.size then _ else if b<wd.heap.size then _ else _)=_;rw[if_neg zz1,if_neg zz1,if_neg zz1,if_neg zz1]
 ·have h:=(Od.keep xb zz1 (fun h=>by have:=hgl _ h;omega)).trans ((Lb.block xb zz1).trans ((La.block xb hx).trans Q.xbox))
  exact k05 h 1 _
 ·have h:=Rd.only (k0j wd xb 1 (.slice Ad (k+1) cd)) (fun b e e2=>by
   rcases Gd with g|⟨b2,g,hb2⟩
   ·have:=hgl b (g▸e);omega
   ·rw[g]at e;cases e;omega)
  have e:((List.range (k+1)).flatMap fun j=>[Value.pointer (some ⟨upd sf k W.heap.size j,0,none⟩),Value.pointer (some ⟨upd rf k wa.heap.size j,0,none⟩)])=((List.range k).flatMap fun j=>[Value.pointer (some ⟨sf j,0,none⟩),Value.pointer (some ⟨rf j,0,none⟩)])++[.pointer (some ⟨W.heap.size,0,none⟩),.pointer (some ⟨wa.heap.size,0,none⟩)]:=by
   rw[k2a,k1S _ (fun j=>[Value.pointer (some ⟨sf j,0,none⟩),Value.pointer (some ⟨rf j,0,none⟩)]) k (fun j hj=>by rw[k06 _ _ zz1,k06 _ _ zz1]),k04,k04]
  rw[e];exact h
 ·rcases Gd with g|⟨b2,g,hb2⟩
  ·have h1:=hgl b (g▸hb)
   refine⟨h1.2,?_⟩;show(if b<W.heap.size then oc b else _)=_;rw[if_pos h1.1];exact(Q.gl b (g▸hb)).2
  ·rw[g]at hb;cases hb
   have:=Rd.lt g;refine⟨zz1,?_⟩;show(if b<W.heap.size then oc b else if b=W.heap.size then _ else if b=wa.heap.size then _ else if b<wd.heap.size then _ else _)=_;rw[if_neg zz1,if_neg zz1,if_neg zz1,if_pos this]
 ·by_cases e:j=k
  ·subst e
   rw[k04];refine⟨zz1,?_,?_⟩
   ·show(if W.heap.size<W.heap.size then _ else if W.heap.size=W.heap.size then _ else _)=_
    rw[if_neg zz1,if_pos rfl]
   ·exact(Below.heap_setCell _ _ _ _ (by show W.heap.size≠xb;omega)).trans ((Od.keep _ zz1 (fun h=>by have:=hgl _ h;omega)).trans ((Lb.block _ zz1).trans Za))
  ·rw[k06 _ _ e]
   obtain⟨h1,h2,h3⟩:=Q.snd j zz1;have h4:=k03 h3;refine⟨h1,?_,(keepW _ h4 (fun h=>by have:=(Q.gl _ h).2;rw[h2]at this;cases this) zz1).trans h3⟩;show(if sf j<W.heap.size then oc (sf j) else _)=_;rw[if_pos h4];exact h2
 ·by_cases e:j=k
  ·subst e
   rw[k04];refine⟨zz1,?_,?_⟩
   ·show(if wa.heap.size<W.heap.size then _ else if wa.heap.size=W.heap.size then _ else if wa.heap.size=wa.heap.size then _ else _)=_
    rw[if_neg zz1,if_neg zz1,if_pos rfl]
   ·exact(Below.heap_setCell _ _ _ _ (by show wa.heap.size≠xb;omega)).trans ((Od.keep _ zz1 (fun h=>by have:=hgl _ h;omega)).trans Zb)
  ·rw[k06 _ _ e]
   obtain⟨h1,h2,h3⟩:=Q.rcv j zz1;have h4:=k03 h3;refine⟨h1,?_,(keepW _ h4 (fun h=>by have:=(Q.gl _ h).2;rw[h2]at this;cases this) zz1).trans h3⟩;show(if rf j<W.heap.size then oc (rf j) else _)=_;rw[if_pos h4];exact h2
theorem Made.next{w Wr w11 W wd:World}{o oc o11 oc2:Nat->Col}{D:PlanD}{A1 c1 A2 c2 A3 c3 v}{T:NTab}{n:Nat}{xb x gw:Nat}{sf rf:Nat->Nat}{A:Option Addr}{c:Nat}{gl:Option Nat}{pb po pc:Nat}
 (G:Good D) (M:Made w o D A1 c1 A2 c2 A3 c3 v Wr oc T n) (hn:1<=n) (hx:k0G D v n=x) (N11:NewB w.heap.size o w o11 w11) (T11:Tr (fun _=>False) oc Wr o11 w11) (W11:WheelAt w11 o11 (.whl v n) gw D.lanes) (h11:w11.heap.size=xb+1) (hxw:Wr.heap.size<=xb) (hjx:o11 xb=.junk)
 (Q:LaneB w11 o11 D v n xb x gw W oc2 sf rf A c gl D.lanes)
 (Rd:Row wd (.slice (some ⟨pb,po,none⟩) (n+1) pc) 141 3 (n+1) (k29 D T v n++[.int .i64 x,.slice A D.lanes c,.pointer (some ⟨gw,0,none⟩)]) (some pb)) (Od:Only (fun b=>some T.pb=some b) W wd) (Gd:some pb=some T.pb\/∃b,some pb=some b/\W.heap.size<=b) :
 ∃oc' T',Made w o D A1 c1 A2 c2 A3 c3 v (wd.setCell ⟨T.g,13,none⟩ (.slice (some ⟨pb,po,none⟩) (n+1) pc)) oc' T' (n+1)/\T'.g=T.g/\(T'.A1=T.A1/\T'.c1=T.c1/\T'.A2=T.A2/\T'.c2=T.c2/\T'.A3=T.A3/\T'.c3=T.c3):=by
 obtain⟨lb,lo,lc,hgl,hA,_,_,_⟩:=Q.row.open G.l0;simp only[Value.slice.injEq]at hA;obtain⟨rfl,-,rfl⟩:=hA;have hg:=k03 M.node;have hp:=M.ports.lt rfl;have hW:=Q.only.size;have sd:=Od.size;have hbx:=k03 M.box;obtain⟨cp,hcp⟩:=M.ports.blk_ty;have hpg:T.pb≠T.g:=k0u hcp M.node zz7;have hlb:=Q.gl lb hgl;have hlbl:=Q.row.lt hgl;have hpd:=Rd.lt rfl;have hpbn:pb≠T.g:=by
  obtain⟨cp2,hcp2⟩:=Rd.blk_ty;rcases Gd with h|⟨b,h,hb⟩
  ·cases h;exact hpg
  ·cases h;omega
 have keep:∀b,b<W.heap.size->b≠T.pb->b≠T.g->(wd.setCell ⟨T.g,13,none⟩ (.slice (some ⟨pb,po,none⟩) (n+1) pc)).heap[b]? = W.heap[b]?:=fun b hb h1 h2=>
  (Below.heap_setCell _ _ _ _ h2).trans (Od.keep b hb (fun e=>h1 (Option.some.inj e).symm))
 have old:∀b,b<Wr.heap.size->W.heap[b]? = Wr.heap[b]?:=fun b hb=>(Q.only.keep b zz1 zz1).trans (T11.only.same hb (fun x=>x))
 obtain⟨oc',hoc⟩:∃oc',oc'=fun b=>if b<W.heap.size then oc2 b else if b<wd.heap.size then Col.fix else .junk:=⟨_,rfl⟩
 have o1:∀b,b<W.heap.size->oc' b=oc2 b:=fun b hb=>by rw[hoc];exact if_pos hb
 have o2:∀b,b<Wr.heap.size->oc' b=oc b:=fun b hb=>by rw[o1 b zz1,Q.own b zz1,T11.own b hb]
 obtain⟨T',hT'⟩:∃T':NTab,T' = { T with pb:=pb,po:=po,pc:=pc,whl:=upd T.whl n gw,lb:=upd T.lb n lb,lo:=upd T.lo n lo,lc:=upd T.lc n c,snd:=fun i k=>if i=n then sf k else T.snd i k,rcv:=fun i k=>if i=n then rf k else T.rcv i k }:=⟨_,rfl⟩;have fr:Fresh oc' (wd.setCell ⟨T.g,13,none⟩ (.slice (some ⟨pb,po,none⟩) (n+1) pc)):=fun b hb=>by
  have hb':wd.heap.size<=b:=zz78
  rw[hoc];show(if b<W.heap.size then oc2 b else if b<wd.heap.size then Col.fix else .junk)=.junk;rw[if_neg zz1,if_neg zz1]
 have t1:Tr (fun c=>c=.fix\/c=.node v) oc2 W oc' (wd.setCell ⟨T.g,13,none⟩ (.slice (some ⟨pb,po,none⟩) (n+1) pc)):=by
  refine⟨⟨Od.os,Od.tape,Od.output,by simp[World.setCell];exact sd,fun b hb h=>keep b hb (fun e=>h ?_) (fun e=>h ?_)⟩,o1,fr⟩
  ·rw[e,Q.own _ zz1,T11.own _ hp];exact .inl M.op
  ·rw[e,Q.own _ zz1,T11.own _ hg];exact .inr M.og
 have t2:Tr (fun c=>c=.junk) o11 w11 oc2 W:=by
  refine⟨Q.only.mono (fun b hb e=>?_),Q.own,Q.fresh⟩;have:b=xb:=by omega
  rw[this];exact hjx
 have hxn:w.heap.size<=Wr.heap.size:=M.new.below.size;have tH:T'.host=T.host:=by rw[hT']
 have tw1:∀i,i≠n->T'.whl i=T.whl i:=fun i hi=>by rw[hT'];exact k06 _ _ hi
 have tw2:T'.whl n=gw:=by rw[hT'];exact k04 _ _ _
 have ts1:∀i k,i≠n->T'.snd i k=T.snd i k/\T'.rcv i k=T.rcv i k:=fun i k hi=>by rw[hT'];exact⟨if_neg hi,if_neg hi⟩
 have ts2:∀k,T'.snd n k=sf k/\T'.rcv n k=rf k:=fun k=>by rw[hT'];exact⟨if_pos rfl,if_pos rfl⟩
 have tl1:∀i,i≠n->T'.lb i=T.lb i/\T'.lo i=T.lo i/\T'.lc i=T.lc i:=fun i hi=>by rw[hT'];exact⟨k06 _ _ hi,k06 _ _ hi,k06 _ _ hi⟩
 have tl2:T'.lb n=lb/\T'.lo n=lo/\T'.lc n=c:=by rw[hT'];exact⟨k04 _ _ _,k04 _ _ _,k04 _ _ _⟩
 have tp:T'.pb=pb/\T'.po=po/\T'.pc=pc:=by rw[hT'];exact⟨rfl,rfl,rfl⟩
 have tg:T'.g=T.g:=by rw[hT']
 have tA:T'.A1=T.A1/\T'.c1=T.c1/\T'.A2=T.A2/\T'.c2=T.c2/\T'.A3=T.A3/\T'.c3=T.c3:=by rw[hT'];exact⟨rfl,rfl,rfl,rfl,rfl,rfl⟩
 clear hT';have NF:∀c:Col,(c=.fix\/c=.node v)->kcX c:=fun c h=>by rcases h with h|h<;>rw[h];exact .inl rfl;exact .inr ⟨v,rfl⟩
 have hal:Half (wd.setCell ⟨T.g,13,none⟩ (.slice (some ⟨pb,po,none⟩) (n+1) pc)) oc' v D T n n 0:=((M.half.tr T11 (fun _ x=>x.elim)).tr t2 (fun c e=>by rw[e];exact .inl rfl)).tr t1 NF;refine⟨oc',T',⟨⟨?_,fun b hb=>?_,fr⟩,⟨?_,fun i hi=>?_,fun i k h1 h2 h3=>?_,fun i k h1 h2 h3=>?_⟩,?_,?_,?_,?_,?_,fun i h1 h2=>?_,?_,?_⟩,tg,tA⟩
 ·refine N11.below.trans ⟨Od.os.trans Q.only.os,Od.tape.trans Q.only.tape,Od.output.trans Q.only.output,by simp[World.setCell];omega,fun b hb=>?_⟩
  have:=M.opn;have:=M.gn;exact(keep b zz1 zz1 zz1).trans (Q.only.keep b zz1 zz1)
 ·rw[o2 b zz1];exact M.new.own b hb
 ·rw[tH];exact hal.host
 ·by_cases e:i=n
  ·subst e;rw[tw2];exact(W11.tr t2 zz6).tr t1 zz6
  ·rw[tw1 i e];exact hal.whl i zz1
 ·by_cases e:i=n
  ·subst e
   rw[(ts2 k).1];obtain⟨_,q2,q3⟩:=Q.snd k h2;exact⟨(t1.own _ (k03 q3)).trans q2,t1.blk q3 (by rw[q2];simp)⟩
  ·rw[(ts1 i k e).1];exact hal.snd i k h1 h2 (.inl zz1)
 ·by_cases e:i=n
  ·subst e
   rw[(ts2 k).2];obtain⟨_,q2,q3⟩:=Q.rcv k h2;exact⟨(t1.own _ (k03 q3)).trans q2,t1.blk q3 (by rw[q2];simp)⟩
  ·rw[(ts1 i k e).2];exact hal.rcv i k h1 h2 (.inl zz1)
 ·rw[tg,o2 _ hg];exact M.og
 ·rw[tg,tH,tp.1,tp.2.1,tp.2.2]
  have h:=(Od.keep _ zz1 (fun e=>hpg (Option.some.inj e))).trans ((old _ hg).trans M.node);exact k05 h 13 _
 ·rw[tp.1,tp.2.1,tp.2.2]
  have h:=Rd.only (k0j wd T.g 13 (.slice (some ⟨pb,po,none⟩) (n+1) pc)) (fun b e e2=>by cases e;exact hpbn e2);have e:k29 D T' v (n+1)=k29 D T v n++[.int .i64 x,.slice (some ⟨lb,lo,none⟩) D.lanes c,.pointer (some ⟨gw,0,none⟩)]:=by
   unfold k29;rw[k2a,k1S (k6k D T' v) (k6k D T v) n (fun i hi=>?_)]
   ·unfold k6k k1v
    rw[if_neg zz1,tw2,tl2.1,tl2.2.1,tl2.2.2,hx]
   ·unfold k6k k1v
    rw[tw1 i zz1,(tl1 i zz1).1,(tl1 i zz1).2.1,(tl1 i zz1).2.2]
  rw[e];exact h
 ·rw[tp.1]
  rcases Gd with h|⟨b,h,hb⟩
  ·cases h;rw[o2 _ hp];exact M.op
  ·cases h
   have hb':W.heap.size<=pb:=hb;have:=fr;have e3:oc' pb=.fix:=by
    have h5:oc'=fun b=>if b<W.heap.size then oc2 b else if b<wd.heap.size then Col.fix else .junk:=zz40
    rw[h5];show(if pb<W.heap.size then oc2 pb else if pb<wd.heap.size then Col.fix else .junk)=.fix;rw[if_neg zz1,if_pos hpd]
   exact e3
 ·rw[tp.1]
  rcases Gd with h|⟨b,h,hb⟩
  ·cases h;exact M.opn
  ·cases h;have hb':W.heap.size<=pb:=hb;omega
 ·by_cases e:i=n
  ·subst e
   rw[tl2.1,tl2.2.1,tl2.2.2];have e:k1s D T' i=((List.range D.lanes).flatMap fun j=>[Value.pointer (some ⟨sf j,0,none⟩),Value.pointer (some ⟨rf j,0,none⟩)]):=by
    unfold k1s;exact k1S _ _ _ (fun k hk=>by unfold kb8;rw[(ts2 k).1,(ts2 k).2])
   rw[e];have hr:=Q.row;rw[hgl]at hr;obtain⟨cl,hcl⟩:=hr.blk_ty;have hne:lb≠T.pb:=by have:=M.ports.lt rfl;omega
   exact⟨hr.of_blk (fun b e=>by cases e;exact keep _ hlbl hne zz1),(o1 _ hlbl).trans hlb.2⟩
  ·obtain⟨r1,r2⟩:=M.lanes i h1 zz1
   obtain⟨e1,e2,e3⟩:=tl1 i e;rw[e1,e2,e3];have e4:k1s D T' i=k1s D T i:=by
    unfold k1s;exact k1S _ _ _ (fun k hk=>by unfold kb8;rw[(ts1 i k e).1,(ts1 i k e).2])
   rw[e4];have hl:=r1.lt rfl;obtain⟨cl,hcl⟩:=r1.blk_ty;exact⟨r1.of_blk (fun b e=>by cases e;exact(keep _ zz1 (k0u hcl hcp zz7) (k0u hcl M.node zz7)).trans (old _ hl)),(o2 _ hl).trans r2⟩
 ·exact(keep _ zz1 (by have:=M.opn;exact fun e=>k0u hcp M.box zz7 e.symm) (by have:=M.gn;omega)).trans ((old _ hbx).trans M.box)
 ·rw[tg];exact M.gn
theorem NewB.toTr{o o':Nat->Col}{w W:World}(h:NewB w.heap.size o w o' W):Tr (fun _=>False) o w o' W:=⟨Only.of_below h.below,h.own,h.fresh⟩
theorem Made.done{w wr w12 w14:World}{o oc:Nat->Col}{D:PlanD}{A1 c1 A2 c2 A3 c3 v}{T:NTab}{ga gb:Nat}(G:Good D)(hv:v<D.nodes)(P:PlanV w (fun b=>o b=.fix) (pagg D A1 c1 A2 c2 A3 c3) D)(M:Made w o D A1 c1 A2 c2 A3 c3 v wr oc T (np D v))
 (b12:Below wr.heap.size wr w12) (s12:w12.heap.size=wr.heap.size+3) (h12:w12.heap[wr.heap.size+2]? = some (.cells #[.slice (some ⟨ga,0,none⟩) (np D v) (np D v),.slice (some ⟨gb,0,none⟩) (np D v) (np D v)] 195 (0,0))) (hne:ga≠gb) (hga:wr.heap.size<=ga) (hgb:wr.heap.size<=gb) (n1:NumsB w12 ga (np D v) fun _=>0) (n2:NumsB w12 gb (np D v) fun _=>0)
 (b14:Below (w12.setCell ⟨T.g,0,none⟩ (.pointer (some ⟨wr.heap.size+2,0,none⟩))).heap.size (w12.setCell ⟨T.g,0,none⟩ (.pointer (some ⟨wr.heap.size+2,0,none⟩))) w14) (s14:w14.heap.size=w12.heap.size+4)
 (q1:w14.heap[w12.heap.size+1]? = some (.cells #[.slice (some ⟨w12.heap.size,0,none⟩) (np D v*D.lanes*D.room) (np D v*D.lanes*D.room),.int .i64 0,.int .i64 (np D v*D.lanes*D.room:Nat)] 239 (0,0))) (q2:k20 w14 w12.heap.size (np D v*D.lanes*D.room) (k1l (np D v*D.lanes*D.room) (np D v*D.lanes*D.room) true)) (q3:w14.heap[w12.heap.size+2]? = some (.map #[] 0))
 (q4:w14.heap[w12.heap.size+3]? = some (.cells #[.pointer (some ⟨w12.heap.size+1,0,none⟩),.map (some (w12.heap.size+2)),.int .i64 (np D v:Nat),.int .i64 D.lanes] 200 (0,0))) (h0:1<=np D v*D.lanes*D.room) (h1:np D v*D.lanes*D.room<=200) :
 ∃T' o',NodeAt (w14.setCell ⟨T.g,15,none⟩ (.pointer (some ⟨w12.heap.size+3,0,none⟩))) o' v D T' (nst0 D)/\NewB w.heap.size o w o' (w14.setCell ⟨T.g,15,none⟩ (.pointer (some ⟨w12.heap.size+3,0,none⟩)))/\T'.g=T.g:=by
 have hg:=k03 M.node;have hgn:=M.gn;have hws:=M.new.below.size;have hp:=M.ports.lt rfl;have hnp:np D v<=6:=by unfold np;have:=G.bl v hv;omega
 have l12a:=n1.lt;have l12b:=n2.lt;obtain⟨cp,hcp⟩:=M.ports.blk_ty;have hpg:T.pb≠T.g:=k0u hcp M.node zz7;obtain⟨o1,ho1⟩:∃o1,o1=paint oc wr.heap.size w12.heap.size (.arb v):=⟨_,rfl⟩;have t1:Tr (fun _=>False) oc wr o1 w12:=by rw[ho1];exact Tr.paint _ (Only.of_below b12)
 have og1:o1 T.g=.node v:=(t1.own _ hg).trans M.og;have Z12:=(b12.block _ hg).trans M.node;have p1:∀b,wr.heap.size<=b->b<w12.heap.size->o1 b=.arb v:=fun b h1 h2=>by rw[ho1];exact k0C _ _ h1 h2
 have A1':ArbAt w12 o1 (.arb v) (wr.heap.size+2) (np D v):=ArbAt.new (w':=w12) h12 hne (p1 _ zz1 zz1) (p1 _ hga l12a) (p1 _ hgb l12b) n1 n2;have t2:Tr (fun c=>c=.node v) o1 w12 o1 (w12.setCell ⟨T.g,0,none⟩ (.pointer (some ⟨wr.heap.size+2,0,none⟩))):=Tr.same t1.fresh ((k0j _ _ _ _).mono (fun b _ e=>by rw[e];exact og1));have Z13:=k05 Z12 0 (.pointer (some ⟨wr.heap.size+2,0,none⟩));have hs13:(w12.setCell ⟨T.g,0,none⟩ (.pointer (some ⟨wr.heap.size+2,0,none⟩))).heap.size=w12.heap.size:=zz6
 obtain⟨w13,hw13⟩:∃w13,w13=w12.setCell ⟨T.g,0,none⟩ (.pointer (some ⟨wr.heap.size+2,0,none⟩)):=⟨_,rfl⟩;rw[<- hw13]at b14 t2 Z13 hs13;have hg13:T.g<w13.heap.size:=by omega
 obtain⟨o2,ho2⟩:∃o2,o2=paint (paint o1 w13.heap.size (w12.heap.size+2) (.pool v)) (w12.heap.size+2) w14.heap.size (.rings v):=⟨_,rfl⟩;have k2:∀b,b<w13.heap.size->o2 b=o1 b:=fun b hb=>by rw[ho2,k0v _ _ zz1,k0v _ _ zz1]
 have f2:Fresh o2 w14:=fun b hb=>by rw[ho2];unfold paint;rw[if_neg zz1,if_neg zz1]
 have p2:∀b,w13.heap.size<=b->b<w12.heap.size+2->o2 b=.pool v:=fun b h1 h2=>by rw[ho2,k0v _ _ h2];exact k0C _ _ h1 h2
 have p3:∀b,w12.heap.size+2<=b->b<w14.heap.size->o2 b=.rings v:=fun b h1 h2=>by rw[ho2];exact k0C _ _ h1 h2
 have t3:Tr (fun _=>False) o1 w13 o2 w14:=⟨Only.of_below b14,k2,f2⟩;have og2:o2 T.g=.node v:=(k2 _ hg13).trans og1;have Z14:=(b14.block _ hg13).trans Z13;have R2:RingsAt w14 o2 (.rings v) (.pool v) (w12.heap.size+3) (np D v:Nat) D.lanes (np D v*D.lanes*D.room) (fun _=>[]):=RingsAt.new h0 h1 zz1 G.l1 q1 q2 q3 q4 (p2 _ zz1 zz1) (p2 _ zz1 zz1) (p3 _ zz1 zz1) (p3 _ zz1 zz1);have t4:Tr (fun c=>c=.node v) o2 w14 o2 (w14.setCell ⟨T.g,15,none⟩ (.pointer (some ⟨w12.heap.size+3,0,none⟩))):=Tr.same f2 ((k0j _ _ _ _).mono (fun b _ e=>by rw[e];exact og2));have Z15:=k05 Z14 15 (.pointer (some ⟨w12.heap.size+3,0,none⟩));obtain⟨w15,hw15⟩:∃w15,w15=w14.setCell ⟨T.g,15,none⟩ (.pointer (some ⟨w12.heap.size+3,0,none⟩)):=⟨_,rfl⟩;have hs15:w15.heap.size=w14.heap.size:=by rw[hw15];simp
 rw[<- hw15]at t4 Z15 ⊢;have Tt:Tr (fun c=>c=.node v) oc wr o2 w15:=(((t1.mono (fun _ x=>x.elim)).trans t2).trans (t3.mono (fun _ x=>x.elim))).trans t4;have hal:=M.half.tr Tt (fun c e=>by rw[e];exact .inr ⟨v,rfl⟩);have NB:NewB w.heap.size o w o2 w15:=by
  refine⟨⟨Tt.only.os.trans M.new.below.os,Tt.only.tape.trans M.new.below.tape,Tt.only.output.trans M.new.below.output,Nat.le_trans hws Tt.only.size,fun b hb=>?_⟩,fun b hb=>?_,Tt.fresh⟩
  ·refine Eq.trans ?_ (M.new.below.block b hb)
   have e4:w15.heap[b]? = w14.heap[b]?:=by rw[hw15];exact Below.heap_setCell _ _ _ _ (by show b≠T.g;omega)
   have e2:=b14.block b zz1;have e3:w13.heap[b]? = w12.heap[b]?:=by rw[hw13];exact Below.heap_setCell _ _ _ _ (by show b≠T.g;omega)
   exact e4.trans (e2.trans (e3.trans (b12.block b zz1)))
  ·rw[Tt.own b zz1];exact M.new.own b hb
 refine⟨{ T with arb:=wr.heap.size+2,rings:=w12.heap.size+3,A1:=A1,c1:=c1,A2:=A2,c2:=c2,A3:=A3,c3:=c3 },o2,⟨(Tt.own _ hg).trans M.og,Z15,P.tr NB.toTr (fun x=>x),M.ports.only Tt.only (fun b e=>by cases e;rw[M.op];simp),(Tt.own _ hp).trans M.op,fun i h1 h2=>?_,((A1'.tr t2 zz6).tr t3 (fun x=>x)).tr t4 zz6,hal.host,R2.tr t4 zz6 zz6,hal.whl,fun i k h1 h2 h3=>hal.snd i k h1 h3 (.inl h2),fun i k h1 h2 h3=>hal.rcv i k h1 h3 (.inl h2)⟩,NB,rfl⟩;obtain⟨a,b⟩:=M.lanes i h1 h2;exact⟨a.only Tt.only (fun b' e=>by cases e;rw[b];simp),(Tt.own _ (a.lt rfl)).trans b⟩
section
variable{w:World}{o:Nat->Col}{v:Nat}{D:PlanD}
theorem kbn(A1:Option Addr)(c1:Nat)(A2:Option Addr)(c2:Nat)(A3:Option Addr)(c3:Nat)(hP:PlanV w (fun b=>o b=.fix) (pagg D A1 c1 A2 c2 A3 c3) D)(G:Good D)(hv:v<D.nodes)(hf:Fresh o w) :
 Calls Tryz.prog 38 #[pagg D A1 c1 A2 c2 A3 c3,.int .i64 v] w fun e w'=>∃T o',e=.returned (.pointer (some ⟨T.g,0,none⟩))/\NodeAt w' o' v D T (nst0 D)/\NewB w.heap.size o w o' w':=by
 have P1:=Ab hP;have HG:=Ac (_/\_) (⟨G,hf⟩);have hn6:=G.n1;have L1:=Ab ((Below.refl w.heap.size w).alloc (Nat.le_refl _) (pbox D A1 c1 A2 c2 A3 c3));have Z1:=Ab (heap_alloc_new w (pbox D A1 c1 A2 c2 A3 c3));have e1:=decide_eq_false (show ¬(v:Int)<0 by omega);have e2:=decide_eq_false (show ¬(D.nodes:Nat)<=v by omega);have e2':=decide_eq_false (show ¬((D.nodes:Nat):Int)<=(v:Int) by omega);obtain⟨x1,x2,x3,x4,x5,x6,x7,x8,x9,x10,x11,x12,x13,x14⟩:=G.ints;clear hP G hf;go_enter Tryz.func38,Tryz.ntmps38
 go_wp2_with(go_at_call 35;refine(k4u _ _ D _ (P1.1.below L1.1) HG.1.1).mono ?_;rintro e w2 ⟨rfl,hb⟩;have L2:=Ac (_/\_) (⟨L1.1.trans (hb.mono L1.1.size),(hb.block _ zz6).trans Z1.1⟩);have b0:=fun i=>k00 L2.1.2 i;clear hb)
 have HS:=Ac ((fun(W:World)=>W.cell? ⟨w.heap.size,0,none⟩=some (Value.int .i64 D.nodes)/\W.cell? ⟨w.heap.size,1,none⟩=some (.slice A1 D.edges.length c1)/\W.cell? ⟨w.heap.size,2,none⟩=some (.int .i64 D.lanes)/\W.cell? ⟨w.heap.size,3,none⟩=some (.int .i64 D.room)/\W.cell? ⟨w.heap.size,4,none⟩=some (.int .i64 D.queue)/\W.cell? ⟨w.heap.size,5,none⟩=some (.int .i64 D.rounds)/\W.cell? ⟨w.heap.size,6,none⟩=some (.int .i64 D.every)/\W.cell? ⟨w.heap.size,7,none⟩=some (.int .i64 D.bag)/\W.cell? ⟨w.heap.size,8,none⟩=some (.slice A2 D.weights.length c2)/\W.cell? ⟨w.heap.size,9,none⟩=some (.int .u16 D.start)/\W.cell? ⟨w.heap.size,10,none⟩=some (.slice A3 D.next.length c3)) w2) (⟨(k00 L2.1.2 0).trans rfl,(k00 L2.1.2 1).trans rfl,(k00 L2.1.2 2).trans rfl,(k00 L2.1.2 3).trans rfl,(k00 L2.1.2 4).trans rfl,(k00 L2.1.2 5).trans rfl,(k00 L2.1.2 6).trans rfl,(k00 L2.1.2 7).trans rfl,(k00 L2.1.2 8).trans rfl,(k00 L2.1.2 9).trans rfl,(k00 L2.1.2 10).trans rfl⟩);clear b0;refine WpL.region (fun(W:World)=>W.cell? ⟨w.heap.size,0,none⟩=some (Value.int .i64 D.nodes)/\W.cell? ⟨w.heap.size,1,none⟩=some (.slice A1 D.edges.length c1)/\W.cell? ⟨w.heap.size,2,none⟩=some (.int .i64 D.lanes)/\W.cell? ⟨w.heap.size,3,none⟩=some (.int .i64 D.room)/\W.cell? ⟨w.heap.size,4,none⟩=some (.int .i64 D.queue)/\W.cell? ⟨w.heap.size,5,none⟩=some (.int .i64 D.rounds)/\W.cell? ⟨w.heap.size,6,none⟩=some (.int .i64 D.every)/\W.cell? ⟨w.heap.size,7,none⟩=some (.int .i64 D.bag)/\W.cell? ⟨w.heap.size,8,none⟩=some (.slice A2 D.weights.length c2)/\W.cell? ⟨w.heap.size,9,none⟩=some (.int .u16 D.start)/\W.cell? ⟨w.heap.size,10,none⟩=some (.slice A3 D.next.length c3)) 99 zz2 ?_;refine WpL.E 0 HS.1 ?_;refine WpL.E 1 HS.1 ?_;refine WpL.E 2 HS.1 ?_;refine WpL.E 3 HS.1 ?_;refine WpL.E 4 HS.1 ?_;refine WpL.E 5 HS.1 ?_;refine WpL.one (i:=6) zz2 rfl (fun K hK=>?_);go_simp;refine(kaB D.lanes D.queue _ x3 x4 x7 x8).mono ?_;rintro e w3 ⟨rfl,rfl⟩;have L3:=Ac (Below w2.heap.size w2 (w2.drew.alloc (.cells #[.slice none 0 0,.slice none 0 0,.slice none 0 0,.slice none 0 0,.int .i64 D.lanes,.int .i64 D.queue] 110))) (((Below.refl _ w2).drew).alloc (Nat.le_refl _) _);have HS3:=Ac ((fun(W:World)=>W.cell? ⟨w.heap.size,0,none⟩=some (Value.int .i64 D.nodes)/\W.cell? ⟨w.heap.size,1,none⟩=some (.slice A1 D.edges.length c1)/\W.cell? ⟨w.heap.size,2,none⟩=some (.int .i64 D.lanes)/\W.cell? ⟨w.heap.size,3,none⟩=some (.int .i64 D.room)/\W.cell? ⟨w.heap.size,4,none⟩=some (.int .i64 D.queue)/\W.cell? ⟨w.heap.size,5,none⟩=some (.int .i64 D.rounds)/\W.cell? ⟨w.heap.size,6,none⟩=some (.int .i64 D.every)/\W.cell? ⟨w.heap.size,7,none⟩=some (.int .i64 D.bag)/\W.cell? ⟨w.heap.size,8,none⟩=some (.slice A2 D.weights.length c2)/\W.cell? ⟨w.heap.size,9,none⟩=some (.int .u16 D.start)/\W.cell? ⟨w.heap.size,10,none⟩=some (.slice A3 D.next.length c3)) (w2.drew.alloc (.cells #[.slice none 0 0,.slice none 0 0,.slice none 0 0,.slice none 0 0,.int .i64 D.lanes,.int .i64 D.queue] 110))) (⟨(k00 ((L3.1.block _ (k03 L2.1.2)).trans L2.1.2) 0).trans rfl,(k00 ((L3.1.block _ (k03 L2.1.2)).trans L2.1.2) 1).trans rfl,(k00 ((L3.1.block _ (k03 L2.1.2)).trans L2.1.2) 2).trans rfl,(k00 ((L3.1.block _ (k03 L2.1.2)).trans L2.1.2) 3).trans rfl,(k00 ((L3.1.block _ (k03 L2.1.2)).trans L2.1.2) 4).trans rfl,(k00 ((L3.1.block _ (k03 L2.1.2)).trans L2.1.2) 5).trans rfl,(k00 ((L3.1.block _ (k03 L2.1.2)).trans L2.1.2) 6).trans rfl,(k00 ((L3.1.block _ (k03 L2.1.2)).trans L2.1.2) 7).trans rfl,(k00 ((L3.1.block _ (k03 L2.1.2)).trans L2.1.2) 8).trans rfl,(k00 ((L3.1.block _ (k03 L2.1.2)).trans L2.1.2) 9).trans rfl,(k00 ((L3.1.block _ (k03 L2.1.2)).trans L2.1.2) 10).trans rfl⟩);simp only[];refine hK.out _ _ (fun _=>HS3.1) ?_;clear hK K
 try refine Sm ?_
 refine WpL.E 7 HS3.1 ?_;refine WpL.one (i:=8) zz2 rfl (fun K hK=>?_);go_simp;have HS4:=Ac ((fun(W:World)=>W.cell? ⟨w.heap.size,0,none⟩=some (Value.int .i64 D.nodes)/\W.cell? ⟨w.heap.size,1,none⟩=some (.slice A1 D.edges.length c1)/\W.cell? ⟨w.heap.size,2,none⟩=some (.int .i64 D.lanes)/\W.cell? ⟨w.heap.size,3,none⟩=some (.int .i64 D.room)/\W.cell? ⟨w.heap.size,4,none⟩=some (.int .i64 D.queue)/\W.cell? ⟨w.heap.size,5,none⟩=some (.int .i64 D.rounds)/\W.cell? ⟨w.heap.size,6,none⟩=some (.int .i64 D.every)/\W.cell? ⟨w.heap.size,7,none⟩=some (.int .i64 D.bag)/\W.cell? ⟨w.heap.size,8,none⟩=some (.slice A2 D.weights.length c2)/\W.cell? ⟨w.heap.size,9,none⟩=some (.int .u16 D.start)/\W.cell? ⟨w.heap.size,10,none⟩=some (.slice A3 D.next.length c3)) ((w2.alloc (.cells #[.slice none 0 0,.slice none 0 0,.slice none 0 0,.slice none 0 0,.int .i64 D.lanes,.int .i64 D.queue] 110)).alloc (k8E D A1 c1 A2 c2 A3 c3 v none (.slice none 0 0) w2.heap.size none)).drew) (by
  have L4:Below w2.heap.size w2 ((w2.alloc (.cells #[.slice none 0 0,.slice none 0 0,.slice none 0 0,.slice none 0 0,.int .i64 D.lanes,.int .i64 D.queue] 110)).alloc (k8E D A1 c1 A2 c2 A3 c3 v none (.slice none 0 0) w2.heap.size none)).drew:=(((Below.refl _ w2).alloc (Nat.le_refl _) _).alloc zz6 _).drew;exact⟨(k00 ((L4.block _ (k03 L2.1.2)).trans L2.1.2) 0).trans rfl,(k00 ((L4.block _ (k03 L2.1.2)).trans L2.1.2) 1).trans rfl,(k00 ((L4.block _ (k03 L2.1.2)).trans L2.1.2) 2).trans rfl,(k00 ((L4.block _ (k03 L2.1.2)).trans L2.1.2) 3).trans rfl,(k00 ((L4.block _ (k03 L2.1.2)).trans L2.1.2) 4).trans rfl,(k00 ((L4.block _ (k03 L2.1.2)).trans L2.1.2) 5).trans rfl,(k00 ((L4.block _ (k03 L2.1.2)).trans L2.1.2) 6).trans rfl,(k00 ((L4.block _ (k03 L2.1.2)).trans L2.1.2) 7).trans rfl,(k00 ((L4.block _ (k03 L2.1.2)).trans L2.1.2) 8).trans rfl,(k00 ((L4.block _ (k03 L2.1.2)).trans L2.1.2) 9).trans rfl,(k00 ((L4.block _ (k03 L2.1.2)).trans L2.1.2) 10).trans rfl⟩)
 refine hK.out _ _ (fun _=>HS4.1) ?_;clear hK K
 try refine Sm ?_
 refine WpL.E 9 HS4.1 ?_;refine WpL.done zz2 ?_ _;go_wp2;obtain⟨w4,hw4⟩:∃w4,w4=((w2.alloc (.cells #[.slice none 0 0,.slice none 0 0,.slice none 0 0,.slice none 0 0,.int .i64 D.lanes,.int .i64 D.queue] 110)).alloc (k8E D A1 c1 A2 c2 A3 c3 v none (.slice none 0 0) w2.heap.size none)).drew:=⟨_,rfl⟩;have L4:=Ac (Below w2.heap.size w2 w4) (by rw[hw4];exact(((Below.refl _ w2).alloc (Nat.le_refl _) _).alloc zz6 _).drew);obtain⟨o4,ho4⟩:∃o4,o4=paint (paint o w2.heap.size (w2.heap.size+1) (.host v)) (w2.heap.size+1) (w2.heap.size+2) (.node v):=⟨_,rfl⟩;have hs4:w4.heap.size=w2.heap.size+2:=by rw[hw4];simp
 have N4:=Ac (NewB w.heap.size o w o4 w4) (⟨L2.1.1.trans (L4.1.mono L2.1.1.size),fun b hb=>by rw[ho4,k0v _ _ (by have:=L2.1.1.size;omega),k0v _ _ (by have:=L2.1.1.size;omega)],fun b hb=>by rw[ho4];unfold paint;rw[if_neg zz1,if_neg zz1]⟩);have Z4:=Ac (w4.heap[w2.heap.size+1]? = some (k8E D A1 c1 A2 c2 A3 c3 v none (.slice none 0 0) w2.heap.size none)) (by
  have h:=heap_alloc_new (w2.alloc (.cells #[.slice none 0 0,.slice none 0 0,.slice none 0 0,.slice none 0 0,.int .i64 D.lanes,.int .i64 D.queue] 110)) (k8E D A1 c1 A2 c2 A3 c3 v none (.slice none 0 0) w2.heap.size none);rw[World.size_alloc]at h;rw[hw4];exact h)
 have H4:=Ac (HostAt w4 o4 (.host v) w2.heap.size D.lanes D.queue (fun _=>[])) (by
  have h:=HostAt.new (fun _=>Col.host v) (.host v) D.lanes D.queue w2 x3 x4 x7 x8 rfl;obtain⟨_,vs,gs,h1,h2,h3,h4,h5⟩:=h;refine⟨by rw[ho4,k0v _ _ zz1];exact k0C _ _ (Nat.le_refl _) zz1,fun _=>.slice none 0 0,fun _=>none,?_,fun _ _=>Row.nil _ _ _,zz6,zz6,h5⟩;rw[hw4];exact(Below.heap_alloc _ _ _ zz6).trans (heap_alloc_new w2 _))
 have O4:=Ac (o4 (w2.heap.size+1)=.node v) (by rw[ho4];exact k0C _ _ (Nat.le_refl _) zz1);have X4:=Ac (w4.heap[w.heap.size]? = some (pbox D A1 c1 A2 c2 A3 c3)) ((L4.1.block _ (k03 L2.1.2)).trans L2.1.2);rw[<- hw4];have HS4b:=Ac ((fun(W:World)=>W.cell? ⟨w.heap.size,8,none⟩=some (.slice A2 D.weights.length c2)/\W.cell? ⟨w2.heap.size+1,13,none⟩=some (.slice none 0 0)) w4) (⟨(k00 X4.1 8).trans rfl,(k00 Z4.1 13).trans rfl⟩);clear hw4 ho4;refine WpL.region (fun(W:World)=>W.cell? ⟨w.heap.size,8,none⟩=some (.slice A2 D.weights.length c2)/\W.cell? ⟨w2.heap.size+1,13,none⟩=some (.slice none 0 0)) 14 zz2 ?_;refine WpL.T 0 [] HS4b.1 ?_;refine WpL.T 1 [] HS4b.1 ?_;refine WpL.T 2 [] HS4b.1 ?_;refine WpL.T 3 [] HS4b.1 ?_;refine WpL.T 4 [] HS4b.1 ?_;refine WpL.T 5 [] HS4b.1 ?_;refine WpL.T 6 [] HS4b.1 ?_;refine WpL.T 7 [] HS4b.1 ?_;refine WpL.one (i:=8) zz2 rfl (fun K hK=>?_);go_simp;obtain⟨_,gwt,_,_,_,rwt,_⟩:=(P1.1.below (N4.1.below.drew)).rows HG.1.1;refine(k4t _ D.weights.length D.weights gwt _ (by have:=HG.1.1.wl;have:=HG.1.1.l0;omega) rwt HG.1.1.wb (by have:=HG.1.1.wl;have:=HG.1.1.l1;omega)).mono ?_;intro e w5 hm;rw[HG.1.1.wl]at hm;obtain⟨gw,rfl,hb,hwl⟩:=WheelAt.made (o:=o4) (c:=.whl v 0) hm (by have:=HG.1.1.l0;omega) HG.1.1.wb;have L5:=Ac (Below w4.heap.size w4 w5) (undrew hb);have W5:=Ab hwl;have HS5:=Ac ((fun(W:World)=>W.cell? ⟨w.heap.size,8,none⟩=some (.slice A2 D.weights.length c2)/\W.cell? ⟨w2.heap.size+1,13,none⟩=some (.slice none 0 0)) w5) (⟨k01 L5.1 HS4b.1.1,k01 L5.1 HS4b.1.2⟩);clear hb hwl hm rwt;simp only[];refine hK.out _ _ (fun _=>HS5.1) ?_;clear hK K
 try refine Sm ?_
 refine WpL.T 9 [] HS5.1 ?_;refine WpL.one (i:=10) zz2 rfl (fun K hK=>?_);go_simp;have L6:=Ac (Below w5.heap.size w5 (w5.alloc (.cells #[.int .i64 v,.slice none 0 0,.pointer (some ⟨gw,0,none⟩)] 141))) ((Below.refl _ w5).alloc (Nat.le_refl _) _);have HS6:=Ac ((fun(W:World)=>W.cell? ⟨w.heap.size,8,none⟩=some (.slice A2 D.weights.length c2)/\W.cell? ⟨w2.heap.size+1,13,none⟩=some (.slice none 0 0)) (w5.alloc (.cells #[.int .i64 v,.slice none 0 0,.pointer (some ⟨gw,0,none⟩)] 141))) (⟨k01 L6.1 HS5.1.1,k01 L6.1 HS5.1.2⟩);refine hK.out _ _ (fun _=>HS6.1) ?_;clear hK K
 try refine Sm ?_
 refine WpL.one (i:=11) zz2 rfl (fun K hK=>?_);refine k0w rfl _ _ 97 141 (.agg #[.int .i64 0,.slice none 0 0,.pointer none]) 3 40 rfl Tryz.underlying97 k5L rfl zz7 zz7 (.slice none 0 0) 0 [] [.int .i64 v,.slice none 0 0,.pointer (some ⟨gw,0,none⟩)] none (Row.nil w5 141 3) rfl rfl rfl rfl zz33 zz1 ?_;intro v7 w7 g7 R7 O7 G7;obtain⟨pb,po,pc,hg7,hv7,hpc7,_,_⟩:=R7.open zz1;subst hg7;simp only[Nat.zero_add]at hv7 R7;subst hv7;have L7:=Ac (Below w5.heap.size w5 w7) (O7.toBelow (fun b _ e=>by cases e));have K7:=Ac (_/\_) (⟨R7,G7⟩);have HS7:=Ac ((fun(W:World)=>W.cell? ⟨w.heap.size,8,none⟩=some (.slice A2 D.weights.length c2)/\W.cell? ⟨w2.heap.size+1,13,none⟩=some (.slice none 0 0)) w7) (⟨k01 L7.1 HS5.1.1,k01 L7.1 HS5.1.2⟩);have Z7:=(L7.1.block _ (by have:=L5.1.size;have:=k03 Z4.1;omega)).trans ((L5.1.block _ (k03 Z4.1)).trans Z4.1);have c7:=HS7.1.2;have f7:=k02 Z7 13;have ZZ7:=Ab Z7;clear R7 O7 G7 Z7;refine hK.out _ _ (fun _=>HS7.1) ?_;clear hK K
 try refine Sm ?_
 refine WpL.T 12 [13] HS7.1 ?_;refine WpL.T 13 [] HS7.1 ?_;refine WpL.one (i:=14) zz2 rfl (fun K hK=>?_);go_simp;refine hK.out _ _ (fun h=>absurd rfl h) ?_;clear hK K
 try refine Sm ?_
 refine WpL.done zz2 ?_ _;have hpb7:w5.heap.size<=pb:=by
  rcases K7.1.2 with h|⟨b,h,hb⟩
  ·exact zz52
  ·cases h;exact hb
 have M8:=Ac (Made w o D A1 c1 A2 c2 A3 c3 v (w7.setCell ⟨w2.heap.size+1,13,none⟩ (.slice (some ⟨pb,po,none⟩) 1 pc)) (paint (paint o4 w4.heap.size w5.heap.size (.whl v 0)) w5.heap.size w7.heap.size .fix) ⟨w2.heap.size+1,0,w2.heap.size,0,pb,po,pc,fun _=>gw,fun _=>0,fun _=>0,fun _=>0,fun _ _=>0,fun _ _=>0,A1,c1,A2,c2,A3,c3⟩ 1) (by
  have s2:=L2.1.1.size;have s5:=L5.1.size;have s7:=L7.1.size;have hpl:=K7.1.1.lt rfl;have t5:Tr (fun _=>False) o4 w4 (paint o4 w4.heap.size w5.heap.size (.whl v 0)) w5:=Tr.paint _ (Only.of_below L5.1);have t7:Tr (fun _=>False) (paint o4 w4.heap.size w5.heap.size (.whl v 0)) w5 (paint (paint o4 w4.heap.size w5.heap.size (.whl v 0)) w5.heap.size w7.heap.size .fix) w7:=Tr.paint _ (Only.of_below L7.1);have og7:(paint (paint o4 w4.heap.size w5.heap.size (.whl v 0)) w5.heap.size w7.heap.size .fix) (w2.heap.size+1)=.node v:=by rw[t7.own _ zz1,t5.own _ zz1];exact O4.1
  have t8:Tr (fun c=>c=.node v) (paint (paint o4 w4.heap.size w5.heap.size (.whl v 0)) w5.heap.size w7.heap.size .fix) w7 _ (w7.setCell ⟨w2.heap.size+1,13,none⟩ (.slice (some ⟨pb,po,none⟩) 1 pc)):=Tr.same t7.fresh ((k0j _ _ _ _).mono (fun b _ e=>by rw[e];exact og7));have hne:pb≠w2.heap.size+1:=zz1
  refine⟨((N4.1.paint L5.1 zz1 _).paint L7.1 zz1 _).blw' ⟨w2.heap.size+1,13,none⟩ _ (by show w.heap.size<=w2.heap.size+1;omega),?_,og7,k05 ZZ7.1 13 _,?_,k0C _ _ hpb7 hpl,by show w.heap.size<=pb;omega,fun i h1 h2=>absurd h2 zz1,?_,by show w.heap.size<w2.heap.size+1;omega⟩
  ·refine⟨((H4.1.tr t5 id).tr t7 id).tr t8 zz6,fun i hi=>?_,fun i k h1 h2 h3=>?_,fun i k h1 h2 h3=>?_⟩
   ·obtain rfl:i=0:=by omega
    exact(W5.1.tr t7 id).tr t8 zz6
   ·exact absurd h3 zz1
   ·exact absurd h3 zz1
  ·have h:=K7.1.1.only (k0j w7 (w2.heap.size+1) 13 (.slice (some ⟨pb,po,none⟩) 1 pc)) (fun b e e2=>by cases e;exact hne e2)
   have e:k29 D ⟨w2.heap.size+1,0,w2.heap.size,0,pb,po,pc,fun _=>gw,fun _=>0,fun _=>0,fun _=>0,fun _ _=>0,fun _ _=>0,A1,c1,A2,c2,A3,c3⟩ v 1=[]++[.int .i64 v,.slice none 0 0,.pointer (some ⟨gw,0,none⟩)]:=by simp[k29,k6k,k0G,k1v,List.range_succ]
   rw[e];exact h
  ·exact(Below.heap_setCell _ _ _ _ (by show w.heap.size≠w2.heap.size+1;omega)).trans ((L7.1.block _ zz1).trans ((L5.1.block _ (k03 X4.1)).trans X4.1)))
 obtain⟨w8,hw8⟩:∃w8,w8=w7.setCell ⟨w2.heap.size+1,13,none⟩ (.slice (some ⟨pb,po,none⟩) 1 pc):=⟨_,rfl⟩;obtain⟨g,hg⟩:∃g,g=w2.heap.size+1:=⟨_,rfl⟩;obtain⟨gh,hgh⟩:∃gh,gh=w2.heap.size:=⟨_,rfl⟩;have HG8:=Ac (_/\_/\_) (⟨hw8,hg,hgh⟩);rw[<- hw8,<- hg]at M8;rw[<- hw8,<- hg];obtain⟨T1,hT1⟩:∃T1:NTab,T1=⟨g,0,w2.heap.size,0,pb,po,pc,fun _=>gw,fun _=>0,fun _=>0,fun _=>0,fun _ _=>0,fun _ _=>0,A1,c1,A2,c2,A3,c3⟩:=⟨_,rfl⟩;have hTg:T1.g=g:=by rw[hT1]
 have hTA:=Ac (T1.A1=A1/\T1.c1=c1/\T1.A2=A2/\T1.c2=c2/\T1.A3=A3/\T1.c3=c3) (by rw[hT1];exact⟨rfl,rfl,rfl,rfl,rfl,rfl⟩);obtain⟨o8,ho8⟩:∃o8,o8=paint (paint o4 w4.heap.size w5.heap.size (.whl v 0)) w5.heap.size w7.heap.size .fix:=⟨_,rfl⟩;rw[<- hT1,<- ho8]at M8;have HTg:=Ab hTg;clear hT1 ho8 hTg hw8 hg hgh;have b0:=fun i=>k00 M8.1.box i
 go_wp2_with(go_at_call 63;refine(k1r _ _ D v _ (P1.1.below M8.1.new.below) HG.1.1 hv).mono ?_;rintro e w9 ⟨bb,bo,bc,rfl,hr,hbb,hb⟩;have K9:=Ac (_/\_/\_) (⟨hr,hbb,hb⟩);clear hr hbb hb)
 clear b0;obtain⟨L,hL⟩:∃L,L=(D.bs v).length:=⟨_,rfl⟩;have HL:=Ab hL;have hL5:L<=5:=by rw[hL];exact HG.1.1.bl v hv
 rw[<- hL]at K9;rw[<- hL];clear hL
 go_loopw [49] (fun s49 wr=>∃(j:Nat)(oc:Nat->Col)(T:NTab),j<=L/\s49=.int .i64 j/\k07 (Made w o D A1 c1 A2 c2 A3 c3 v wr oc T (j+1)/\T.g=g/\(T.A1=A1/\T.c1=c1/\T.A2=A2/\T.c2=c2/\T.A3=A3/\T.c3=c3)/\wr.heap[bb]? = w9.heap[bb]? /\ bb<wr.heap.size)) (fun s49 _=>L-ixOf s49)
 case atStart=>exact⟨0,o8,T1,zz1,rfl,⟨M8.1.blw K9.1.2.2,HTg.1,hTA.1,rfl,K9.1.1.lt rfl⟩⟩
 case round=>
  clear M8 W5 ZZ7 K7 HS7 HS6 HS5 L6;obtain⟨j,oc,T,hj,rfl,R⟩:=hrel;by_cases hlt:j<L
  ·have e3:(j:Int)<(L:Int):=by omega
   obtain⟨x,hx⟩:∃x,(D.bs v)[j]? = some x:=⟨_,List.getElem?_eq_getElem zz82⟩;have hcx:wr.cell? ⟨bb,bo+j,none⟩=some (.int .i64 (x:Nat)):=by
    obtain⟨_,_,_,hg,hA,_,_,hcell⟩:=(K9.1.1.of_blk (W:=wr) (fun b e=>by cases e;exact R.1.2.2.2.1)).open (by omega:0<L);simp only[Value.slice.injEq,Option.some.injEq,Addr.mk.injEq,and_true,true_and]at hA;obtain⟨⟨rfl,rfl⟩,rfl⟩:=hA;rw[hcell j (by have:=HL.1;simp[i64s];omega)];simp[i64s,hx]
   have HX:=Ab hx;have b0:=fun i=>k00 R.1.1.box i
   clear hx
   go_wp2_with(go_at_call 66;obtain⟨_,gwt,_,_,_,rwt,_⟩:=(P1.1.below R.1.1.new.below).rows HG.1.1;refine(k4t _ D.weights.length D.weights gwt _ (by have:=HG.1.1.wl;have:=HG.1.1.l0;omega) rwt HG.1.1.wb (by have:=HG.1.1.wl;have:=HG.1.1.l1;omega)).mono ?_;intro e w10 hm;rw[HG.1.1.wl]at hm;obtain⟨gw2,rfl,hb,hwl⟩:=WheelAt.made (o:=oc) (c:=.whl v (j+1)) hm (by have:=HG.1.1.l0;omega) HG.1.1.wb;have L10:=Ab hb;have W10:=Ab hwl;have z10:=fun i=>k00 ((hb.block _ (k03 R.1.1.box)).trans R.1.1.box) i;have n10:=Nat.lt_of_lt_of_le (k03 R.1.1.box) hb.size;clear hb hwl hm rwt)
   clear b0 hcx z10 n10;obtain⟨xb,hxb⟩:∃xb,xb=w10.heap.size:=⟨_,rfl⟩;obtain⟨w11,hw11⟩:∃w11,w11=w10.alloc (.cells #[.int .i64 x,.slice none 0 0,.pointer (some ⟨gw2,0,none⟩)] 141):=⟨_,rfl⟩;obtain⟨o11,ho11⟩:∃o11,o11=paint oc wr.heap.size w10.heap.size (.whl v (j+1)):=⟨_,rfl⟩;have L11:=Ac (Below wr.heap.size wr w11) (by rw[hw11];exact L10.1.alloc L10.1.size _);have N11:=Ac (NewB w.heap.size o w o11 w11) (by
    have h:=R.1.1.new.paint L10.1 R.1.1.new.below.size (.whl v (j+1));rw[<- ho11]at h;have hz:=h.below.size;refine⟨by rw[hw11];exact h.below.alloc hz _,h.own,fun b hb=>h.fresh b (by rw[hw11]at hb;simp at hb;omega)⟩)
   have T11:=Ac (Tr (fun _=>False) oc wr o11 w11) (⟨Only.of_below L11.1,fun b hb=>by rw[ho11];exact k0v _ _ hb,N11.1.fresh⟩);have W11:=Ac (WheelAt w11 o11 (.whl v (j+1)) gw2 D.lanes) (by
    have hf:Fresh o11 w10:=fun b hb=>by rw[ho11];unfold paint;have:=L10.1.size;rw[if_neg zz1,if_neg zz1]
    rw[ho11,hw11];rw[ho11]at hf;exact W10.1.tr (Tr.below (S:=fun _=>False) hf ((Below.refl _ w10).alloc (Nat.le_refl _) _)) (fun x=>x))
   have X11:=Ac (w11.heap[xb]? = some (.cells #[.int .i64 x,.slice none 0 0,.pointer (some ⟨gw2,0,none⟩)] 141)) (by rw[hw11,hxb];exact heap_alloc_new w10 _);have J11:=Ac (o11 xb=.junk) (by rw[ho11,hxb];unfold paint;have:=L10.1.size;rw[if_neg zz1,if_neg zz1]);have hs11:w11.heap.size=xb+1:=by rw[hw11,hxb];simp
   have hxw:wr.heap.size<=xb:=by rw[hxb];exact L10.1.size
   rw[<- hxb,<- hw11];clear hw11 ho11 hxb;have b11:=(L11.1.block _ (k03 R.1.1.box)).trans R.1.1.box;have B11:=Ab b11;have z11:=fun i=>k00 b11 i
   clear b11;go_wp2
   go_loopw [60] (fun s60 W=>∃(k:Nat)(oc2:Nat->Col)(sf rf:Nat->Nat)(A:Option Addr)(c:Nat)(gl:Option Nat),k<=D.lanes/\s60=.int .i64 k/\k07 (LaneB w11 o11 D v (j+1) xb x gw2 W oc2 sf rf A c gl k)) (fun s60 _=>D.lanes-ixOf s60)
   case atStart=>exact⟨0,o11,fun _=>0,fun _=>0,none,0,none,zz1,rfl,⟨Only.refl _ _,fun _ _=>rfl,N11.1.fresh,X11.1,Row.nil _ _ _,zz6,fun i h=>by omega,fun i h=>by omega⟩⟩
   case round=>
    clear z11;obtain⟨k,oc2,sf,rf,A,c,gl,hk,rfl,Q⟩:=hrel;have hwx:w.heap.size<xb:=by have:=k03 R.1.1.box;omega
    have hws:=Q.1.only.size;have bW:=(Q.1.only.keep w.heap.size zz1 zz1).trans B11.1;have BW:=Ab bW;by_cases hlk:k<D.lanes
    ·have e4:(k:Int)<(D.lanes:Int):=by omega
     have HS:=Ac ((fun(W:World)=>W.cell? ⟨w.heap.size,9,none⟩=some (.int .u16 D.start)/\W.cell? ⟨w.heap.size,3,none⟩=some (.int .i64 D.room)/\W.cell? ⟨xb,1,none⟩=some (.slice A k c)) wr) (⟨(k00 bW 9).trans rfl,(k00 bW 3).trans rfl,(k00 Q.1.xbox 1).trans rfl⟩);clear bW;have hst:=HG.1.1.s1;have u1:IntKind.u64.wrap (D.start:Int)=(D.start:Int):=IntWalk.u64_in _ zz1;go_wp2;refine WpL.region (fun(W:World)=>W.cell? ⟨w.heap.size,9,none⟩=some (.int .u16 D.start)/\W.cell? ⟨w.heap.size,3,none⟩=some (.int .i64 D.room)/\W.cell? ⟨xb,1,none⟩=some (.slice A k c)) 18 zz2 ?_;refine WpL.T 0 [] HS.1 ?_;refine WpL.T 1 [] HS.1 ?_;refine WpL.T 2 [] HS.1 ?_;refine WpL.T 3 [] HS.1 ?_;refine WpL.T 4 [] HS.1 ?_;refine WpL.T 5 [] HS.1 ?_;refine WpL.T 6 [] HS.1 ?_;refine WpL.T 8 [] HS.1 ?_;refine WpL.T 9 [] HS.1 ?_;refine WpL.T 10 [] HS.1 ?_;refine WpL.T 11 [] HS.1 ?_;refine WpL.T 12 [] HS.1 ?_;refine WpL.one (i:=7) zz2 rfl (fun K hK=>?_);go_simp;refine(kcu D.start D.room _ zz1 zz1 x5 x6).mono ?_;rintro e wa ⟨rfl,hwa⟩;have La:=Ac (Below wr.heap.size wr wa) (by rw[hwa];exact((Below.refl _ wr).drew).alloc (Nat.le_refl _) _);have Za:=Ac (wa.heap[wr.heap.size]? = some (.cells #[.int .u64 D.start,.int .u64 ((D.start:Int)+D.room)] 191)) (by rw[hwa];exact heap_alloc_new _ _);have hsa:=Ac (wa.heap.size=wr.heap.size+1) (by rw[hwa];simp);have HSa:=Ac ((fun(W:World)=>W.cell? ⟨w.heap.size,9,none⟩=some (.int .u16 D.start)/\W.cell? ⟨w.heap.size,3,none⟩=some (.int .i64 D.room)/\W.cell? ⟨xb,1,none⟩=some (.slice A k c)) wa) (⟨k01 La.1 HS.1.1,k01 La.1 HS.1.2.1,k01 La.1 HS.1.2.2⟩);clear hwa;simp only[];refine hK.out _ _ (fun _=>HSa.1) ?_;clear hK K
     try refine Sm ?_
     refine WpL.one (i:=13) zz2 rfl (fun K hK=>?_);go_simp;refine(kca D.start D.room _ zz1 zz1 x5 x6).mono ?_;rintro e wb ⟨rfl,hwb⟩;have Lb:=Ac (Below wa.heap.size wa wb) (by rw[hwb];first|exact(Below.refl _ wa).alloc (Nat.le_refl _) _|exact((Below.refl _ wa).drew).alloc (Nat.le_refl _) _);have Zb:=Ac (wb.heap[wa.heap.size]? = some (.cells #[.int .u64 D.start,.int .i64 0,.int .i64 D.room] 193)) (by rw[hwb];exact heap_alloc_new _ _);have hsb:=Ac (wb.heap.size=wa.heap.size+1) (by rw[hwb];simp);have HSb:=Ac ((fun(W:World)=>W.cell? ⟨w.heap.size,9,none⟩=some (.int .u16 D.start)/\W.cell? ⟨w.heap.size,3,none⟩=some (.int .i64 D.room)/\W.cell? ⟨xb,1,none⟩=some (.slice A k c)) wb) (⟨k01 Lb.1 HSa.1.1,k01 Lb.1 HSa.1.2.1,k01 Lb.1 HSa.1.2.2⟩);clear hwb;simp only[];refine hK.out _ _ (fun _=>HSb.1) ?_;clear hK K
     try refine Sm ?_
     refine WpL.T 14 [] HSb.1 ?_;refine WpL.one (i:=15) zz2 rfl (fun K hK=>?_);go_simp;have Lc:=Ac (Below wb.heap.size wb (wb.alloc (.cells #[.pointer (some ⟨wr.heap.size,0,none⟩),.pointer (some ⟨wa.heap.size,0,none⟩)] 148))) ((Below.refl _ wb).alloc (Nat.le_refl _) _);have HSc:=Ac ((fun(W:World)=>W.cell? ⟨w.heap.size,9,none⟩=some (.int .u16 D.start)/\W.cell? ⟨w.heap.size,3,none⟩=some (.int .i64 D.room)/\W.cell? ⟨xb,1,none⟩=some (.slice A k c)) (wb.alloc (.cells #[.pointer (some ⟨wr.heap.size,0,none⟩),.pointer (some ⟨wa.heap.size,0,none⟩)] 148))) (⟨k01 Lc.1 HSb.1.1,k01 Lc.1 HSb.1.2.1,k01 Lc.1 HSb.1.2.2⟩);refine hK.out _ _ (fun _=>HSc.1) ?_;clear hK K
     try refine Sm ?_
     refine WpL.one (i:=16) zz2 rfl (fun K hK=>?_);refine k0w rfl _ _ 139 148 (.agg #[.pointer none,.pointer none]) 2 16 rfl Tryz.underlying139 kcc rfl zz7 zz7 (.slice A k c) k _ [.pointer (some ⟨wr.heap.size,0,none⟩),.pointer (some ⟨wa.heap.size,0,none⟩)] gl ((Q.1.row.below La.1).below Lb.1) rfl rfl rfl rfl zz59 zz1 ?_;intro vd wd gd Rd Od Gd;obtain⟨Ad,cd,rfl,_⟩:=Rd.size;have Kd:=Ac (_/\_/\_) (⟨Rd,Od,Gd⟩);have hgx:∀b,gl=some b->b≠w.heap.size/\b≠xb:=fun b e=>by have:=(Q.1.gl b e).1;omega
     have HSd:=Ac ((fun(W:World)=>W.cell? ⟨w.heap.size,9,none⟩=some (.int .u16 D.start)/\W.cell? ⟨w.heap.size,3,none⟩=some (.int .i64 D.room)/\W.cell? ⟨xb,1,none⟩=some (.slice A k c)) wd) (⟨Od.cell HSb.1.1 (fun h=>(hgx _ h).1 rfl),Od.cell HSb.1.2.1 (fun h=>(hgx _ h).1 rfl),Od.cell HSb.1.2.2 (fun h=>(hgx _ h).2 rfl)⟩);have Xd:=(Od.keep xb (by have:=La.1.size;have:=Lb.1.size;omega) (fun h=>(hgx _ h).2 rfl)).trans ((Lb.1.block _ (by have:=La.1.size;omega)).trans ((La.1.block _ (k03 Q.1.xbox)).trans Q.1.xbox));have cdd:=HSd.1.2.2;have fdd:=k02 Xd 1;have XXd:=Ab Xd;clear Rd Od Gd Xd;refine hK.out _ _ (fun _=>HSd.1) ?_;clear hK K
     try refine Sm ?_
     refine WpL.T 17 [] HSd.1 ?_;refine WpL.one (i:=18) zz2 rfl (fun K hK=>?_);go_simp;refine hK.out _ _ (fun h=>absurd rfl h) ?_;clear hK K
     try refine Sm ?_
     refine WpL.done zz2 ?_ _;go_wp2;obtain⟨oc3,hl3⟩:=Q.1.next hs11 La.1 Za.1 hsa.1 Lb.1 Zb.1 hsb.1 Kd.1.1 Kd.1.2.1 Kd.1.2.2;refine⟨⟨k+1,oc3,_,_,Ad,cd,gd,zz1,rfl,⟨hl3⟩⟩,?_⟩;exact zz19
    ·have e4:¬(k:Int)<(D.lanes:Int):=by omega
     obtain rfl:k=D.lanes:=by omega
     have hgT:=R.1.2.1;have hgl:=k03 R.1.1.node;rw[hgT]at hgl;have Zg0:=R.1.1.node;rw[hgT]at Zg0;have Zg:=(Q.1.only.keep g zz1 zz1).trans ((L11.1.block _ hgl).trans Zg0);clear Zg0;have HS13:=Ac ((fun(W:World)=>W.cell? ⟨g,13,none⟩=some (.slice (some ⟨T.pb,T.po,none⟩) (j+1) T.pc)/\W.cell? ⟨xb,0,none⟩=some (.int .i64 x)/\W.cell? ⟨xb,1,none⟩=some (.slice A D.lanes c)/\W.cell? ⟨xb,2,none⟩=some (.pointer (some ⟨gw2,0,none⟩))) wr) (⟨(k00 Zg 13).trans rfl,(k00 Q.1.xbox 0).trans rfl,(k00 Q.1.xbox 1).trans rfl,(k00 Q.1.xbox 2).trans rfl⟩);have hpl:=R.1.1.ports.lt rfl;have hsW:=Q.1.only.size;have PR:=Ac (Row wr (.slice (some ⟨T.pb,T.po,none⟩) (j+1) T.pc) 141 3 (j+1) (k29 D T v (j+1)) (some T.pb)) ((R.1.1.ports.below L11.1).only Q.1.only (fun b e=>by cases e;omega));have ZG:=Ab Zg;clear bW hgT hgl Zg hpl;go_wp2;refine WpL.region (fun(W:World)=>W.cell? ⟨g,13,none⟩=some (.slice (some ⟨T.pb,T.po,none⟩) (j+1) T.pc)/\W.cell? ⟨xb,0,none⟩=some (.int .i64 x)/\W.cell? ⟨xb,1,none⟩=some (.slice A D.lanes c)/\W.cell? ⟨xb,2,none⟩=some (.pointer (some ⟨gw2,0,none⟩))) 10 zz2 ?_;refine WpL.T 0 [] HS13.1 ?_;refine WpL.T 1 [] HS13.1 ?_;refine WpL.T 2 [] HS13.1 ?_;refine WpL.T 3 [] HS13.1 ?_;refine WpL.T 4 [] HS13.1 ?_;refine WpL.T 5 [] HS13.1 ?_;refine WpL.one (i:=6) zz2 rfl (fun K hK=>?_);go_simp;have Lc:=Ac (Below wr.heap.size wr (wr.alloc (.cells #[.int .i64 x,.slice A D.lanes c,.pointer (some ⟨gw2,0,none⟩)] 141))) ((Below.refl _ wr).alloc (Nat.le_refl _) _);have HSc:=Ac ((fun(W:World)=>W.cell? ⟨g,13,none⟩=some (.slice (some ⟨T.pb,T.po,none⟩) (j+1) T.pc)/\W.cell? ⟨xb,0,none⟩=some (.int .i64 x)/\W.cell? ⟨xb,1,none⟩=some (.slice A D.lanes c)/\W.cell? ⟨xb,2,none⟩=some (.pointer (some ⟨gw2,0,none⟩))) (wr.alloc (.cells #[.int .i64 x,.slice A D.lanes c,.pointer (some ⟨gw2,0,none⟩)] 141))) (by obtain⟨k0,k1,k2,k3⟩:=HS13.1;exact⟨k01 Lc.1 k0,k01 Lc.1 k1,k01 Lc.1 k2,k01 Lc.1 k3⟩);refine hK.out _ _ (fun _=>HSc.1) ?_;clear hK K
     try refine Sm ?_
     refine WpL.one (i:=7) zz2 rfl (fun K hK=>?_);refine k0w rfl _ _ 97 141 (.agg #[.int .i64 0,.slice none 0 0,.pointer none]) 3 40 rfl Tryz.underlying97 k5L rfl zz7 zz7 (.slice (some ⟨T.pb,T.po,none⟩) (j+1) T.pc) (j+1) (k29 D T v (j+1)) [.int .i64 x,.slice A D.lanes c,.pointer (some ⟨gw2,0,none⟩)] (some T.pb) PR.1.drew rfl rfl rfl rfl zz33 zz1 ?_;intro vd wd gd Rd Od' Gd;have Od:Only (fun b=>some T.pb=some b) wr wd:=Only.undrew Od';obtain⟨pb2,po2,pc2,hgd,hvd,hpc2,_,_⟩:=Rd.open zz1;subst hgd;subst hvd;have Kd:=Ac (_/\_/\_) (⟨Rd,Od,Gd⟩);have hpx:T.pb≠xb/\T.pb≠g:=by
      obtain⟨cp,hcp⟩:=PR.1.blk_ty;have:=R.1.1.ports.lt rfl;exact⟨zz1,k0u hcp ZG.1 zz7⟩
     have HSd:=Ac ((fun(W:World)=>W.cell? ⟨g,13,none⟩=some (.slice (some ⟨T.pb,T.po,none⟩) (j+1) T.pc)/\W.cell? ⟨xb,0,none⟩=some (.int .i64 x)/\W.cell? ⟨xb,1,none⟩=some (.slice A D.lanes c)/\W.cell? ⟨xb,2,none⟩=some (.pointer (some ⟨gw2,0,none⟩))) wd) (by obtain⟨k0,k1,k2,k3⟩:=HS13.1;exact⟨Od.cell k0 (fun h=>hpx.2 (Option.some.inj h)),Od.cell k1 (fun h=>hpx.1 (Option.some.inj h)),Od.cell k2 (fun h=>hpx.1 (Option.some.inj h)),Od.cell k3 (fun h=>hpx.1 (Option.some.inj h))⟩);have Zd:=(Od.keep g (k03 ZG.1) (fun h=>hpx.2 (Option.some.inj h))).trans ZG.1;have cd13:=HSd.1.1;have fd13:=k02 Zd 13;have HPX:=Ab hpx;clear Rd Od Od' Gd Zd hpx;refine hK.out _ _ (fun _=>HSd.1) ?_;clear hK K
     try refine Sm ?_
     refine WpL.T 8 [9] HSd.1 ?_;refine WpL.T 9 [] HSd.1 ?_;refine WpL.one (i:=10) zz2 rfl (fun K hK=>?_);go_simp;refine hK.out _ _ (fun h=>absurd rfl h) ?_;clear hK K
     try refine Sm ?_
     refine WpL.done zz2 ?_ _;go_wp2;obtain⟨oc5,T5,hM5,hg5,hA5⟩:=Made.next HG.1.1 R.1.1 zz1 (by unfold k0G;simp[HX.1]) N11.1 T11.1 W11.1 hs11 hxw J11.1 Q.1 Kd.1.1 Kd.1.2.1 Kd.1.2.2;rw[R.1.2.1]at hM5;have hbbl:=R.1.2.2.2.2;have hbb1:=(Q.1.only.keep bb zz1 zz1).trans ((L11.1.block _ hbbl).trans R.1.2.2.2.1);obtain⟨cb,hcb⟩:=K9.1.1.blk_ty;rw[hcb]at hbb1;obtain⟨cp,hcp⟩:=PR.1.blk_ty;have hbp:bb≠T.pb:=k0u hbb1 hcp zz7;have hbg:bb≠g:=k0u hbb1 ZG.1 zz7;refine⟨⟨j+1,oc5,T5,zz1,rfl,⟨hM5,hg5.trans R.1.2.1,?_,?_,?_⟩⟩,?_⟩
     ·obtain⟨a1,a2,a3,a4,a5,a6⟩:=hA5
      obtain⟨b1,b2,b3,b4,b5,b6⟩:=R.1.2.2.1;exact⟨a1.trans b1,a2.trans b2,a3.trans b3,a4.trans b4,a5.trans b5,a6.trans b6⟩
     ·rw[hcb]
      exact(Below.heap_setCell _ _ _ _ hbg).trans ((Kd.1.2.1.keep bb (k03 hbb1) (fun e=>hbp (Option.some.inj e).symm)).trans hbb1)
     ·have:=Kd.1.2.1.size;have:=k03 hbb1;simp[World.setCell];omega
     ·show L-ixOf (.int .i64 ((j:Int)+1))<L-ixOf (.int .i64 (j:Int))
      simp only[ixOf];exact zz1
  ·obtain rfl:j=L:=by omega
   have hnp:j+1=np D v:=by unfold np;have:=HL.1;omega
   have RT:=Ab R.1.2.1;have Mf0:=R.1.1;rw[hnp]at Mf0;have Mf:=Ab Mf0;have hn6:np D v<=6:=zz1
   have hn1:1<=np D v:=zz1
   have Zg0:=Mf.1.node;rw[RT.1]at Zg0;have Zg:=Ab Zg0;have bx0:=Mf.1.box;clear Mf0 hnp;have hnpI:(((np D v:Nat):Int))=((np D v:Nat):Int):=rfl;obtain⟨n,hn⟩:∃n,n=np D v:=⟨_,rfl⟩;have z0:=fun i=>k00 Zg0 i
   have b0:=fun i=>k00 bx0 i
   clear Zg0 bx0 R hnpI;rw[<- hn]at z0 hn6 hn1 Zg;have HN:=Ab hn;clear hn
   go_wp2_with(go_at_call 69;refine(ka9 n _ hn1 zz1).mono ?_;rintro e w12 ⟨ga,gb,rfl,hb,hs,hh,hne,hga,hgb,n1,n2⟩;have L12:=Ac (_/\_/\_/\_/\_/\_/\_/\_) (⟨hb,hs,hh,hne,hga,hgb,n1,n2⟩);have Z12:=(hb.block _ (k03 Zg.1)).trans Zg.1;have z12:=fun i=>k00 Z12 i;have f12:=k02 Z12 0;have B12:=Ab ((hb.block _ (k03 Mf.1.box)).trans Mf.1.box);clear hb hs hh hne hga hgb n1 n2 z0 b0)
   clear z12 f12;have ZX:=Ab Z12;have m15:IntKind.i64.wrap ((n:Int)*(D.lanes:Int))=((n*D.lanes:Nat):Int):=by
    have:n*D.lanes<=6*3:=Nat.mul_le_mul hn6 (by have:=HG.1.1.l1;omega);rw[<- Int.natCast_mul];exact IntWalk.i64_in _ zz1
   have m18b:n*D.lanes*D.room<=6*3*8:=Nat.mul_le_mul (Nat.mul_le_mul hn6 (by have:=HG.1.1.l1;omega)) (by have:=HG.1.1.r1;omega);have m18:IntKind.i64.wrap (((n*D.lanes:Nat):Int)*(D.room:Int))=((n*D.lanes*D.room:Nat):Int):=by
    rw[<- Int.natCast_mul];exact IntWalk.i64_in _ zz1
   obtain⟨N,hN⟩:∃N,N=n*D.lanes*D.room:=⟨_,rfl⟩;have e18:=Ac ((n:Int)*D.lanes*D.room=(N:Int)) (by rw[hN,Int.natCast_mul,Int.natCast_mul]);have m18c:1<=N:=hN▸Nat.mul_pos (Nat.mul_pos hn1 HG.1.1.l0) HG.1.1.r0;have m18d:N<=200:=by omega
   have EN:=Ab hN;clear hN;have hgb13:w.heap.size≠g:=by have:=Mf.1.gn;have:=RT.1;omega
   have HS16:=Ac ((fun(W:World)=>W.cell? ⟨g,13,none⟩=some (.slice (some ⟨T.pb,T.po,none⟩) n T.pc)/\W.cell? ⟨w.heap.size,2,none⟩=some (.int .i64 D.lanes)/\W.cell? ⟨w.heap.size,3,none⟩=some (.int .i64 D.room)) (w12.setCell ⟨g,0,none⟩ (.pointer (some ⟨wr.heap.size+2,0,none⟩)))) (⟨(k00 (k05 Z12 0 _) 13).trans rfl,(k00 ((Below.heap_setCell _ _ _ _ hgb13).trans B12.1) 2).trans rfl,(k00 ((Below.heap_setCell _ _ _ _ hgb13).trans B12.1) 3).trans rfl⟩);have Z13:=Ab (k05 Z12 0 (.pointer (some ⟨wr.heap.size+2,0,none⟩)));clear Z12;obtain⟨w13,hw13⟩:∃w13,w13=w12.setCell ⟨g,0,none⟩ (.pointer (some ⟨wr.heap.size+2,0,none⟩)):=⟨_,rfl⟩;have HW13:=Ab hw13;rw[<- hw13]at HS16 Z13;rw[<- hw13];clear hw13;refine WpL.region (fun(W:World)=>W.cell? ⟨g,13,none⟩=some (.slice (some ⟨T.pb,T.po,none⟩) n T.pc)/\W.cell? ⟨w.heap.size,2,none⟩=some (.int .i64 D.lanes)/\W.cell? ⟨w.heap.size,3,none⟩=some (.int .i64 D.room)) 22 zz2 ?_;refine WpL.T 0 [] HS16.1 ?_;refine WpL.T 1 [] HS16.1 ?_;refine WpL.T 2 [] HS16.1 ?_;refine WpL.T 3 [] HS16.1 ?_;refine WpL.T 4 [] HS16.1 ?_;refine WpL.T 5 [] HS16.1 ?_;refine WpL.T 6 [] HS16.1 ?_;refine WpL.T 7 [] HS16.1 ?_;refine WpL.T 8 [] HS16.1 ?_;refine WpL.T 9 [] HS16.1 ?_;refine WpL.T 10 [] HS16.1 ?_;refine WpL.T 11 [] HS16.1 ?_;refine WpL.T 12 [] HS16.1 ?_;refine WpL.T 13 [] HS16.1 ?_;refine WpL.T 14 [] HS16.1 ?_;refine WpL.take (i:=15) (v:=?vq5_15) (rfl) zz2 zz2 zz2 [] zz2 zz2 (fun _ _ _ h=>h) ?yq5_15 (HS16.1) ?rq5_15
   case yq5_15=>refine Or.inl ⟨?_,?_⟩;rfl;intro w hSw;go_simp;try rfl
   refine Sm ?_;refine WpL.T 16 [] HS16.1 ?_;refine WpL.T 17 [] HS16.1 ?_;refine WpL.take (i:=18) (v:=?vq5_18) (rfl) zz2 zz2 zz2 [] zz2 zz2 (fun _ _ _ h=>h) ?yq5_18 (HS16.1) ?rq5_18
   case yq5_18=>refine Or.inl ⟨?_,?_⟩;rfl;intro w hSw;go_simp;try rfl
   refine Sm ?_;refine WpL.one (i:=19) zz2 rfl (fun K hK=>?_);go_simp;rw[e18.1,IntWalk.i64_in (N:Int) zz1];refine(ka5 n D.lanes N _ m18c m18d hn1 zz1 HG.1.1.l0 HG.1.1.l1).mono ?_;rintro e w14 ⟨rfl,hb,hs,h1,h2,h3,h4⟩;have hsd:∀W:World,W.drew.heap.size=W.heap.size:=fun _=>rfl
   rw[hsd]at hs h1 h2 h3 h4;clear hsd;have L14:=Ac (Below w13.heap.size w13 w14/\w14.heap.size=w13.heap.size+4/\_/\_/\_/\_) (⟨undrew hb,hs,h1,h2,h3,h4⟩);have HS14:=Ac ((fun(W:World)=>W.cell? ⟨g,13,none⟩=some (.slice (some ⟨T.pb,T.po,none⟩) n T.pc)/\W.cell? ⟨w.heap.size,2,none⟩=some (.int .i64 D.lanes)/\W.cell? ⟨w.heap.size,3,none⟩=some (.int .i64 D.room)) w14) (⟨k01 L14.1.1 HS16.1.1,k01 L14.1.1 HS16.1.2.1,k01 L14.1.1 HS16.1.2.2⟩);have Z14:=(L14.1.1.block _ (k03 Z13.1)).trans Z13.1;have c14:=k00 Z14 15;have f14:=k02 Z14 15;have ZZ14:=Ab Z14;clear hb hs h1 h2 h3 h4 Z14;simp only[];refine hK.out _ _ (fun _=>HS14.1) ?_;clear hK K
   try refine Sm ?_
   refine WpL.T 20 [21] HS14.1 ?_;refine WpL.T 21 [] HS14.1 ?_;refine WpL.one (i:=22) zz2 rfl (fun K hK=>?_);go_simp;refine hK.out _ _ (fun h=>absurd rfl h) ?_;clear hK K
   try refine Sm ?_
   refine WpL.done zz2 ?_ _;go_wp2;go_ret;have hn:=HN.1;subst hn;have hN:=EN.1;subst hN;have hw13:=HW13.1;have hl:=L14.1;have hR:=RT.1;rw[hw13]at hl;subst hR;have hs13:(w12.setCell ⟨T.g,0,none⟩ (.pointer (some ⟨wr.heap.size+2,0,none⟩))).heap.size=w12.heap.size:=by simp
   rw[hs13]at hl;obtain⟨T',o',k1,k2,k3⟩:=Made.done HG.1.1 hv P1.1 Mf.1 L12.1.1 L12.1.2.1 L12.1.2.2.1 L12.1.2.2.2.1 L12.1.2.2.2.2.1 L12.1.2.2.2.2.2.1 L12.1.2.2.2.2.2.2.1 L12.1.2.2.2.2.2.2.2 (by rw[hs13];exact hl.1) hl.2.1 hl.2.2.1 hl.2.2.2.1 hl.2.2.2.2.1 hl.2.2.2.2.2 m18c m18d;rw[hw13,hs13];exact⟨T',by rw[k3];rfl,o',k1,k2⟩
end
end Go.Proofs.YtdopmlopafgonaaGreatDoor.Own
