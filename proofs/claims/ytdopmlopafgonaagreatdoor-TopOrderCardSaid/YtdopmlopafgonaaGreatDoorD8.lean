/- TopOrder: of each flow what came is some of what was injected, in its order (a part of the walks and of the plain laws). -/
import Derived.Test.YtdopmlopafgonaaGreatDoorD0
import Derived.Test.YtdopmlopafgonaaGreatDoorD7
import Derived.Deep.RegionLaw
import Derived.OpenShut
import Derived.WalkLawsBesides
import Derived.WalkMore
set_option linter.unusedVariables false
set_option linter.unusedSimpArgs false
set_option maxHeartbeats 4000000
set_option maxRecDepth 100000
namespace Go.Proofs.YtdopmlopafgonaaGreatDoor.Own
open Go.RowKit Go.Proofs.YtdopmlopafgonaaGreatDoorW.PrintWords Go.Proofs.YtdopmlopafgonaaGreatDoorW.PrintLast Go.Proofs.YtdopmlopafgonaaGreatDoorW.PrintMore
theorem lo8{a:Int}(h:(Lit.int .u8 a).wf=true):0<=a/\a<=255:=by
 simp[Lit.wf,IntKind.min,IntKind.max,IntKind.bits,IntKind.signed]at h;exact zz1
structure Only(P:Nat->Prop)(w w':World):Prop where
 os:w'.os=w.os
 tape:w'.tape=w.tape
 output:w'.output=w.output
 size:w.heap.size<=w'.heap.size
 keep:∀b,b<w.heap.size->¬P b->w'.heap[b]? = w.heap[b]?
section
variable{P Q:Nat->Prop}{w W W':World}
theorem Only.refl(P:Nat->Prop)(w:World):Only P w w:=⟨rfl,rfl,rfl,Nat.le_refl _,fun _ _ _=>rfl⟩
theorem Only.then(h:Only P w W)(k:Only Q W W')(hq:∀b,b<w.heap.size->Q b->P b):Only P w W':=
 ⟨k.os.trans h.os,k.tape.trans h.tape,k.output.trans h.output,Nat.le_trans h.size k.size,fun b hb hp=>(k.keep b (Nat.lt_of_lt_of_le hb h.size) (fun hc=>hp (hq b hb hc))).trans (h.keep b hb hp)⟩
theorem Only.trans(h:Only P w W)(k:Only P W W'):Only P w W':=h.then k (fun _ _ x=>x)
theorem Only.mono(h:Only Q w W)(hq:∀b,b<w.heap.size->Q b->P b):Only P w W:=(Only.refl P w).then h hq
theorem Only.below(h:Only P w W)(k:Below W.heap.size W W'):Only P w W':=
 h.then (Q:=fun _=>False) ⟨k.os,k.tape,k.output,k.size,fun b hb _=>k.block b hb⟩ (fun _ _ x=>x.elim)
theorem Only.of_below(k:Below w.heap.size w W):Only P w W:=(Only.refl P w).below k
theorem Only.drew(h:Only P w W):Only P w W.drew:=⟨h.os,h.tape,h.output,h.size,h.keep⟩
theorem Only.alloc(h:Only P w W)(o:Obj):Only P w (W.alloc o):=h.below ((Below.refl _ W).alloc (Nat.le_refl _) o)
theorem Only.set(h:Only P w W){p:Addr}(hp:p.block<w.heap.size->P p.block)(v:Value):Only P w (W.setCell p v):=
 h.then (Q:=fun b=>b=p.block) ⟨rfl,rfl,rfl,zz108,fun b _ hb=>Below.heap_setCell _ _ _ _ hb⟩ (fun b hb e=>e▸hp (e▸hb))
theorem Only.grown(h:Only P w W){row:Option Nat}(hg:W.grownBy W' row)(hr:∀r,row=some r->r<w.heap.size->P r):Only P w W':=
 h.then (Q:=fun b=>some b=row) ⟨hg.os,hg.tape,hg.output,hg.size,fun b hb hne=>hg.block b hb hne⟩ (fun b hb e=>hr b e.symm hb)
theorem Only.blk(h:Only P w W){g:Nat}{o:Obj}(hb:w.heap[g]? = some o)(hp:¬P g):W.heap[g]? = some o:=(h.keep g (k03 hb) hp).trans hb
theorem Only.same(h:Only P w W){g:Nat}(hg:g<w.heap.size)(hp:¬P g):W.heap[g]? = w.heap[g]?:=h.keep g hg hp
theorem Only.cell(h:Only P w W){p:Addr}{v:Value}(hc:w.cell? p=some v)(hp:¬P p.block):W.cell? p=some v:=by
 have hb:p.block<w.heap.size:=World.block_lt_of_cell? w _ hc;rw[World.cell?_of_block (w:=w) (h.keep _ hb hp)];exact hc
theorem Only.toBelow(h:Only P w W)(hp:∀b,b<w.heap.size->¬P b):Below w.heap.size w W:=⟨h.os,h.tape,h.output,h.size,fun b hb=>h.keep b hb (hp b hb)⟩
end
theorem undrewN{w W:World}{k:Nat}(h:Below (w.drewN k).heap.size (w.drewN k) W):Below w.heap.size w W:=⟨h.os,h.tape,h.output,h.size,h.block⟩
theorem undrew{w W:World}(h:Below w.drew.heap.size w.drew W):Below w.heap.size w W:=⟨h.os,h.tape,h.output,h.size,h.block⟩
theorem Only.undrewN{P:Nat->Prop}{w W:World}{k:Nat}(h:Only P (w.drewN k) W):Only P w W:=⟨h.os,h.tape,h.output,h.size,h.keep⟩
theorem Only.undrew{P:Nat->Prop}{w W:World}(h:Only P w.drew W):Only P w W:=⟨h.os,h.tape,h.output,h.size,h.keep⟩
theorem Only.drewN{P:Nat->Prop}{w W:World}(h:Only P w W)(k:Nat):Only P w (W.drewN k):=⟨h.os,h.tape,h.output,h.size,h.keep⟩
inductive Col where
 |junk
 |fix
 |fab
 |node (v:Nat)
 |arb (v:Nat)
 |host (v:Nat)
 |rings (v:Nat)
 |pool (v:Nat)
 |snd (v i k:Nat)
 |rcv (v i k:Nat)
 |whl (v i:Nat)
 |lnk (h:Nat)
def Fresh(o:Nat->Col)(w:World):Prop:=∀b,w.heap.size<=b->o b=.junk
structure Tr(S:Col->Prop)(o:Nat->Col)(w:World)(o':Nat->Col)(w':World):Prop where
 only:Only (fun b=>S (o b)) w w'
 own:∀b,b<w.heap.size->o' b=o b
 fresh:Fresh o' w'
section
variable{S S':Col->Prop}{o o1 o2:Nat->Col}{w w1 w2:World}
theorem Tr.refl(h:Fresh o w):Tr S o w o w:=⟨Only.refl _ _,fun _ _=>rfl,h⟩
theorem Tr.then(h:Tr S o w o1 w1)(k:Tr S' o1 w1 o2 w2)(hs:∀c,S' c->S c):Tr S o w o2 w2:=
 ⟨h.only.then k.only (fun b hb hc=>hs _ (by have:=h.own b hb;rwa [<- this])),fun b hb=>(k.own b (Nat.lt_of_lt_of_le hb h.only.size)).trans (h.own b hb),k.fresh⟩
theorem Tr.trans(h:Tr S o w o1 w1)(k:Tr S o1 w1 o2 w2):Tr S o w o2 w2:=h.then k (fun _ x=>x)
theorem Tr.mono(h:Tr S' o w o1 w1)(hs:∀c,S' c->S c):Tr S o w o1 w1:=⟨h.only.mono (fun b _ hc=>hs _ hc),h.own,h.fresh⟩
theorem Tr.blk(h:Tr S o w o1 w1){g:Nat}{x:Obj}(hb:w.heap[g]? = some x)(hs:¬S (o g)):w1.heap[g]? = some x:=h.only.blk hb hs
theorem Tr.below(hf:Fresh o w)(h:Below w.heap.size w w1):Tr S o w o w1:=
 ⟨Only.of_below h,fun _ _=>rfl,fun b hb=>hf b (Nat.le_trans h.size hb)⟩
end
def paint(o:Nat->Col)(n m:Nat)(c:Col):Nat->Col:=fun b=>if b<n then o b else if b<m then c else .junk
theorem k0v(o:Nat->Col){n m b:Nat}(c:Col)(h:b<n):paint o n m c b=o b:=by simp[paint,h]
theorem k0C(o:Nat->Col){n m b:Nat}(c:Col)(h:n<=b)(h':b<m):paint o n m c b=c:=by simp[paint,Nat.not_lt.2 h,h']
theorem k7W(o:Nat->Col){n m b:Nat}(c:Col)(h:(b<n/\o b=c)\/n<=b)(h':b<m):paint o n m c b=c:=by
 rcases h with⟨h,e⟩|h
 ·rw[k0v _ _ h,e]
 ·exact k0C _ _ h h'
theorem Tr.paint{S:Col->Prop}{o:Nat->Col}{w w1:World}(c:Col)(h:Only (fun b=>S (o b)) w w1):Tr S o w (paint o w.heap.size w1.heap.size c) w1:=
 ⟨h,fun b hb=>k0v _ _ hb,fun b hb=>by have:=h.size;simp[Own.paint,Nat.not_lt.2 (Nat.le_trans this hb),Nat.not_lt.2 hb]⟩
def Row(w:World)(v:Value)(T sz n:Nat)(cs:List Value)(g:Option Nat):Prop:=
 cs.length=n*sz/\((v=.slice none 0 0/\n=0/\g=none) \/
  ∃b off cap cur,g=some b/\v=.slice (some ⟨b,off,none⟩) n cap/\w.heap[b]? = some (.cells cur T (0,0))/\n<=cap/\off+cap*sz<=cur.size/\∀j,j<cs.length->cur[off+j]? = cs[j]?)
section
variable{w W:World}{v:Value}{T sz n:Nat}{cs:List Value}{g:Option Nat}
theorem Row.nil(w:World)(T sz:Nat):Row w (.slice none 0 0) T sz 0 [] none:=⟨zz6,.inl ⟨rfl,rfl,rfl⟩⟩
theorem Row.of_blk(h:Row w v T sz n cs g)(hb:∀b,g=some b->W.heap[b]? = w.heap[b]?):Row W v T sz n cs g:=by
 obtain⟨hl,hv⟩:=h;refine⟨hl,hv.imp id ?_⟩;rintro⟨b,off,cap,cur,hg,hv,hh,r⟩;exact⟨b,off,cap,cur,hg,hv,(hb b hg).trans hh,r⟩
theorem Row.lt(h:Row w v T sz n cs g){b:Nat}(hg:g=some b):b<w.heap.size:=by
 obtain⟨_,⟨_,_,h⟩|⟨b',_,_,_,h,_,hh,_⟩⟩:=h
 ·rw[h]at hg;cases hg
 ·rw[h]at hg;cases hg;exact k03 hh
theorem Row.only{P:Nat->Prop}(h:Row w v T sz n cs g)(k:Only P w W)(hp:∀b,g=some b->¬P b):Row W v T sz n cs g:=
 h.of_blk fun b hb=>k.same (h.lt hb) (hp b hb)
theorem Row.below(h:Row w v T sz n cs g)(k:Below w.heap.size w W):Row W v T sz n cs g:=h.of_blk fun b hb=>k.block b (h.lt hb)
theorem Row.drew(h:Row w v T sz n cs g):Row w.drew v T sz n cs g:=h.of_blk fun _ _=>rfl
theorem Row.drewN(h:Row w v T sz n cs g)(k:Nat):Row (w.drewN k) v T sz n cs g:=h.of_blk fun _ _=>rfl
theorem Row.alloc(h:Row w v T sz n cs g)(o:Obj):Row (w.alloc o) v T sz n cs g:=h.below ((Below.refl _ w).alloc (Nat.le_refl _) o)
theorem Row.size(h:Row w v T sz n cs g):∃A cap,v=.slice A n cap/\n<=cap:=by
 obtain⟨_,⟨rfl,rfl,_⟩|⟨b,off,cap,_,_,rfl,_,h,_⟩⟩:=h
 ·exact⟨_,_,rfl,Nat.le_refl _⟩
 ·exact⟨_,_,rfl,h⟩
theorem Row.open(h:Row w v T sz n cs g)(hn:0<n):∃b off cap,g=some b/\v=.slice (some ⟨b,off,none⟩) n cap/\n<=cap/\(∀k,w.frozen? ⟨b,k,none⟩=false)/\∀k,k<cs.length->w.cell? ⟨b,off+k,none⟩=cs[k]?:=by
 obtain⟨hl,⟨_,h0,_⟩|⟨b,off,cap,cur,rfl,rfl,hh,hc,hs,hr⟩⟩:=h
 ·exact zz1
 ·exact⟨b,off,cap,rfl,rfl,hc,fun k=>k02 hh k,fun k hk=>(k00 hh _).trans (hr k hk)⟩
theorem Row.of_owns{base:Nat}(h:w.ownsRow base T sz v n cs):Row w v T sz n cs v.ownBlock:=by
 obtain⟨hl,⟨rfl,h0⟩|⟨b,cap,cur,rfl,hb,hh,hc,hm,hs,ht⟩⟩:=h
 ·exact⟨hl,.inl ⟨rfl,h0,rfl⟩⟩
 ·refine⟨hl,.inr ⟨b,0,cap,cur,rfl,rfl,hh,hc,zz1,fun j hj=>?_⟩⟩
  rw[Nat.zero_add,<- ht,List.getElem?_take_of_lt zz1,Array.getElem?_toList]
theorem Row.ne(h:Row w v T sz n cs g){b:Nat}{x:Array Value}{T':TypeId}{fr:Nat×Nat}(hb:w.heap[b]? = some (.cells x T' fr))(hT:T≠T'):g≠some b:=by
 intro e;obtain⟨_,⟨_,_,h⟩|⟨b',_,_,cur,h,_,hh,_⟩⟩:=h
 ·rw[h]at e;cases e
 ·rw[h]at e;cases e
  rw[hb]at hh;injection hh with hh
  injection hh with _ ht
  exact hT ht.symm
theorem Row.set{b off cap:Nat}(h:Row w (.slice (some ⟨b,off,none⟩) n cap) T sz n cs g)(k:Nat)(hk:k<cs.length)(u:Value):Row (w.setCell ⟨b,off+k,none⟩ u) (.slice (some ⟨b,off,none⟩) n cap) T sz n (cs.set k u) g:=by
 obtain⟨hl,⟨hv,_⟩|⟨b',off',cap',cur,rfl,hv,hh,hc,hs,hr⟩⟩:=h
 ·simp at hv
 ·simp only[Value.slice.injEq,Option.some.injEq,Addr.mk.injEq,true_and,and_true]at hv
  obtain⟨⟨rfl,rfl⟩,rfl⟩:=hv;refine⟨by rw[List.length_set];exact hl,.inr ⟨b,off,cap,cur.setIfInBounds (off+k) u,rfl,rfl,k05 hh _ _,hc,by simpa using hs,fun j hj=>?_⟩⟩;rw[List.length_set]at hj;have:=hr j hj;rw[Array.getElem?_setIfInBounds,List.getElem?_set];have hcl:n*sz<=cap*sz:=Nat.mul_le_mul_right _ hc;by_cases e:k=j
  ·subst e
   rw[if_pos rfl,if_pos rfl,if_pos zz1,if_pos hk]
  ·rw[if_neg zz1,if_neg e]
   exact this
theorem Row.tail{b off cap:Nat}(h:Row w (.slice (some ⟨b,off,none⟩) (n+1) cap) T sz (n+1) cs g):Row w (.slice (some ⟨b,if cap=1 then off else off+sz,none⟩) n (cap-1)) T sz n (cs.drop sz) g:=by
 obtain⟨hl,⟨hv,_⟩|⟨b',off',cap',cur,rfl,hv,hh,hc,hs,hr⟩⟩:=h
 ·simp at hv
 ·simp only[Value.slice.injEq,Option.some.injEq,Addr.mk.injEq,true_and,and_true]at hv
  obtain⟨⟨rfl,rfl⟩,rfl⟩:=hv;have hcs:cap*sz=(cap-1)*sz+sz:=by rw[<- Nat.succ_mul];congr 1;omega
  rw[Nat.succ_mul]at hl;refine⟨by rw[List.length_drop];omega,.inr ⟨b,_,cap-1,cur,rfl,rfl,hh,zz1,?_,fun j hj=>?_⟩⟩
  ·by_cases e:cap=1
   ·rw[if_pos e];subst e;simp at hcs ⊢;omega
   ·rw[if_neg e];omega
  ·rw[List.length_drop]at hj
   by_cases e:cap=1
   ·have:n=0:=by omega
    subst this;simp at hl;exact zz1
   ·rw[if_neg e,List.getElem?_drop,Nat.add_assoc]
    exact hr _ zz1
end
theorem k1L{P:Program}{w:World}(t ty T:TypeId)(z:Value)(sz bytes:Nat)
 (ht:P.underlying t=some (.slice T)) (hinfo:(P.info? T).map (fun i=>(i.zero,i.size,i.bytes))=some (some z,sz,bytes)) (hz:z.cells.size=sz) (hs0:0<sz) (hb0:0<bytes)
 (v:Value) (n m c:Nat) (cs ys:List Value) (g:Option Nat) (R:Row w v T sz n cs g) (ad:Addr) (hys:ys.length=m*sz) (hm0:0<m) (hnews:∀j u,ys[j]? = some u->w.cell? (ad.add j)=some u) (h1:∀u∈ys,u.oneCell'=true)
 (hl:(n+m)*bytes<=140737488355328) :
 ∃v1 w1 g1,(Builtin.append_ #[t,t] ty #[v,.slice (some ad) m c]).run P w=.ok v1 w1/\Row w1 v1 T sz (n+m) (cs++ys) g1/\Only (fun b=>g=some b) w w1/\(g1=g\/∃b,g1=some b/\w.heap.size<=b):=by
 obtain⟨i0,hi,hzz⟩:=Option.map_eq_some_iff.1 hinfo;simp only[Prod.mk.injEq]at hzz;obtain⟨hz0,hz1,hz2⟩:=hzz;have hlen:n+m<=140737488355328:=Nat.le_trans (Nat.le_mul_of_pos_right _ hb0) hl;have hm:n+m<=maxLen:=by simp only[maxLen];omega
 have key:∀v1 w1,w1.ownsRow w.heap.size T sz v1 (n+m) (cs++ys)->w.grownBy w1 none->Row w1 v1 T sz (n+m) (cs++ys) v1.ownBlock/\Only (fun b=>g=some b) w w1/\(v1.ownBlock=g\/∃b,v1.ownBlock=some b/\w.heap.size<=b):=by
  intro v1 w1 ho1 hg1;refine⟨Row.of_owns ho1,(Only.refl _ w).grown hg1 (fun r e=>by cases e),?_⟩;obtain⟨_,⟨_,h0⟩|⟨b,cap,cur,rfl,hb,_⟩⟩:=ho1
  ·exact zz1
  ·exact .inr ⟨b,rfl,hb⟩
 obtain⟨hcl,⟨rfl,rfl,rfl⟩|⟨b,off,cap,cur,rfl,rfl,hh,hc,hsz,hr⟩⟩:=R
 ·obtain rfl:cs=[]:=List.eq_nil_of_length_eq_zero (by simpa using hcl)
  obtain⟨v1,w1,hrun,r1,r2,_⟩:=run_append_own (P:=P) w w.heap.size t ty T i0 z sz bytes ht hi hz0 hz1 hz2 hz hs0 (.slice none 0 0) 0 [] (World.ownsRow_nil w _ T sz) ad m c ys hys hnews h1 hm hl (Nat.le_refl _);obtain⟨k1,k2,k3⟩:=key v1 w1 r1 r2;exact⟨v1,w1,_,hrun,k1,k2,k3⟩
 ·have hcap:n*sz<=cap*sz:=Nat.mul_le_mul_right _ hc
  by_cases hroom:n+m<=cap
  ·have hroom':(n+m)*sz<=cap*sz:=Nat.mul_le_mul_right _ hroom
   rw[Nat.add_mul]at hroom';subst hz1;have hrun:=run_append_room_cells (P:=P) w t ty T i0 ht hi b off n cap ad m c ys hys hnews h1 hroom
    (fun j hj=>by rw[k00 hh,Array.getElem?_eq_getElem zz1];rfl) (fun j hj=>k02 hh _)
   obtain⟨cur',h3,h4,h5⟩:=k2c ys (off+n*i0.size) w cur hh zz1;obtain⟨s1,s2,s3,s4⟩:=k22 b ys (off+n*i0.size) w;refine⟨_,_,some b,hrun,⟨by rw[List.length_append,hys,hcl,Nat.add_mul],.inr ⟨b,off,cap,cur',rfl,rfl,h3,hroom,zz1,fun j hj=>?_⟩⟩,?_,.inl rfl⟩
   ·rw[List.length_append,hcl]at hj
    have hcur:cur.toList.length=cur.size:=Array.length_toList;rw[<- Array.getElem?_toList,h5];by_cases hjn:j<n*i0.size
    ·rw[List.append_assoc,List.getElem?_append_left zz51,List.getElem?_take_of_lt zz1,List.getElem?_append_left zz1,Array.getElem?_toList]
     exact hr j zz1
    ·rw[List.getElem?_append_left zz93,List.getElem?_append_right zz51,List.getElem?_append_right zz1,hcl,List.length_take]
     congr 1;exact zz1
   ·exact⟨s1,s2,s3,by rw[s4];exact Nat.le_refl _,fun k _ hk=>k2e ys _ k (fun e=>hk (by rw[e]))⟩
  ·obtain⟨v1,w1,hrun,r1,r2⟩:=run_append_arg_grows (P:=P) w t ty T i0 z sz bytes ht hi hz0 hz1 hz2 hz hs0 ⟨b,off,none⟩ n cap cs hcl (fun j u hj=>by
    rw[Addr.add_lit,k00 hh,hr j (List.getElem?_eq_some_iff.1 hj).1];exact hj) ad m c ys hys hnews zz1 hm hl
   obtain⟨k1,k2,k3⟩:=key v1 w1 r1 r2;exact⟨v1,w1,_,hrun,k1,k2,k3⟩
theorem kbp(w:World)(ys:List Value)(T:TypeId):∀j u,ys[j]? = some u->(w.alloc (.cells ys.toArray T)).cell? ((⟨w.heap.size,0,none⟩:Addr).add j)=some u:=by
 simpa using World.news_of_block (cs:=ys.toArray) (t:=T) (fr:=(0,0)) (heap_alloc_new w (.cells ys.toArray T))
theorem k2J{P:Program}{w:World}(t ty T:TypeId)(z:Value)(sz bytes:Nat)
 (ht:P.underlying t=some (.slice T)) (hinfo:(P.info? T).map (fun i=>(i.zero,i.size,i.bytes))=some (some z,sz,bytes)) (hz:z.cells.size=sz) (hs0:0<sz) (hb0:0<bytes)
 (v:Value) (n:Nat) (cs ys:List Value) (g:Option Nat) (R:Row w v T sz n cs g) (hys:ys.length=sz) (h1:∀u∈ys,u.oneCell'=true) (hl:(n+1)*bytes<=140737488355328) :
 ∃v1 w1 g1,(Builtin.append_ #[t,t] ty #[v,.slice (some ⟨w.heap.size,0,none⟩) 1 1]).run P (w.alloc (.cells ys.toArray T))=.ok v1 w1/\Row w1 v1 T sz (n+1) (cs++ys) g1/\Only (fun b=>g=some b) w w1/\(g1=g\/∃b,g1=some b/\w.heap.size<=b):=by
 obtain⟨v1,w1,g1,hrun,r1,r2,r3⟩:=k1L (P:=P) (w:=w.alloc (.cells ys.toArray T)) t ty T z sz bytes ht hinfo hz hs0 hb0 v n 1 1 cs ys g (R.alloc _) ⟨w.heap.size,0,none⟩ zz1 zz7 (kbp w ys T) h1 hl;refine⟨v1,w1,g1,hrun,r1,((Only.refl _ w).alloc _).trans r2,r3.imp id ?_⟩;rintro⟨b,e,hb⟩;exact⟨b,e,by simp at hb;omega⟩
section
variable{P:Program}{ops:Array Oper}{rest:List Oper}{o:Oper}{a:Act}{Q:Exit->Act->World->Prop}{w:World}{K:Act->World->Prop}
theorem k0z(hgd:o.guard=none)(s x:Operand)(t T:TypeId)(z:Value)(sz bytes:Nat)
 (ho:o.op=.call { callee:=.builtin .append,args:=#[s,x],argTypes:=#[t,t] })
 (ht:P.underlying t=some (.slice T)) (hinfo:(P.info? T).map (fun i=>(i.zero,i.size,i.bytes))=some (some z,sz,bytes)) (hz:z.cells.size=sz) (hs0:0<sz) (hb0:0<bytes)
 (v:Value) (n:Nat) (cs ys:List Value) (g:Option Nat) (R:Row w v T sz n cs g) (hs:a.eval s=v) {kk:Nat} (hx:a.eval x=.slice (some ⟨kk,0,none⟩) 1 1) (hkk:kk=w.heap.size) (hys:ys.length=sz) (h1:∀u∈ys,u.oneCell'=true)
 (hl:(n+1)*bytes<=140737488355328)
 (h:∀v1 w1 g1,Row w1 v1 T sz (n+1) (cs++ys) g1->Only (fun b=>g=some b) w w1->(g1=g\/∃b,g1=some b/\w.heap.size<=b)->wpList P ops Q rest (a.put o.dst v1) w1) :
 wpList P ops Q (o :: rest) a (w.alloc (.cells ys.toArray T)):=by
 subst hkk;refine wpList_plain hgd fun K' hK'=>?_
 obtain⟨v1,w1,g1,hrun,r1,r2,r3⟩:=k2J (P:=P) t o.type T z sz bytes ht hinfo hz hs0 hb0 v n cs ys g R hys h1 hl;exact zz76
theorem k0w(hw:Region.wanted o (yielded ops a.tmps)=true)(s x:Operand)(t T:TypeId)(z:Value)(sz bytes:Nat)
 (ho:o.op=.call { callee:=.builtin .append,args:=#[s,x],argTypes:=#[t,t] })
 (ht:P.underlying t=some (.slice T)) (hinfo:(P.info? T).map (fun i=>(i.zero,i.size,i.bytes))=some (some z,sz,bytes)) (hz:z.cells.size=sz) (hs0:0<sz) (hb0:0<bytes)
 (v:Value) (n:Nat) (cs ys:List Value) (g:Option Nat) (R:Row w v T sz n cs g) (hs:a.eval s=v) {kk:Nat} (hx:a.eval x=.slice (some ⟨kk,0,none⟩) 1 1) (hkk:kk=w.heap.size) (hys:ys.length=sz) (h1:∀u∈ys,u.oneCell'=true)
 (hl:(n+1)*bytes<=140737488355328)
 (h:∀v1 w1 g1,Row w1 v1 T sz (n+1) (cs++ys) g1->Only (fun b=>g=some b) w w1->(g1=g\/∃b,g1=some b/\w.heap.size<=b)->K (a.put o.dst v1) w1) :
 if Region.wanted o (yielded ops a.tmps)=true then Oper.wp P o a (w.alloc (.cells ys.toArray T)) K Q else K (a.put o.dst undef) (w.alloc (.cells ys.toArray T)):=by
 subst hkk;rw[if_pos hw];obtain⟨v1,w1,g1,hrun,r1,r2,r3⟩:=k2J (P:=P) t o.type T z sz bytes ht hinfo hz hs0 hb0 v n cs ys g R hys h1 hl;exact zz49
theorem k4j(hw:Region.wanted o (yielded ops a.tmps)=true)(s x:Operand)(t T:TypeId)(z:Value)(sz bytes:Nat)
 (ho:o.op=.call { callee:=.builtin .append,args:=#[s,x],argTypes:=#[t,t] })
 (ht:P.underlying t=some (.slice T)) (hinfo:(P.info? T).map (fun i=>(i.zero,i.size,i.bytes))=some (some z,sz,bytes)) (hz:z.cells.size=sz) (hs0:0<sz) (hb0:0<bytes)
 (v:Value) (n m c:Nat) (cs ys:List Value) (g:Option Nat) (ad:Addr) (R:Row w v T sz n cs g) (hs:a.eval s=v) (hx:a.eval x=.slice (some ad) m c) (hys:ys.length=m*sz) (hm:0<m) (hnews:∀j u,ys[j]? = some u->w.cell? (ad.add j)=some u) (h1:∀u∈ys,u.oneCell'=true)
 (hl:(n+m)*bytes<=140737488355328)
 (h:∀v1 w1 g1,Row w1 v1 T sz (n+m) (cs++ys) g1->Only (fun b=>g=some b) w w1->(g1=g\/∃b,g1=some b/\w.heap.size<=b)->K (a.put o.dst v1) w1) :
 if Region.wanted o (yielded ops a.tmps)=true then Oper.wp P o a w K Q else K (a.put o.dst undef) w:=by
 rw[if_pos hw];obtain⟨v1,w1,g1,hrun,r1,r2,r3⟩:=k1L (P:=P) t o.type T z sz bytes ht hinfo hz hs0 hb0 v n m c cs ys g R ad hys hm hnews h1 hl;exact zz49
end
end Go.Proofs.YtdopmlopafgonaaGreatDoor.Own
