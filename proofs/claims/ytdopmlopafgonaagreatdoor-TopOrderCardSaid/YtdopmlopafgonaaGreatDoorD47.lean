/- TopOrder: of each flow what came is some of what was injected, in its order (a part of the walks and of the plain laws). -/
import Derived.Test.YtdopmlopafgonaaGreatDoorD0
import Derived.Test.YtdopmlopafgonaaGreatDoorD46
set_option linter.unusedVariables false
set_option linter.unusedSimpArgs false
set_option maxHeartbeats 4000000
set_option maxRecDepth 100000
namespace Go.Proofs.YtdopmlopafgonaaGreatDoor.Own
section
variable{D:PlanD}{P:Nat->Nat->List Nat}
def sndN(D:PlanD)(st:FSt)(a:Nat×Nat)(k:Nat):Int×Int:=(st.node a.1).snd (k08 D a.1 a.2) k
def rcvA(D:PlanD)(st:FSt)(a:Nat×Nat)(k:Nat):Int×Int:=(st.node a.2).rcv (k08 D a.2 a.1) k
structure One(D:PlanD)(l:List Nat)(j:Nat)(Wt:Nat->Nat->List Pk)(Qu:Nat->Way->List Pk)(fl:Option (Nat×Nat))(hd:Nat×Nat->Nat->Int)(st:FSt):Prop where
 wt:∀u,u<D.nodes->∀k,k<=3->(st.node u).waits k=Wt u k
 qu:∀u,u<D.nodes->∀a,(st.node u).q a=Qu u a
 num:∀a∈D.hops,∀k,k<D.lanes->(rcvA D st a k).1=(sndN D st a k).1-(if fl=some a/\k=0 then 1 else 0)
 hld:∀a∈D.hops,∀k,k<D.lanes->(rcvA D st a k).2=hd a k
 crd:∀a∈D.hops,∀k,k<D.lanes->(D.start:Int)+D.room<=(sndN D st a k).2
 new:∀i,j<=i->∀a b,l[i]? = some a->l[i+1]? = some b->(sndN D st (a,b) 0).1=D.start
 flv:∀a,fl=some a->(sndN D st a 0).1=D.start+1
def Ctl(D:PlanD)(st:FSt)(a:Nat×Nat)(r:List Int):Prop:=∃k,k<D.lanes/\(r=(ctlF 3 k (sndN D st a k).1).bytes\/∃n,r=(ctlF 2 k n).bytes)
section
variable{l:List Nat}{j:Nat}{Wt:Nat->Nat->List Pk}{Qu:Nat->Way->List Pk}{fl:Option (Nat×Nat)}{hd:Nat×Nat->Nat->Int}{st st':FSt}{S:List Pk}{M:Int}{C:Nat}
theorem Holds.bounds(G:Good D)(K:Holds D P S M C st)(hM:M<=900000){a:Nat×Nat}(ha:a∈D.hops){k:Nat}(hk:k<D.lanes):0<=(rcvA D st a k).1/\(rcvA D st a k).1<=1000000/\0<=(sndN D st a k).1/\(sndN D st a k).1<=(sndN D st a k).2:=by
 have hab:=k2X (k0r.1 ha).2 (k0r.1 ha).1;have k1:=K.fok _ (k0O ha).1;have k2:=K.fok _ (k0O ha).2;have p1:1<=k08 D a.2 a.1:=zz92
 have p2:1<=k08 D a.1 a.2:=zz92
 exact⟨k2.num.r0 _ k p1 (k0Q hab) hk,k2.num.r1 _ k p1 (k0Q hab) hk,k1.num.s0 _ k p2 (k0Q (k0r.1 ha).2) hk,k1.num.s1 _ k p2 (k0Q (k0r.1 ha).2) hk⟩
theorem k65{a:Nat×Nat}{v:Nat}{s:NSt}{b:Nat×Nat}{k:Nat}{lk:Nat×Nat->List (List Int)}{t:Nat}:sndN D ⟨upd st.node v s,lk,t⟩ b k=if b.1=v then s.snd (k08 D b.1 b.2) k else sndN D st b k:=by
 unfold sndN;by_cases e:b.1=v
 ·rw[if_pos e];show(upd st.node v s b.1).snd _ _=_;rw[e,k04]
 ·rw[if_neg e];show(upd st.node v s b.1).snd _ _=_;rw[k06 _ _ e]
theorem k46{v:Nat}{s:NSt}{b:Nat×Nat}{k:Nat}{lk:Nat×Nat->List (List Int)}{t:Nat}:rcvA D ⟨upd st.node v s,lk,t⟩ b k=if b.2=v then s.rcv (k08 D b.2 b.1) k else rcvA D st b k:=by
 unfold rcvA;by_cases e:b.2=v
 ·rw[if_pos e];show(upd st.node v s b.2).rcv _ _=_;rw[e,k04]
 ·rw[if_neg e];show(upd st.node v s b.2).rcv _ _=_;rw[k06 _ _ e]
theorem One.ctl(G:Good D)(h:One D l j Wt Qu fl hd st)(K:Holds D P S M C st)(hM:M<=900000){a:Nat×Nat}(ha:a∈D.hops)(hf:fl≠some a){r:List Int}(hr:Ctl D st a r){s':NSt}(t:TakeRel D a.2 (k08 D a.2 a.1) (st.node a.2) r s'){lk:Nat×Nat->List (List Int)}{tk:Nat} :
 One D l j Wt Qu fl hd ⟨upd st.node a.2 s',lk,tk⟩/\∀b k,(sndN D ⟨upd st.node a.2 s',lk,tk⟩ b k).1=(sndN D st b k).1:=by
 obtain⟨k,hk,hr⟩:=hr;have hl3:=G.l1;have hw:=(k0O ha).2;have same:One D l j Wt Qu fl hd ⟨upd st.node a.2 (st.node a.2),lk,tk⟩/\∀b k,(sndN D ⟨upd st.node a.2 (st.node a.2),lk,tk⟩ b k).1=(sndN D st b k).1:=by
  rw[k1y];exact⟨⟨h.wt,h.qu,h.num,h.hld,h.crd,h.new,h.flv⟩,fun _ _=>rfl⟩
 unfold TakeRel at t;rcases hr with rfl|⟨n,rfl⟩
 ·obtain⟨f1,f2⟩:=k1O (.inr rfl) (show k<3 by omega) (sndN D st a k).1
  rw[Wire.dec_enc f1 f2]at t;rcases t with⟨h0,rfl⟩|⟨_,⟨h0,_⟩|⟨_,h0⟩|⟨h0,_⟩⟩
  ·exact same
  ·exact absurd h0 (by show ¬(3:Int)=2;omega)
  ·obtain⟨b0,b1,_⟩:=K.bounds G hM ha hk
   have hn:=h.num a ha k hk;rw[if_neg (fun e=>hf e.1)]at hn;have e1:((ctlF 3 k (sndN D st a k).1).l).toNat=k:=by show((k:Int)).toNat=k;omega
   have e2:k0p (rcvA D st a k).1 (ctlF 3 k (sndN D st a k).1).s=(rcvA D st a k).1:=by
    have e3:(sndN D st a k).1=(rcvA D st a k).1:=zz1
    show k0p _ ((sndN D st a k).1 % 65536)=_;rw[e3];exact k2C b0 zz1 b0 zz1 zz1
   have e4:s'=st.node a.2:=by
    rw[h0,e1];have e5:k4z ((st.node a.2).rcv (k08 D a.2 a.1) k).1 ((st.node a.2).rcv (k08 D a.2 a.1) k).2 D.room (ctlF 3 k (sndN D st a k).1).s=((st.node a.2).rcv (k08 D a.2 a.1) k).1:=by
     unfold k4z;have e6:k0p ((st.node a.2).rcv (k08 D a.2 a.1) k).1 (ctlF 3 k (sndN D st a k).1).s=((st.node a.2).rcv (k08 D a.2 a.1) k).1:=e2;rw[e6,if_pos (.inl (Int.le_refl _))]
    rw[e5];have e7:upd2 (st.node a.2).rcv (k08 D a.2 a.1) k (((st.node a.2).rcv (k08 D a.2 a.1) k).1,((st.node a.2).rcv (k08 D a.2 a.1) k).2)=(st.node a.2).rcv:=by
     funext i b;by_cases e:i=k08 D a.2 a.1/\b=k
     ·obtain⟨rfl,rfl⟩:=e;rw[k0l]
     ·rw[k0h _ _ _ _ e]
    rw[e7]
   rw[e4];exact same
  ·exact absurd h0 (by show ¬(3:Int)=1;omega)
 ·obtain⟨f1,f2⟩:=k1O (.inl rfl) (show k<3 by omega) n
  rw[Wire.dec_enc f1 f2]at t;rcases t with⟨h0,rfl⟩|⟨_,⟨_,h0⟩|⟨h0,_⟩|⟨h0,_⟩⟩
  ·exact same
  ·have e1:((ctlF 2 k n).l).toNat=k:=by show((k:Int)).toNat=k;omega
   rw[e1]at h0;have hs:∀i b,(s'.snd i b).1=((st.node a.2).snd i b).1/\((st.node a.2).snd i b).2<=(s'.snd i b).2:=fun i b=>by
    rw[h0];show(upd2 (α:=Int×Int) _ _ _ _ _ _).1=_/\_<=(upd2 (α:=Int×Int) _ _ _ _ _ _).2;by_cases e:i=k08 D a.2 a.1/\b=k
    ·obtain⟨rfl,rfl⟩:=e
     rw[k0l];refine⟨rfl,?_⟩;dsimp only;unfold k4Q;split<;>omega
    ·rw[k0h _ _ _ _ e];exact⟨rfl,Int.le_refl _⟩
   have hr2:s'.rcv=(st.node a.2).rcv:=by rw[h0]
   have hq2:s'.q=(st.node a.2).q:=by rw[h0]
   have hw2:s'.waits=(st.node a.2).waits:=by rw[h0]
   have sn:∀b k,(sndN D ⟨upd st.node a.2 s',lk,tk⟩ b k).1=(sndN D st b k).1/\(sndN D st b k).2<=(sndN D ⟨upd st.node a.2 s',lk,tk⟩ b k).2:=fun b k=>by
    rw[k65 (a:=a)];by_cases e:b.1=a.2
    ·rw[if_pos e];unfold sndN;rw[e];exact hs _ _
    ·rw[if_neg e];exact⟨rfl,Int.le_refl _⟩
   have rc:∀b k,rcvA D ⟨upd st.node a.2 s',lk,tk⟩ b k=rcvA D st b k:=fun b k=>by
    rw[k46];by_cases e:b.2=a.2
    ·rw[if_pos e,hr2];unfold rcvA;rw[e]
    ·rw[if_neg e]
   refine⟨⟨fun u hu k hk=>?_,fun u hu b=>?_,fun b hb k hk=>?_,fun b hb k hk=>?_,fun b hb k hk=>?_,fun i hi c b h1 h2=>?_,fun b hb=>?_⟩,fun b k=>(sn b k).1⟩
   ·show(upd st.node a.2 s' u).waits k=_
    by_cases e:u=a.2
    ·subst e;rw[k04,hw2];exact h.wt _ hu k hk
    ·rw[k06 _ _ e];exact h.wt u hu k hk
   ·show(upd st.node a.2 s' u).q b=_
    by_cases e:u=a.2
    ·subst e;rw[k04,hq2];exact h.qu _ hu b
    ·rw[k06 _ _ e];exact h.qu u hu b
   ·rw[rc,(sn b k).1];exact h.num b hb k hk
   ·rw[rc];exact h.hld b hb k hk
   ·exact Int.le_trans (h.crd b hb k hk) (sn b k).2
   ·rw[(sn (c,b) 0).1];exact h.new i hi c b h1 h2
   ·rw[(sn b 0).1];exact h.flv b hb
  ·exact absurd h0 (by show ¬(2:Int)=3;omega)
  ·exact absurd h0 (by show ¬(2:Int)=1;omega)
theorem One.data(G:Good D){a:Nat×Nat}{x:Pk}(h:One D l j Wt (fun _ _=>[]) (some a) (fun _ _=>0) st)(K:Holds D P S M C st)(ha:a∈D.hops)(hx:PkIn D 0 x){s':NSt}(t:TakeRel D a.2 (k08 D a.2 a.1) (st.node a.2) (k2H 0 D.start x).bytes s'){lk:Nat×Nat->List (List Int)}{tk:Nat} :
 One D l j Wt (fun u b=>if u=a.2/\b=(k08 D a.2 a.1,tw D a.2 x.dst.toNat,0) then[x] else[]) none (fun b k=>if b=a/\k=0 then 1 else 0) ⟨upd st.node a.2 s',lk,tk⟩/\∀b k,(sndN D ⟨upd st.node a.2 s',lk,tk⟩ b k).1=(sndN D st b k).1:=by
 have hl0:=G.l0;have hr0:=G.r0;have hs1:=G.s1;have hw:=(k0O ha).2;have hab:=k2X (k0r.1 ha).2 (k0r.1 ha).1;obtain⟨f1,f2⟩:=k3o G (k:=0) zz1 hx (D.start:Int);unfold TakeRel at t;rw[Wire.dec_enc f1 f2]at t;obtain⟨sx,dx,hsx,hdx,hs6,hd6,_,hlx,_⟩:=hx;have hfl:=h.flv a rfl;have hnum:=h.num a ha 0 zz1;rw[if_pos ⟨rfl,rfl⟩]at hnum;have hhd:=h.hld a ha 0 zz1;rcases t with⟨h0,_⟩|⟨_,⟨h0,_⟩|⟨h0,_⟩|⟨_,t⟩⟩
 ·exact absurd h0 (by show ¬(D.lanes:Int)<=((0:Nat):Int);omega)
 ·exact absurd h0 (by show ¬(1:Int)=2;omega)
 ·exact absurd h0 (by show ¬(1:Int)=3;omega)
 ·unfold DataRel at t
  have e1:((k2H 0 D.start x).l).toNat=0:=rfl;have e2:((st.node a.2).rcv (k08 D a.2 a.1) 0).1=D.start:=by show(rcvA D st a 0).1=_;omega
  have e3:((st.node a.2).rcv (k08 D a.2 a.1) 0).2=0:=hhd;have e4:k0p ((st.node a.2).rcv (k08 D a.2 a.1) 0).1 (k2H 0 D.start x).s=D.start:=by
   rw[e2];exact k2C zz1 zz1 zz1 zz1 zz1
  have ea:(k2H 0 D.start x).a=x.src:=rfl;have eb:(k2H 0 D.start x).b=x.dst:=rfl;rw[e1,e4,e2,e3,ea,eb]at t;rcases t with⟨h0,_⟩|⟨_,t⟩
  ·exact zz1
  rcases t with⟨h0,_⟩|⟨_,q',rfl,hq⟩
  ·exact zz1
  have hxF:pkOf (k2H 0 D.start x)=x:=by
   show Pk.mk x.src x.dst ((0:Nat):Int) x.body=x;rw[<- hlx]
  rw[hxF]at hq;have hqq:q'=updw (st.node a.2).q (k08 D a.2 a.1,tw D a.2 x.dst.toNat,0) [x]:=by
   rcases hq with rfl|⟨_,b,hb⟩
   ·rw[h.qu a.2 hw];rfl
   ·exact absurd (h.qu a.2 hw b) hb
  obtain⟨s',hs'⟩:∃s':NSt,s' = { st.node a.2 with rcv:=upd2 (st.node a.2).rcv (k08 D a.2 a.1) 0 ((D.start:Int)+1,0+1),q:=q' }:=⟨_,rfl⟩;rw[<- hs'];have hsn:s'.snd=(st.node a.2).snd:=by rw[hs']
  have hwt:s'.waits=(st.node a.2).waits:=by rw[hs']
  have hqe:s'.q=q':=by rw[hs']
  have hrc:s'.rcv=upd2 (st.node a.2).rcv (k08 D a.2 a.1) 0 ((D.start:Int)+1,0+1):=by rw[hs']
  have sn:∀b k,sndN D ⟨upd st.node a.2 s',lk,tk⟩ b k=sndN D st b k:=fun b k=>by
   rw[k65 (a:=a)];by_cases e:b.1=a.2
   ·rw[if_pos e,hsn];unfold sndN;rw[e]
   ·rw[if_neg e]
  have rc1:rcvA D ⟨upd st.node a.2 s',lk,tk⟩ a 0=((D.start:Int)+1,0+1):=by
   rw[k46,if_pos rfl,hrc,k0l]
  have rc2:∀b∈D.hops,∀k,¬(b=a/\k=0)->rcvA D ⟨upd st.node a.2 s',lk,tk⟩ b k=rcvA D st b k:=fun b hb k hne=>by
   rw[k46];by_cases e:b.2=a.2
   ·rw[if_pos e,hrc,e,k0h]
    ·unfold rcvA;rw[e]
    ·rintro⟨e5,rfl⟩
     exact hne ⟨Prod.ext (k2D hab e5) e,rfl⟩
   ·rw[if_neg e]
  refine⟨⟨fun u hu k hk=>?_,fun u hu b=>?_,fun b hb k hk=>?_,fun b hb k hk=>?_,fun b hb k hk=>?_,fun i hi c b h1 h2=>?_,fun b hb=>by cases hb⟩,fun b k=>by rw[sn]⟩
  ·show(upd st.node a.2 s' u).waits k=_
   by_cases e:u=a.2
   ·subst e;rw[k04,hwt];exact h.wt _ hu k hk
   ·rw[k06 _ _ e];exact h.wt u hu k hk
  ·show(upd st.node a.2 s' u).q b=_
   by_cases e:u=a.2
   ·subst e
    rw[k04,hqe,hqq];unfold updw;by_cases e5:b=(k08 D a.2 a.1,tw D a.2 x.dst.toNat,0)
    ·rw[if_pos e5,if_pos ⟨rfl,e5⟩]
    ·rw[if_neg e5,if_neg (fun e6=>e5 e6.2)];exact h.qu _ hu b
   ·rw[k06 _ _ e,if_neg (fun e6=>e e6.1)];exact h.qu u hu b
  ·rw[sn,if_neg zz6]
   by_cases e:b=a/\k=0
   ·obtain⟨rfl,rfl⟩:=e;rw[rc1];show(D.start:Int)+1=_;omega
   ·rw[rc2 b hb k e,h.num b hb k hk,if_neg]
    rintro⟨e5,e6⟩;exact e ⟨(Option.some.inj e5).symm,e6⟩
  ·by_cases e:b=a/\k=0
   ·rw[if_pos e];obtain⟨rfl,rfl⟩:=e;rw[rc1];rfl
   ·rw[if_neg e,rc2 b hb k e];exact h.hld b hb k hk
  ·rw[sn];exact h.crd b hb k hk
  ·rw[sn];exact h.new i hi c b h1 h2
end
theorem DelN.keep{A:FSt->Prop}{a:Nat×Nat}(hA:∀s s',A s->k1I D a 0 s s'->A s'):∀{n:Nat}{s s':FSt},A s->DelN D a n s s'->A s'
 |0,s,s',h,d=>by
  obtain rfl:s'=s:=d;exact h
 |n+1,s,s',h,⟨s1,d1,d2⟩=>hA _ _ (DelN.keep hA h d1) d2
theorem DelN.first{A B:FSt->Prop}{a:Nat×Nat}(hBA:∀s s',B s->k1I D a 0 s s'->A s')(hA:∀s s',A s->k1I D a 0 s s'->A s'):∀{n:Nat}{s s':FSt},B s->DelN D a (n+1) s s'->A s'
 |0,s,s',h,⟨s1,d1,d2⟩=>by
  obtain rfl:s1=s:=d1;exact hBA _ _ h d2
 |n+1,s,s',h,⟨s1,d1,d2⟩=>hA _ _ (DelN.first hBA hA h d1) d2
theorem DelHops.run{A B:FSt->Prop}{h:Nat×Nat}(hB:∀s s' a,B s->a∈D.hops->a≠h->k1I D a 0 s s'->B s')(hBA:∀s s',B s->k1I D h 0 s s'->A s')(hA:∀s s' a,A s->a∈D.hops->k1I D a 0 s s'->A s')(hne:∀s,B s->s.link h≠[]):∀{n:Nat}{s s':FSt},B s->DelHops D n s s'->(h∈D.hops.take n->A s')/\(h ∉ D.hops.take n->B s')
 |0,s,s',hb,d=>by
  obtain rfl:s'=s:=d;exact⟨fun e=>by simp at e,fun _=>hb⟩
 |n+1,s,s',hb,⟨s1,a,d1,ha,d2⟩=>by
  obtain⟨i1,i2⟩:=DelHops.run hB hBA hA hne hb d1;have ham:=List.mem_of_getElem? ha;have hmem:h∈D.hops.take (n+1) ↔ h∈D.hops.take n\/h=a:=by rw[List.take_add_one,ha];simp
  constructor
  ·intro e
   by_cases e1:h∈D.hops.take n
   ·exact DelN.keep (fun s s' h1 d=>hA s s' a h1 ham d) (i1 e1) d2
   ·rcases hmem.1 e with e2|e2
    ·exact absurd e2 e1
    ·subst e2
     have hb1:=i2 e1;have:=hne _ hb1;obtain⟨k,hk⟩:∃k,(s1.link h).length=k+1:=⟨(s1.link h).length-1,by have:=List.length_pos_iff.2 this;omega⟩;rw[hk]at d2;exact DelN.first hBA (fun s s' h1 d=>hA s s' h h1 ham d) hb1 d2
  ·intro e
   have e1:h ∉ D.hops.take n:=fun e2=>e (hmem.2 (.inl e2))
   have e2:a≠h:=fun e3=>e (hmem.2 (.inr e3.symm))
   exact DelN.keep (fun s s' h1 d=>hB s s' a h1 ham e2 d) (i2 e1) d2
theorem DelHops.keep{A:FSt->Prop}(hA:∀s s' a,A s->a∈D.hops->k1I D a 0 s s'->A s'):∀{n:Nat}{s s':FSt},A s->DelHops D n s s'->A s'
 |0,s,s',hb,d=>by
  obtain rfl:s'=s:=d;exact hb
 |n+1,s,s',hb,⟨s1,a,d1,ha,d2⟩=>DelN.keep (fun s s' h1 d=>hA s s' a h1 (List.mem_of_getElem? ha) d) (DelHops.keep hA hb d1) d2
theorem DelN.other{a b:Nat×Nat}(hab:b≠a):∀{n:Nat}{s s':FSt},DelN D a n s s'->s'.link b=s.link b
 |0,s,s',d=>by
  obtain rfl:s'=s:=d;rfl
 |n+1,s,s',⟨s1,d1,row,x,_,_,e⟩=>by
  rw[e,<- DelN.other hab d1];show updl s1.link a _ b=_;unfold updl;rw[if_neg hab]
theorem DelHops.empty:∀{n:Nat}{s s':FSt},DelHops D n s s'->∀a∈D.hops.take n,s'.link a=[]
 |0,s,s',d,a,ha=>by simp at ha
 |n+1,s,s',⟨s1,b,d1,hb,d2⟩,a,ha=>by
  have h0:s'.link b=[]:=by
   have:=d2.len;exact List.eq_nil_of_length_eq_zero zz1
  by_cases e:a=b
  ·rw[e];exact h0
  ·rw[DelN.other e d2]
   refine DelHops.empty d1 a ?_;rw[List.take_add_one,hb]at ha;simpa[e] using ha
end
section
variable{D:PlanD}{P:Nat->Nat->List Nat}
def k1k(os:List OutP)(y:Nat):List (List Int):=(os.filter fun p=>decide (p.1=y)).map fun p=>p.2
theorem k2S(p:OutP)(os:List OutP)(y:Nat):k1k (p :: os) y=if p.1=y then p.2 :: k1k os y else k1k os y:=by
 unfold k1k;by_cases e:p.1=y
 ·rw[if_pos e,List.filter_cons_of_pos (by simpa using e)];rfl
 ·rw[if_neg e,List.filter_cons_of_neg (by simpa using e)]
theorem k5R(o1 o2:List OutP)(y:Nat):k1k (o1++o2) y=k1k o1 y++k1k o2 y:=by
 unfold k1k;rw[List.filter_append,List.map_append]
theorem k8v{os:List OutP}{y:Nat}{r:List Int}(h:r∈k1k os y):(y,r)∈os:=by
 unfold k1k at h;obtain⟨p,hp,rfl⟩:=List.mem_map.1 h;obtain⟨h1,h2⟩:=List.mem_filter.1 hp;have:p.1=y:=by simpa using h2
 rw[<- this];exact h1
theorem k4g{v:Nat}:∀{os:List OutP}{lk:Nat×Nat->List (List Int)},(∀p∈os,p.1∈D.bs v)->(∀y∈D.bs v,(lk (v,y)).length+os.length<=D.bag)->∀a:Nat×Nat,(a.1≠v->k2p D v lk os a=lk a)/\(a.1=v->a.2∈D.bs v->k2p D v lk os a=lk a++k1k os a.2)
 |[],lk,_,_,a=>⟨fun _=>rfl,fun _ _=>by simp[k2p,k1k]⟩
 |p :: os,lk,ho,hl,a=>by
  have e0:k2p D v lk (p :: os)=k2p D v (updl lk (v,p.1) (put1 D (lk (v,p.1)) p.2)) os:=rfl;have hp:=ho p (List.mem_cons_self ..);have hpl:=hl p.1 hp;simp only[List.length_cons]at hpl;have e1:put1 D (lk (v,p.1)) p.2=lk (v,p.1)++[p.2]:=by unfold put1;rw[if_pos zz1]
  have ih:=k4g (v:=v) (os:=os) (lk:=updl lk (v,p.1) (put1 D (lk (v,p.1)) p.2)) (fun q hq=>ho q (List.mem_cons_of_mem _ hq)) (fun y hy=>by
   have:=hl y hy;simp only[List.length_cons]at this;unfold updl;split
   ·rw[e1,List.length_append,List.length_singleton];omega
   ·omega) a
  rw[e0];refine⟨fun h=>?_,fun h h2=>?_⟩
  ·rw[ih.1 h]
   unfold updl;rw[if_neg (fun e=>h (by rw[e]))]
  ·rw[ih.2 h h2,k2S]
   unfold updl;by_cases e:p.1=a.2
   ·have e2:a=(v,p.1):=Prod.ext h e.symm
    rw[if_pos e2,if_pos e,e1,e2,List.append_assoc];rfl
   ·rw[if_neg (fun e2=>e (by rw[e2])),if_neg e]
theorem k3b{outs:Nat->List OutP}{lk:Nat×Nat->List (List Int)}(h0:∀a∈D.hops,lk a=[])(ho:∀v,v<D.nodes->(∀p∈outs v,p.1∈D.bs v)/\(outs v).length<=D.bag):∀k,k<=D.nodes->∀a∈D.hops,k1D D outs lk k a=if a.1<k then k1k (outs a.1) a.2 else[]
 |0,_,a,ha=>by rw[if_neg zz1];exact h0 a ha
 |k+1,hk,a,ha=>by
  have ih:=k3b h0 ho k zz1;obtain⟨h1,h2⟩:=ho k zz1;have hx:=k4g (v:=k) (os:=outs k) (lk:=k1D D outs lk k) h1 (fun y hy=>by
   rw[ih (k,y) (k0r.2 ⟨zz1,hy⟩),if_neg zz6];simpa using h2) a
  show k2p D k (k1D D outs lk k) (outs k) a=_;by_cases e:a.1=k
  ·rw[hx.2 e (by rw[<- e];exact(k0r.1 ha).2),ih a ha,if_neg zz1,if_pos zz1,e];rfl
  ·rw[hx.1 e,ih a ha]
   by_cases e2:a.1<k
   ·rw[if_pos e2,if_pos zz1]
   ·rw[if_neg e2,if_neg zz1]
theorem k7R(G:Good D){v y:Nat}{s:NSt}{r:List Int}(h:r∈k1k (k1f D v s (np D v)) y):∃k,k<D.lanes/\(r=(ctlF 3 k (s.snd (k08 D v y) k).1).bytes\/∃n,r=(ctlF 2 k n).bytes):=by
 obtain⟨i,hi,hp⟩:=List.mem_flatMap.1 (k8v h);have hi:=List.mem_range.1 hi;split at hp
 ·cases hp
 ·obtain⟨k,hk,hp⟩:=List.mem_flatMap.1 hp
  have hk:=List.mem_range.1 hk;obtain⟨p1,p2⟩:=k3y (D:=D) (v:=v) (i:=i) zz1 hi;simp only[List.mem_cons,List.not_mem_nil,or_false,Prod.mk.injEq]at hp;rcases hp with⟨rfl,rfl⟩|⟨rfl,rfl⟩
  ·exact⟨k,hk,.inl (by rw[p1])⟩
  ·exact⟨k,hk,.inr ⟨_,rfl⟩⟩
section
variable{l:List Nat}{x:Pk}{st st1:FSt}{S:List Pk}{M:Int}{C:Nat}{r u v w:Nat}
def Wr(l:List Nat)(x:Pk)(r:Nat):Nat->Nat->List Pk:=fun u k=>if r=0/\l[0]? = some u/\k=0 then[x] else[]
def Qr(D:PlanD)(l:List Nat)(x:Pk)(r:Nat):Nat->Way->List Pk:=fun u a=>if 1<=r/\l[r]? = some u/\a=(k08 D u (l.getD (r-1) 0),tw D u x.dst.toNat,0) then[x] else[]
def hRr(l:List Nat)(r:Nat):Nat×Nat->Nat->Int:=fun a k=>if 1<=r/\l[r-1]? = some a.1/\l[r]? = some a.2/\k=0 then 1 else 0
def Wf(x:Pk)(w:Nat):Nat->Nat->List Pk:=fun u k=>if u=w/\k=3 then[x] else[]
def Solo(D:PlanD)(l:List Nat)(x:Pk)(r:Nat)(st:FSt):Prop:=One D l r (Wr l x r) (Qr D l x r) none (hRr l r) st/\∀a∈D.hops,st.link a=[]
theorem k2z(G:Good D)(I:IsPath D v w l)(hv:v<D.nodes):∀i u:Nat,l[i]? = some u->u<D.nodes
 |0,u,h=>by rw[I.first]at h;cases h;exact hv
 |i+1,u,h=>by
  have hi:i<l.length:=by have:=(List.getElem?_eq_some_iff.1 h).1;omega
  obtain⟨b,_,_⟩:=I.step i _ u (List.getElem?_eq_getElem hi) h;exact k8C b
theorem k9C(G:Good D)(I:IsPath D v w l)(hv:v<D.nodes)(hw:w<D.nodes)(hx:x.dst=w)(h:Solo D l x r st)(hu:l[r]? = some u){s':NSt}{os:List OutP}(t:TickRel D u (st.node u) s' os) :
 ∃s0 i0,i0<np D u/\s0.snd=(st.node u).snd/\s0.rcv=(st.node u).rcv/\(∀k,k<3->s0.waits k=[])/\s0.waits 3=[]/\(∀a,s0.q a=if a=(i0,tw D u w,0) then[x] else[])/\((i0=0/\r=0)\/(1<=r/\i0=k08 D u (l.getD (r-1) 0)/\l.getD (r-1) 0∈D.bs u/\l[r-1]? = some (l.getD (r-1) 0))) /\
  s' = { k0L s0 i0 (tw D u w) x with ticks:=(k0L s0 i0 (tw D u w) x).ticks+1 }/\os=out1 D u (st.node u) (tw D u w) x++(if((k0L s0 i0 (tw D u w) x).ticks+1) % D.every=0 then k1f D u (k0L s0 i0 (tw D u w) x) (np D u) else[]):=by
 have hun:=k2z G I hv r u hu;have hl:=G.l1;have hr0:=G.r0;have hd:x.dst.toNat=w:=zz1
 have hdn:dstN x=w:=hd;have hj:=kce G hun hw;have hus:tw D u w=0\/((st.node u).snd (tw D u w) 0).1<((st.node u).snd (tw D u w) 0).2:=by
  by_cases e:u=w
  ·left;unfold tw;rw[if_pos e.symm]
  ·right
   have h1:r+1<l.length:=by
    have h2:=(List.getElem?_eq_some_iff.1 hu).1;rcases Nat.lt_or_ge (r+1) l.length with h3|h3
    ·exact h3
    ·have:r=l.length-1:=by omega
     have h4:=I.last;rw[<- this,hu]at h4;exact absurd (Option.some.inj h4) e
   have hb:l[r+1]? = some l[r+1]:=List.getElem?_eq_getElem h1;obtain⟨b1,b2,_⟩:=I.step r u _ hu hb;have e2:tw D u w=k08 D u l[r+1]:=by unfold tw k08;rw[if_neg (fun e3=>e e3.symm),b2]
   have n1:=h.1.new r (Nat.le_refl _) u _ hu hb;have c1:=h.1.crd (u,l[r+1]) (k0r.2 ⟨hun,b1⟩) 0 (by have:=G.l0;omega);rw[e2];show(sndN D st (u,l[r+1]) 0).1<(sndN D st (u,l[r+1]) 0).2;exact zz1
 have w3:(st.node u).waits 3=[]:=by rw[h.1.wt u hun 3 (Nat.le_refl _)];unfold Wr;rw[if_neg zz1]
 by_cases e0:r=0
 ·subst e0
  have hw0:(st.node u).waits 0=[x]:=by rw[h.1.wt u hun 0 zz1];unfold Wr;rw[if_pos ⟨rfl,hu,rfl⟩]
  have hwk:∀k,1<=k->k<3->(st.node u).waits k=[]:=fun k h1 h2=>by rw[h.1.wt u hun k zz1];unfold Wr;rw[if_neg zz1]
  have hq:∀a,(st.node u).q a=[]:=fun a=>by rw[h.1.qu u hun a];unfold Qr;rw[if_neg zz1]
  have ft:=k8d G hw0 (fun k h1 h2=>hwk k h1 zz1) hq (by rw[hdn];exact hj) (by rw[hdn];exact hus) t;rw[hdn]at ft;refine⟨fed1 D u (st.node u) x,0,by unfold np;omega,rfl,rfl,fun k hk=>?_,?_,fun a=>?_,.inl ⟨rfl,rfl⟩,ft.1,ft.2⟩
  ·show upd (st.node u).waits 0 [] k=[]
   by_cases e:k=0
   ·subst e;rw[k04]
   ·rw[k06 _ _ e];exact hwk k zz1 hk
  ·show upd (st.node u).waits 0 [] 3=[]
   rw[k06 _ _ zz1];exact w3
  ·show updw (st.node u).q (0,tw D u (dstN x),0) [x] a=_
   unfold updw;rw[hdn,hq]
 ·have hwk:∀k,k<3->(st.node u).waits k=[]:=fun k h2=>by rw[h.1.wt u hun k zz1];unfold Wr;rw[if_neg (fun e=>e0 e.1)]
  have hr1:r-1<l.length:=by have:=(List.getElem?_eq_some_iff.1 hu).1;omega
  have hp:l[r-1]? = some (l.getD (r-1) 0):=by rw[List.getD_eq_getElem?_getD,List.getElem?_eq_getElem hr1];rfl
  have hpn:=k2z G I hv _ _ hp;obtain⟨b1,_,_⟩:=I.step (r-1) _ u hp (by rw[show r-1+1=r by omega];exact hu);have hb:=k2X b1 hpn;have hq:∀a,(st.node u).q a=if a=(k08 D u (l.getD (r-1) 0),tw D u w,0) then[x] else[]:=fun a=>by
   rw[h.1.qu u hun a];unfold Qr;rw[hd];by_cases e:a=(k08 D u (l.getD (r-1) 0),tw D u w,0)
   ·rw[if_pos e,if_pos ⟨zz1,hu,e⟩]
   ·rw[if_neg e,if_neg (fun e2=>e e2.2.2)]
  have ot:=kbt G (fun k hk=>hwk k zz1) (k0Q hb) hj hq hus t;exact⟨st.node u,k08 D u (l.getD (r-1) 0),k0Q hb,rfl,rfl,hwk,w3,hq,.inr ⟨zz1,rfl,hb,hp⟩,ot.1,ot.2⟩
structure kbX(D:PlanD)(st st1:FSt)(u i0 j0:Nat)(x:Pk):Prop where
 snd:∀a,a∈D.hops->∀k,sndN D st1 a k=if a.1=u/\j0≠0/\k08 D u a.2=j0/\k=0 then((sndN D st a k).1+1,(sndN D st a k).2) else sndN D st a k
 rcv:∀a,a∈D.hops->∀k,rcvA D st1 a k=if a.2=u/\i0≠0/\k08 D u a.1=i0/\k=0 then((rcvA D st a k).1,if(rcvA D st a k).2=0 then 0 else(rcvA D st a k).2-1) else rcvA D st a k
 q:∀v,v<D.nodes->∀a,(st1.node v).q a=[]
 wt:∀v,v<D.nodes->∀k,k<3->(st1.node v).waits k=[]
 w3:∀v,v<D.nodes->(st1.node v).waits 3=if v=u/\j0=0 then[x] else[]
 row:∀a,a∈D.hops->∃rest,st1.link a=(if a.1=u then k1k (out1 D u (st.node u) j0 x) a.2 else[])++rest/\∀r∈rest,Ctl D st1 a r
theorem k98(G:Good D)(I:IsPath D v w l)(hv:v<D.nodes)(hw:w<D.nodes)(hx:x.dst=w)(h:Solo D l x r st)(hu:l[r]? = some u)(K:Holds D P S M C st)(hM:M+6<=900000)(t:k8U D st st1) :
 ∃i0,((i0=0/\r=0)\/(1<=r/\i0=k08 D u (l.getD (r-1) 0)/\l.getD (r-1) 0∈D.bs u/\l[r-1]? = some (l.getD (r-1) 0)))/\kbX D st st1 u i0 (tw D u w) x:=by
 obtain⟨outs,t1,t2,_⟩:=t;have hun:=k2z G I hv r u hu;have hbag:=G.b0;have hl3:=G.l1;obtain⟨s0,i0,hi0,e1,e2,e3,e4,e5,e6,e7,e8⟩:=k9C G I hv hw hx h hu (t1 u hun);have oth:∀y,y<D.nodes->y≠u->st1.node y = { st.node y with ticks:=(st.node y).ticks+1 }/\outs y=if((st.node y).ticks+1) % D.every=0 then k1f D y (st.node y) (np D y) else[]:=fun y hy hne=>by
  refine k8q (fun k hk=>?_) (fun a=>?_) (t1 y hy)
  ·rw[h.1.wt y hy k zz1]
   unfold Wr;rw[if_neg];rintro⟨rfl,e,_⟩;rw[hu]at e;exact hne (Option.some.inj e).symm
  ·rw[h.1.qu y hy a]
   unfold Qr;rw[if_neg];rintro⟨_,e,_⟩;rw[hu]at e;exact hne (Option.some.inj e).symm
 have ow3:∀y,y<D.nodes->(st.node y).waits 3=[]:=fun y hy=>by
  rw[h.1.wt y hy 3 (Nat.le_refl _)];unfold Wr;rw[if_neg zz1]
 have hsnd:∀a,a∈D.hops->∀k,sndN D st1 a k=if a.1=u/\tw D u w≠0/\k08 D u a.2=tw D u w/\k=0 then((sndN D st a k).1+1,(sndN D st a k).2) else sndN D st a k:=fun a ha k=>by
  unfold sndN;by_cases e:a.1=u
  ·rw[e,e7]
   show(k0L s0 i0 (tw D u w) x).snd (k08 D u a.2) k=_;rw[k8M,e1];by_cases e9:tw D u w≠0/\k08 D u a.2=tw D u w/\k=0
   ·rw[if_pos e9,if_pos ⟨rfl,e9⟩]
   ·rw[if_neg e9,if_neg (fun e10=>e9 e10.2)]
  ·rw[(oth a.1 (k0O ha).1 e).1,if_neg (fun e10=>e e10.1)]
 refine⟨i0,e6,hsnd,fun a ha k=>?_,fun y hy a=>?_,fun y hy k hk=>?_,fun y hy=>?_,fun a ha=>?_⟩
 ·unfold rcvA
  by_cases e:a.2=u
  ·rw[e,e7]
   show(k0L s0 i0 (tw D u w) x).rcv (k08 D u a.1) k=_;rw[k91,e2];by_cases e9:i0≠0/\k08 D u a.1=i0/\k=0
   ·rw[if_pos e9,if_pos (show u=u/\i0≠0/\k08 D u a.1=i0/\k=0 from⟨rfl,e9⟩)]
   ·rw[if_neg e9,if_neg (fun e10=>e9 e10.2)]
  ·rw[(oth a.2 (k0O ha).2 e).1,if_neg (fun e10=>e e10.1)]
 ·by_cases e:y=u
  ·subst e
   rw[e7];show(k0L s0 i0 (tw D y w) x).q a=[];rw[kaD,e5];by_cases e9:a=(i0,tw D y w,0)
   ·rw[if_pos e9]
   ·rw[if_neg e9,if_neg e9]
  ·rw[(oth y hy e).1]
   show(st.node y).q a=[];rw[h.1.qu y hy a];unfold Qr;rw[if_neg];rintro⟨_,e9,_⟩;rw[hu]at e9;exact e (Option.some.inj e9).symm
 ·by_cases e:y=u
  ·subst e
   rw[e7];show(k0L s0 i0 (tw D y w) x).waits k=[];rw[k3L];split
   ·rw[k06 _ _ zz1];exact e3 k hk
   ·exact e3 k hk
  ·rw[(oth y hy e).1]
   show(st.node y).waits k=[];rw[h.1.wt y hy k zz1];unfold Wr;rw[if_neg];rintro⟨rfl,e9,_⟩;rw[hu]at e9;exact e (Option.some.inj e9).symm
 ·by_cases e:y=u
  ·subst e
   rw[e7];show(k0L s0 i0 (tw D y w) x).waits 3=_;rw[k3L];by_cases e9:tw D y w=0
   ·rw[if_pos e9,if_pos ⟨rfl,e9⟩,k04,e4];rfl
   ·rw[if_neg e9,if_neg (fun e10=>e9 e10.2)];exact e4
  ·rw[(oth y hy e).1,if_neg (fun e10=>e e10.1)]
   exact ow3 y hy
 ·
  have hlen:∀y,y<D.nodes->∀s,(k1f D y s (np D y)).length<=36:=fun y hy s=>by
   have h1:=k2B D y s (np D y);have h2:=k2t G hy;have h3:np D y*(D.lanes*2)<=6*(3*2):=Nat.mul_le_mul h2 zz1;exact zz1
  have hol:∀y,y<D.nodes->(outs y).length<=D.bag:=fun y hy=>by
   by_cases e:y=u
   ·subst e
    rw[e8,List.length_append];have h1:(out1 D y (st.node y) (tw D y w) x).length<=1:=by unfold out1;split<;>simp
    have h2:=hlen y hy (k0L s0 i0 (tw D y w) x);split
    ·exact zz1
    ·exact zz20
   ·rw[(oth y hy e).2]
    have h2:=hlen y hy (st.node y);split
    ·exact zz1
    ·exact zz6
  have hall:=k3b (outs:=outs) (lk:=st.link) h.2 (fun y hy=>⟨fun p hp=>(k6R G hy (K.fok y hy) zz1 (t1 y hy) p hp).1,hol y hy⟩) D.nodes (Nat.le_refl _) a ha;rw[t2,hall,if_pos (k0O ha).1];by_cases e:a.1=u
  ·rw[if_pos e,e,e8,k5R]
   refine⟨_,rfl,fun r hr=>?_⟩;split at hr
   ·obtain⟨k,hk,hr⟩:=k7R G hr
    refine⟨k,hk,?_⟩;rcases hr with rfl|⟨n,rfl⟩
    ·left
     unfold sndN;rw[e,e7]
    ·exact .inr ⟨n,rfl⟩
   ·simp[k1k]at hr
  ·rw[if_neg e,(oth a.1 (k0O ha).1 e).2]
   refine⟨_,rfl,fun r hr=>?_⟩;split at hr
   ·obtain⟨k,hk,hr⟩:=k7R G hr
    refine⟨k,hk,?_⟩;rcases hr with rfl|⟨n,rfl⟩
    ·left
     unfold sndN;rw[(oth a.1 (k0O ha).1 e).1]
    ·exact .inr ⟨n,rfl⟩
   ·simp[k1k]at hr
theorem Ctl.congr{s s':FSt}{a:Nat×Nat}{r:List Int}(h:Ctl D s a r)(e:∀b k,(sndN D s' b k).1=(sndN D s b k).1):Ctl D s' a r:=by
 obtain⟨k,hk,h⟩:=h;exact⟨k,hk,by rw[e];exact h⟩
def Before(D:PlanD)(l:List Nat)(x:Pk)(r:Nat)(h:Nat×Nat)(s:FSt):Prop:=One D l (r+1) (fun _ _=>[]) (fun _ _=>[]) (some h) (fun _ _=>0) s/\(∃rest,s.link h=(k2H 0 D.start x).bytes :: rest/\∀q∈rest,Ctl D s h q)/\∀a∈D.hops,a≠h->∀q∈s.link a,Ctl D s a q
def After(D:PlanD)(l:List Nat)(j:Nat)(Wt:Nat->Nat->List Pk)(Qu:Nat->Way->List Pk)(hd:Nat×Nat->Nat->Int)(s:FSt):Prop:=One D l j Wt Qu none hd s/\∀a∈D.hops,∀q∈s.link a,Ctl D s a q
theorem After.step(G:Good D){j:Nat}{Wt:Nat->Nat->List Pk}{Qu:Nat->Way->List Pk}{hd:Nat×Nat->Nat->Int}{s s':FSt}{a:Nat×Nat}(h:After D l j Wt Qu hd s)(K:Holds D P S M C s)(hM:M<=900000)(ha:a∈D.hops)(d:k1I D a 0 s s'):After D l j Wt Qu hd s':=by
 obtain⟨row,n',h1,h2,rfl⟩:=d;obtain⟨o1,o2⟩:=h.1.ctl G K hM ha zz6 (h.2 a ha row (List.mem_of_getElem? h1)) h2 (lk:=updl s.link a ((s.link a).eraseIdx 0)) (tk:=s.ticks);refine⟨o1,fun b hb q hq=>?_⟩;have hq:q∈updl s.link a ((s.link a).eraseIdx 0) b:=hq;unfold updl at hq;split at hq
 ·rename_i e;subst e;exact(h.2 b hb q (List.mem_of_mem_eraseIdx hq)).congr o2
 ·exact(h.2 b hb q hq).congr o2
theorem Before.step(G:Good D){h:Nat×Nat}{s s':FSt}{a:Nat×Nat}(b:Before D l x r h s)(K:Holds D P S M C s)(hM:M<=900000)(ha:a∈D.hops)(hne:a≠h)(d:k1I D a 0 s s'):Before D l x r h s':=by
 obtain⟨row,n',h1,h2,rfl⟩:=d;obtain⟨b1,⟨rest,b2,b3⟩,b4⟩:=b;obtain⟨o1,o2⟩:=b1.ctl G K hM ha (fun e=>hne (Option.some.inj e).symm) (b4 a ha hne row (List.mem_of_getElem? h1)) h2 (lk:=updl s.link a ((s.link a).eraseIdx 0)) (tk:=s.ticks);refine⟨o1,⟨rest,?_,fun q hq=>(b3 q hq).congr o2⟩,fun c hc hcn q hq=>?_⟩
 ·show updl s.link a ((s.link a).eraseIdx 0) h=_
  unfold updl;rw[if_neg (fun e=>hne e.symm)];exact b2
 ·have hq:q∈updl s.link a ((s.link a).eraseIdx 0) c:=hq
  unfold updl at hq;split at hq
  ·rename_i e;subst e;exact(b4 c hc hcn q (List.mem_of_mem_eraseIdx hq)).congr o2
  ·exact(b4 c hc hcn q hq).congr o2
theorem Before.data(G:Good D){h:Nat×Nat}{s s':FSt}(b:Before D l x r h s)(K:Holds D P S M C s)(hh:h∈D.hops)(hx:PkIn D 0 x)(d:k1I D h 0 s s'):After D l (r+1) (fun _ _=>[]) (fun u b=>if u=h.2/\b=(k08 D h.2 h.1,tw D h.2 x.dst.toNat,0) then[x] else[]) (fun b k=>if b=h/\k=0 then 1 else 0) s':=by
 obtain⟨row,n',h1,h2,rfl⟩:=d;obtain⟨b1,⟨rest,b2,b3⟩,b4⟩:=b;rw[b2,List.getElem?_cons_zero]at h1;obtain rfl:=Option.some.inj h1;obtain⟨o1,o2⟩:=b1.data G K hh hx h2 (lk:=updl s.link h ((s.link h).eraseIdx 0)) (tk:=s.ticks);refine⟨o1,fun c hc q hq=>?_⟩;have hq:q∈updl s.link h ((s.link h).eraseIdx 0) c:=hq;unfold updl at hq;split at hq
 ·rename_i e;subst e
  rw[b2]at hq;exact(b3 q (by simpa using hq)).congr o2
 ·rename_i e
  exact(b4 c hc e q hq).congr o2
theorem k5r(G:Good D)(W:Ways D P)(I:IsPath D v w l)(hv:v<D.nodes)(hw:w<D.nodes)(hx:x.dst=w)(hp:PkIn D 0 x)(h:Solo D l x r st)(hu:l[r]? = some u)(K:Holds D P S M C st)(hM:M+6<=900000)(hM2:M+6<=D.start+30000){st':FSt}(t:k8b D st st') :
 (∀b,l[r+1]? = some b->Solo D l x (r+1) st')/\(r+1=l.length->One D l (r+1) (Wf x w) (fun _ _=>[]) none (fun _ _=>0) st'/\∀a∈D.hops,st'.link a=[]):=by
 obtain⟨s1,t1,t2⟩:=t;have K1:=K.tick G W zz1 t1;obtain⟨i0,hi0,T⟩:=k98 G I hv hw hx h hu K hM t1;have hun:=k2z G I hv r u hu;have hd:x.dst.toNat=w:=by omega
 have hempty:∀a∈D.hops,st'.link a=[]:=fun a ha=>t2.empty a (by rw[List.take_length];exact ha)
 have hhld:∀a∈D.hops,∀k,k<D.lanes->(rcvA D s1 a k).2=0:=fun a ha k hk=>by
  have hb:=h.1.hld a ha k hk;rw[T.rcv a ha k];unfold hRr at hb;rcases hi0 with⟨rfl,rfl⟩|⟨r1,rfl,hbs,hl⟩
  ·rw[if_neg zz6,hb,if_neg zz1]
  ·by_cases e:a.2=u/\k08 D u (l.getD (r-1) 0)≠0/\k08 D u a.1=k08 D u (l.getD (r-1) 0)/\k=0
   ·rw[if_pos e]
    have e1:=k2D hbs e.2.2.1;rw[if_pos ⟨r1,by rw[hl,e1],by rw[hu,e.1],e.2.2.2⟩]at hb;dsimp only;rw[hb];rfl
   ·rw[if_neg e,hb,if_neg]
    rintro⟨_,e1,e2,e3⟩;rw[hu]at e2;rw[hl]at e1;have e4:=Option.some.inj e1;have e5:=Option.some.inj e2;exact e ⟨e5.symm,by unfold k08;omega,by rw[e4],e3⟩
 have hr1:∀a∈D.hops,∀k,(rcvA D s1 a k).1=(rcvA D st a k).1:=fun a ha k=>by rw[T.rcv a ha k];split<;>rfl
 have hs2:∀a∈D.hops,∀k,(sndN D s1 a k).2=(sndN D st a k).2:=fun a ha k=>by rw[T.snd a ha k];split<;>rfl
 refine⟨fun b hb=>?_,fun hlast=>?_⟩
 ·obtain⟨b1,b2,b3⟩:=I.step r u b hu hb
  have hbn:=k8C b1;have hhop:(u,b)∈D.hops:=k0r.2 ⟨hun,b1⟩;have etw:tw D u w=k08 D u b:=by unfold tw k08;rw[if_neg (fun e3=>b3 e3.symm),b2]
  have hne0:tw D u w≠0:=by rw[etw];unfold k08;omega
  have hnew:=h.1.new r (Nat.le_refl _) u b hu hb;have hcond:∀a∈D.hops,∀k,(a.1=u/\tw D u w≠0/\k08 D u a.2=tw D u w/\k=0) ↔ (a=(u,b)/\k=0):=fun a ha k=>by
   constructor
   ·rintro⟨e1,_,e2,e3⟩
    rw[etw]at e2;exact⟨Prod.ext e1 (k2D b1 e2),e3⟩
   ·rintro⟨rfl,e3⟩
    exact⟨rfl,hne0,etw.symm,e3⟩
  have hB:Before D l x r (u,b) s1:=by
   refine⟨⟨fun y hy k hk=>?_,T.q,fun a ha k hk=>?_,hhld,fun a ha k hk=>?_,fun i hi c d h1 h2=>?_,fun a ha=>?_⟩,?_,fun a ha hne q hq=>?_⟩
   ·by_cases e:k=3
    ·subst e;rw[T.w3 y hy,if_neg (fun e=>hne0 e.2)]
    ·exact T.wt y hy k zz1
   ·have hn:=h.1.num a ha k hk
    rw[if_neg zz6]at hn;rw[hr1 a ha k,T.snd a ha k];by_cases e:a=(u,b)/\k=0
    ·rw[if_pos ((hcond a ha k).2 e),if_pos ⟨by rw[e.1],e.2⟩]
     dsimp only;exact zz1
    ·rw[if_neg (fun e2=>e ((hcond a ha k).1 e2)),if_neg (fun e2=>e ⟨(Option.some.inj e2.1).symm,e2.2⟩)]
     exact hn
   ·rw[hs2 a ha k];exact h.1.crd a ha k hk
   ·have hcd:(c,d)∈D.hops:=by
     obtain⟨d1,_,_⟩:=I.step i c d h1 h2;exact k0r.2 ⟨k2z G I hv i c h1,d1⟩
    rw[T.snd _ hcd 0,if_neg]
    ·exact h.1.new i zz1 c d h1 h2
    ·intro e
     have e1:=((hcond _ hcd 0).1 e).1;have e2:c=u:=congrArg Prod.fst e1;obtain⟨l1a,l1b⟩:=List.getElem?_eq_some_iff.1 h1;obtain⟨l2a,l2b⟩:=List.getElem?_eq_some_iff.1 hu;exact List.pairwise_iff_getElem.1 (List.nodup_iff_pairwise_ne.1 I.nodup) r i l2a l1a zz1 (by rw[l1b,l2b,e2])
   ·have ea:a=(u,b):=(Option.some.inj ha).symm
    subst ea;rw[T.snd _ hhop 0,if_pos ((hcond _ hhop 0).2 ⟨rfl,rfl⟩)];dsimp only;exact zz1
   ·obtain⟨rest,r1,r2⟩:=T.row (u,b) hhop
    refine⟨rest,?_,r2⟩;rw[r1,if_pos rfl];unfold out1;rw[if_neg hne0,k2S,etw,k1z b1,if_pos rfl];have e1:((st.node u).snd (k08 D u b) 0).1=D.start:=hnew;rw[e1];rfl
   ·obtain⟨rest,r1,r2⟩:=T.row a ha
    rw[r1]at hq;refine r2 q ?_;have e0:(if a.1=u then k1k (out1 D u (st.node u) (tw D u w) x) a.2 else[])=[]:=by
     by_cases e:a.1=u
     ·rw[if_pos e]
      unfold out1;rw[if_neg hne0,k2S,etw,k1z b1,if_neg (fun e2=>hne (Prod.ext e e2.symm))];rfl
     ·rw[if_neg e]
    rw[e0]at hq;simpa using hq
  have run:=(DelHops.run (D:=D) (A:=fun s=>After D l (r+1) (fun _ _=>[]) (fun u' b'=>if u'=(u,b).2/\b'=(k08 D (u,b).2 (u,b).1,tw D (u,b).2 x.dst.toNat,0) then[x] else[]) (fun b' k=>if b'=(u,b)/\k=0 then 1 else 0) s/\Holds D P S (M+6) (C+6) s) (B:=fun s=>Before D l x r (u,b) s/\Holds D P S (M+6) (C+6) s) (h:=(u,b))
   (fun s s' a hb' ha hne d=>⟨hb'.1.step G hb'.2 zz1 ha hne d,hb'.2.del G W hM2 ha d⟩)
   (fun s s' hb' d=>⟨hb'.1.data G hb'.2 hhop hp d,hb'.2.del G W hM2 hhop d⟩)
   (fun s s' a hb' ha d=>⟨hb'.1.step G hb'.2 zz1 ha d,hb'.2.del G W hM2 ha d⟩)
   (fun s hb'=>by obtain⟨_,⟨rest,e,_⟩,_⟩:=hb'.1;rw[e];simp) ⟨hB,K1⟩ t2).1 (by rw[List.take_length];exact hhop)
  have o:=run.1.1;have eW:(fun _ _=>[])=Wr l x (r+1):=by
   funext u' k;unfold Wr;rw[if_neg zz1]
  have hget:l.getD (r+1-1) 0=u:=by rw[Nat.add_sub_cancel,List.getD_eq_getElem?_getD,hu];rfl
  have eQ:(fun u' b'=>if u'=(u,b).2/\b'=(k08 D (u,b).2 (u,b).1,tw D (u,b).2 x.dst.toNat,0) then[x] else[])=Qr D l x (r+1):=by
   funext u' b';unfold Qr;rw[hget,hb];by_cases e:u'=b
   ·subst e
    by_cases e2:b'=(k08 D u' u,tw D u' x.dst.toNat,0)
    ·rw[if_pos ⟨rfl,e2⟩,if_pos ⟨zz1,rfl,e2⟩]
    ·rw[if_neg (fun e3=>e2 e3.2),if_neg (fun e3=>e2 e3.2.2)]
   ·rw[if_neg (fun e3=>e e3.1),if_neg (fun e3=>e (Option.some.inj e3.2.1).symm)]
  have eH:(fun(b':Nat×Nat) (k:Nat)=>if b'=(u,b)/\k=0 then(1:Int) else 0)=hRr l (r+1):=by
   funext b' k;unfold hRr;rw[Nat.add_sub_cancel,hu,hb];by_cases e:b'=(u,b)/\k=0
   ·rw[if_pos e,if_pos ⟨zz1,by rw[e.1],by rw[e.1],e.2⟩]
   ·rw[if_neg e,if_neg]
    rintro⟨_,e1,e2,e3⟩;exact e ⟨Prod.ext (Option.some.inj e1).symm (Option.some.inj e2).symm,e3⟩
  rw[eW,eQ,eH]at o;exact⟨o,hempty⟩
 ·have huw:u=w:=by
   have h4:=I.last;rw[show l.length-1=r by omega,hu]at h4;exact Option.some.inj h4
  have etw:tw D u w=0:=by unfold tw;rw[if_pos huw.symm]
  have hs:∀a∈D.hops,∀k,sndN D s1 a k=sndN D st a k:=fun a ha k=>by rw[T.snd a ha k,if_neg (fun e=>e.2.1 etw)]
  have hA:After D l (r+1) (Wf x w) (fun _ _=>[]) (fun _ _=>0) s1:=by
   refine⟨⟨fun y hy k hk=>?_,T.q,fun a ha k hk=>?_,hhld,fun a ha k hk=>?_,fun i hi c d h1 h2=>?_,fun a ha=>by cases ha⟩,fun a ha q hq=>?_⟩
   ·unfold Wf
    by_cases e:k=3
    ·subst e
     rw[T.w3 y hy];by_cases e2:y=w
     ·rw[if_pos ⟨by rw[e2,huw],etw⟩,if_pos ⟨e2,rfl⟩]
     ·rw[if_neg (fun e3=>e2 (by rw[e3.1,huw])),if_neg (fun e3=>e2 e3.1)]
    ·rw[if_neg (fun e3=>e e3.2)];exact T.wt y hy k zz1
   ·rw[hr1 a ha k,hs a ha k];exact h.1.num a ha k hk
   ·rw[hs a ha k];exact h.1.crd a ha k hk
   ·have:=(List.getElem?_eq_some_iff.1 h2).1
    omega
   ·obtain⟨rest,r1,r2⟩:=T.row a ha
    rw[r1]at hq;refine r2 q ?_;have e0:(if a.1=u then k1k (out1 D u (st.node u) (tw D u w) x) a.2 else[])=[]:=by
     unfold out1;rw[if_pos etw];split<;>rfl
    rw[e0]at hq;simpa using hq
  have run:=DelHops.keep (D:=D) (A:=fun s=>After D l (r+1) (Wf x w) (fun _ _=>[]) (fun _ _=>0) s/\Holds D P S (M+6) (C+6) s) (fun s s' a hb' ha d=>⟨hb'.1.step G hb'.2 zz1 ha d,hb'.2.del G W hM2 ha d⟩) ⟨hA,K1⟩ t2;exact⟨run.1.1,hempty⟩
theorem k8I(G:Good D)(I:IsPath D v w l)(hv:v<D.nodes){y:Int}{s':NSt}(hvw:v≠w)(hn:∀u,u<D.nodes->st.node u=nst0 D)(hl:∀a∈D.hops,st.link a=[]){c:Int}(t:k6p D v w 0 y (st.node v) c s'):c=0/\Solo D l ⟨v,w,(0:Nat),y⟩ 0 { st with node:=upd st.node v s' }:=by
 have hq:=G.q0;rcases t with⟨h,_⟩|⟨_,h,_⟩|⟨_,_,rfl,rfl⟩
 ·exact absurd h.symm hvw
 ·rw[hn v hv]at h;simp[nst0]at h;omega
 ·have hsn:∀a∈D.hops,∀k,sndN D { st with node:=upd st.node v { st.node v with waits:=upd (st.node v).waits 0 ((st.node v).waits 0++[⟨v,w,(0:Nat),y⟩]) } } a k=((D.start:Int),(D.start:Int)+D.room):=fun a ha k=>by
   show sndN D ⟨_,st.link,st.ticks⟩ a k=_;rw[k65 (a:=a)];split
   ·rw[hn v hv];rfl
   ·unfold sndN;rw[hn _ (k0O ha).1];rfl
  have hrc:∀a∈D.hops,∀k,rcvA D { st with node:=upd st.node v { st.node v with waits:=upd (st.node v).waits 0 ((st.node v).waits 0++[⟨v,w,(0:Nat),y⟩]) } } a k=((D.start:Int),0):=fun a ha k=>by
   show rcvA D ⟨_,st.link,st.ticks⟩ a k=_;rw[k46];split
   ·rw[hn v hv];rfl
   ·unfold rcvA;rw[hn _ (k0O ha).2];rfl
  refine⟨rfl,⟨fun u hu k hk=>?_,fun u hu a=>?_,fun a ha k hk=>?_,fun a ha k hk=>?_,fun a ha k hk=>?_,fun i hi a b h1 h2=>?_,fun a ha=>by cases ha⟩,hl⟩
  ·show(upd st.node v _ u).waits k=_
   unfold Wr;rw[I.first];by_cases e:u=v
   ·subst e
    rw[k04];show upd (st.node u).waits 0 _ k=_;by_cases e2:k=0
    ·subst e2;rw[k04,hn u hu,if_pos ⟨rfl,rfl,rfl⟩];rfl
    ·rw[k06 _ _ e2,hn u hu,if_neg (fun e3=>e2 e3.2.2)];rfl
   ·rw[k06 _ _ e,hn u hu,if_neg (fun e3=>e (Option.some.inj e3.2.1).symm)];rfl
  ·show(upd st.node v _ u).q a=_
   unfold Qr;rw[if_neg zz1];by_cases e:u=v
   ·subst e;rw[k04,hn u hu];rfl
   ·rw[k06 _ _ e,hn u hu];rfl
  ·rw[hsn a ha k,hrc a ha k,if_neg zz6];simp
  ·rw[hrc a ha k];unfold hRr;rw[if_neg zz1]
  ·rw[hsn a ha k];exact Int.le_refl _
  ·have hab:(a,b)∈D.hops:=by
    obtain⟨d1,_,_⟩:=I.step i a b h1 h2;exact k0r.2 ⟨k2z G I hv i a h1,d1⟩
   rw[hsn _ hab 0]
end
end
end Go.Proofs.YtdopmlopafgonaaGreatDoor.Own
namespace Go.Proofs.YtdopmlopafgonaaGreatDoor.Own
open Go.RowKit Go.Proofs.YtdopmlopafgonaaGreatDoorW.PrintWords Go.Proofs.YtdopmlopafgonaaGreatDoorW.PrintLast Go.Proofs.YtdopmlopafgonaaGreatDoorW.PrintMore
theorem Good.ways{D:PlanD}(G:Good D):∃P,Ways D P:=by
 have h:∀v w,∃l,v<D.nodes->w<D.nodes->IsPath D v w l:=fun v w=>by
  by_cases hv:v<D.nodes
  ·by_cases hw:w<D.nodes
   ·obtain⟨l,hl⟩:=G.path v w hv hw;exact⟨l,fun _ _=>hl⟩
   ·exact⟨[],fun _ h=>absurd h hw⟩
  ·exact⟨[],fun h=>absurd h hv⟩
 exact⟨fun v w=>Classical.choose (h v w),fun v w hv hw=>Classical.choose_spec (h v w) hv hw⟩
theorem k5c{D:PlanD}{P:Nat->Nat->List Nat}(G:Good D)(W:Ways D P):Holds D P [] (D.start:Int) 0 (fst0 D):=Holds.new G W (fun _ _=>rfl) (fun _ _=>rfl) rfl
section
variable{w:World}{o:Nat->Col}{D:PlanD}{F:FTab}{st:FSt}{P:Nat->Nat->List Nat}{S:List Pk}{M:Int}{C:Nat}
theorem k4r(H:FabAt w o D F st)(G:Good D)(W:Ways D P)(hf:Fresh o w)(K:Holds D P S M C st)(hT:Tab w)(h0:o 0=.fix)(hM:M+6<=D.start+30000)(hC:C+6<=9000) :
 Calls Tryz.prog 19 #[.pointer (some ⟨F.g,0,none⟩)] w fun e w'=>e=.returned (.tuple #[])/\∃o' st',k8b D st st'/\Holds D P S (M+6) (C+6) st'/\FabAt w' o' D F st'/\Tr k0W o w o' w':=by
 have hs1:=G.s1;have htk:=K.tk;refine(k9Q (M+6) (C+6) (fun s=>Holds D P S (M+6) (C+6) s) (fun s h=>⟨h.fok,h.lok⟩) (fun s s' a h ha d=>h.del G W hM ha d) (fun s' t=>K.tick G W zz1 t) M C H G hf K.fok K.lok hT h0 zz1 hC (fun v hv=>by have:=htk.1 v hv;omega) (by have:=htk.2;omega)).mono ?_;rintro e w' ⟨o',st',rfl,h1,h2,h3,h4⟩;exact⟨rfl,o',st',h1,h2,h3,h4⟩
end
def planK:PlanD:=k1A [0] 1 0 0
theorem good_planK:Good planK:=k33 [0] 1 0 0 zz1
theorem k5u:planK.hops=[(0,1),(1,0)]:=by decide +kernel
theorem k1G:planK.nodes=2:=by decide +kernel
theorem k31:planK.lanes=1:=by decide +kernel
theorem k7i:planK.start=0:=by decide +kernel
theorem k89:planK.bs 0=[1]/\planK.bs 1=[0]/\planK.nxt 0 1=1:=by decide +kernel
theorem k3t:IsPath planK 0 1 [0,1] where
 len:=by rw[k1G];decide
 pos:=by decide
 first:=rfl
 last:=rfl
 nodup:=by decide
 step:=fun i a b h1 h2=>by
  obtain rfl:i=0:=by
   have:=(List.getElem?_eq_some_iff.1 h2).1;simp at this;exact zz1
  simp at h1 h2;subst h1;subst h2;exact⟨by rw[k89.1];simp,k89.2.2,zz7⟩
def pkK:Pk:=⟨((0:Nat):Int),((1:Nat):Int),((0:Nat):Int),7⟩
theorem kbB:PkIn planK 0 pkK:=⟨0,1,rfl,rfl,by rw[k1G];omega,by rw[k1G];omega,zz1,rfl,by show(0:Int)<=7;omega,by show(7:Int)<=4294967295;omega⟩
section
variable{w:World}{o:Nat->Col}
theorem k4k(hf:Fresh o w)(hT:Tab w)(ho:∀b,b<w.heap.size->o b=.fix):Calls Tryz.prog 5 #[] w fun e w'=>e=.returned (.bool true)/\Below w.heap.size w w':=by
 obtain⟨P,W⟩:=good_planK.ways;have h0:o 0=.fix:=ho 0 hT.lt;have HO:=Ab ho;clear ho;have HG:=Ac (Good planK/\Ways planK P/\Fresh o w/\Tab w/\o 0=.fix) (⟨good_planK,W,hf,hT,h0⟩);obtain⟨w1,hw1⟩:∃w1,w1=w.alloc (.cells #[.int .u8 0] 5):=⟨_,rfl⟩;have L1:=Ac (Below w.heap.size w w1) (by rw[hw1];exact(Below.refl _ w).alloc (Nat.le_refl _) _);have Z1:w1.heap[w.heap.size]? = some (.cells #[.int .u8 0] 5 (0,0)):=by rw[hw1];exact heap_alloc_new w _
 have cp:Calls Tryz.prog 15 #[.slice (some ⟨w.heap.size,0,none⟩) 1 1,.int .u8 1,.int .u8 0,.int .u16 0] w1 _:=k5e (some ⟨w.heap.size,0,none⟩) 1 [0] zz6 1 0 0 w1 zz1 zz1 zz1 ⟨rfl,by simp[ints],fun _=>⟨_,rfl,fun j p hp=>⟨[.int .u8 p],rfl,rfl,fun i u hu=>(by
  have hj:j=0:=by have:=(List.getElem?_eq_some_iff.1 hp).1;simp[ints]at this;exact this
  have hi:i=0:=by have:=(List.getElem?_eq_some_iff.1 hu).1;simp at this;exact this
  subst hj hi;simp[ints]at hp hu;subst hp hu;rw[Addr.add_lit];exact(k00 Z1 0).trans rfl)⟩⟩⟩ (by simp[ints])
 clear W hf hT h0 Z1;have HW:=Ab hw1;go_enter Tryz.func5,Tryz.ntmps5
 go_wp2_with fail
 go_at_call 15;rw[<- HW.1];refine cp.mono ?_;rintro e w2 ⟨v2,rfl,hp,hb⟩;have P2:=Ac (PlanV w2 _ v2 planK/\Below w.heap.size w w2) (⟨hp,L1.1.trans (hb.mono L1.1.size)⟩);clear hp hb cp HW hw1
 go_wp2_with fail
 go_at_call 14;refine(k9B (o:=o) _ _ P2.1.1 HG.1.1 (HG.1.2.2.1.blw P2.1.2)).mono ?_;rintro e w3 ⟨F,o3,rfl,hF,hN⟩;have K3:=Ac (FabAt w3 o3 planK F (fst0 planK)/\NewB w.heap.size o w o3 w3) (⟨hF,⟨P2.1.2.trans (hN.below.mono P2.1.2.size),fun b hb=>hN.own b (Nat.lt_of_lt_of_le hb P2.1.2.size),hN.fresh⟩⟩);clear hF hN;have n0:0<planK.nodes:=by rw[k1G];omega
 have n1:1<planK.nodes:=by rw[k1G];omega
 have hp0:planK.hops[0]? = some (0,1):=by rw[k5u];rfl
 have HP0:=Ab hp0;clear hp0
 go_wp2_with(first
  |(go_at_call 18;refine(k4x ((K3.1.1.blw K3.1.2.fresh B4.1).node 1 n1)).mono ?_;rintro e w5 ⟨rfl,rfl⟩)
  |(go_at_call 17;refine(k24 K3.1.1 HG.1.1 0 (0,1) HP0.1).mono ?_;rintro e w4 ⟨rfl,hb4⟩;have B4:=Ab hb4;clear hb4)
  |(go_at_call 16;refine(k28 (K3.1.1.blw K3.1.2.fresh B4.1) HG.1.1 1 n1).mono ?_;rintro e w5 ⟨rfl,rfl⟩)
  |(go_at_call 16;refine(k28 K3.1.1 HG.1.1 0 n0).mono ?_;rintro e w5 ⟨rfl,rfl⟩))
 have T4:=Ac (Fresh o3 w4/\Tab w4/\o3 0=.fix/\Below w.heap.size w w4) (⟨K3.1.2.fresh.blw B4.1,(HG.1.2.2.2.1.below K3.1.2.below).below B4.1,(K3.1.2.own 0 HG.1.2.2.2.1.lt).trans HG.1.2.2.2.2,K3.1.2.below.trans (B4.1.mono K3.1.2.below.size)⟩);have TB:=Ab (fun(W:World) (o':Nat->Col) (t:Tr k0W o3 w4 o' W)=>(show Fresh o' W/\Tab W/\o' 0=.fix/\Below w.heap.size w W from
  ⟨t.fresh,T4.1.2.1.tr t (by rw[T4.1.2.2.1];exact k0R),(t.own 0 T4.1.2.1.lt).trans T4.1.2.2.1,
   ⟨t.only.os.trans T4.1.2.2.2.os,t.only.tape.trans T4.1.2.2.2.tape,t.only.output.trans T4.1.2.2.2.output,Nat.le_trans T4.1.2.2.2.size t.only.size,fun b hb=>(t.only.keep b (Nat.lt_of_lt_of_le hb T4.1.2.2.2.size) (by rw[K3.1.2.own b hb,HO.1 b hb];exact k0R)).trans (T4.1.2.2.2.block b hb)⟩⟩))
 have H4:=Ac (FabAt w4 o3 planK F (fst0 planK)/\Holds planK P [] (planK.start:Int) 0 (fst0 planK)) (⟨K3.1.1.blw K3.1.2.fresh B4.1,k5c HG.1.1 HG.1.2.1⟩);have l0:0<planK.lanes:=by rw[k31];omega
 refine(k5y 0 1 0 7 (planK.start:Int) 0 H4.1.1 HG.1.1 T4.1.1 H4.1.2.fok n0 n1 l0).mono ?_;rintro e w6 ⟨c,o6,s6,rfl,hr,hF6,ht6⟩;obtain⟨rfl,hs6⟩:=k8I (st:=fst0 planK) HG.1.1 k3t n0 (show(0:Nat)≠1 by omega) (fun _ _=>rfl) (fun _ _=>rfl) hr;have hh6:=H4.1.2.inject HG.1.1 HG.1.2.1 n0 n1 l0 zz1 zz1 hr;rw[if_pos rfl]at hh6;have K6:=Ac (Solo planK [0,1] pkK 0 _/\Holds planK P [pkK] (planK.start:Int) 0 _/\FabAt w6 o6 planK F { fst0 planK with node:=upd (fst0 planK).node 0 s6 }/\Tr k0W o3 w4 o6 w6) (⟨hs6,hh6,hF6,ht6.mono (fun c h=>.inl ⟨0,h⟩)⟩);clear hr hF6 ht6 hs6 hh6;obtain⟨st6,hst6⟩:∃st6,st6 = { fst0 planK with node:=upd (fst0 planK).node 0 s6 }:=⟨_,rfl⟩;rw[<- hst6]at K6;clear hst6;have hst:(planK.start:Int)=0:=by rw[k7i];rfl
 have HST:=Ab hst;clear hst
 go_wp2_with(first
  |(go_at_call 19;refine(k4r K7.1.2.2.1 HG.1.1 HG.1.2.1 (TB.1 _ _ K7.1.2.2.2).1 K7.1.2.1 (TB.1 _ _ K7.1.2.2.2).2.1 (TB.1 _ _ K7.1.2.2.2).2.2.1 zz1 zz1).mono ?_;rintro e w8 ⟨rfl,o8,st8,hr8,hh8,hF8,ht8⟩;have hs8:=(k5r HG.1.1 HG.1.2.1 k3t n0 n1 rfl kbB K7.1.1 (u:=1) rfl K7.1.2.1 (by have:=HST.1;omega) zz1 hr8).2 rfl;have K8:=Ac ((One planK [0,1] 2 (Wf pkK 1) (fun _ _=>[]) none (fun _ _=>0) st8/\∀a∈planK.hops,st8.link a=[])/\_/\_/\Tr k0W o3 w4 o8 w8) (⟨hs8,hh8,hF8,K7.1.2.2.2.trans ht8⟩);clear hr8 hh8 hF8 ht8 hs8)
  |(go_at_call 19;refine(k4r K6.1.2.2.1 HG.1.1 HG.1.2.1 (TB.1 _ _ K6.1.2.2.2).1 K6.1.2.1 (TB.1 _ _ K6.1.2.2.2).2.1 (TB.1 _ _ K6.1.2.2.2).2.2.1 zz1 zz1).mono ?_;rintro e w7 ⟨rfl,o7,st7,hr7,hh7,hF7,ht7⟩;have hs7:=(k5r HG.1.1 HG.1.2.1 k3t n0 n1 rfl kbB K6.1.1 (u:=0) rfl K6.1.2.1 (by have:=HST.1;omega) zz1 hr7).1 1 rfl;have K7:=Ac (Solo planK [0,1] pkK 1 st7/\_/\_/\Tr k0W o3 w4 o7 w7) (⟨hs7,hh7,hF7,K6.1.2.2.2.trans ht7⟩);clear hr7 hh7 hF7 ht7 hs7))
 have hc:(st8.node 1).waits 3=[pkK]:=K8.1.1.1.wt 1 n1 3 zz1;have Q8:=Ac ((∀v,v<planK.nodes->∀k,k<planK.lanes->(st8.node v).waits k=[])/\(∀v,v<planK.nodes->∀a,(st8.node v).q a=[])) (⟨fun v hv k hk=>by
  rw[k31]at hk;rw[K8.1.1.1.wt v hv k zz1];unfold Wf;rw[if_neg (fun e=>by omega)],fun v hv a=>K8.1.1.1.qu v hv a⟩)
 have HC:=Ab hc;have HL:=Ac (planK.hops.length*planK.lanes=2) (by rw[k5u,k31];rfl);have FR:=Ab (TB.1 _ _ K8.1.2.2.2);clear hc
 go_wp2_with(first
  |(go_at_call 21;refine(k6G _ _ (K8.1.2.2.1.blw FR.1.1 L10.1) HG.1.1 (FR.1.1.blw L10.1) K8.1.2.1.fok K8.1.1.2).mono ?_;rintro e w11 ⟨V,l,g,rfl,hr,_,hb⟩;rw[HL.1]at hr;obtain⟨A11,k11,rfl,_⟩:=hr.size;have L11:=Ac (Below w8.heap.size w8 w11) (L10.1.trans (hb.mono L10.1.size));clear hr hb)
  |(go_at_call 20;refine(k8e _ _ (K8.1.2.2.1.blw FR.1.1 L9.1) HG.1.1 (FR.1.1.blw L9.1) K8.1.2.1.fok Q8.1.1 Q8.1.2 K8.1.1.2).mono ?_;rintro e w10 ⟨rfl,hb⟩;have L10:=Ac (Below w8.heap.size w8 w10) (L9.1.trans (hb.mono L9.1.size));clear hb)
  |(go_at_call 8;refine(k9c 1 K8.1.2.2.1 HG.1.1 n1 (by rw[HC.1];simp)).mono ?_;rintro e w9 ⟨v9,g9,rfl,hr,hb,_⟩;rw[HC.1]at hr;obtain⟨A9,k9,rfl,_⟩:=hr.size;have L9:=Ab hb;clear hr hb))
 go_ret;exact⟨rfl,FR.1.2.2.2.trans (L11.1.mono FR.1.2.2.2.size)⟩
end
end Go.Proofs.YtdopmlopafgonaaGreatDoor.Own
