/- TopOrder: of each flow what came is some of what was injected, in its order (a part of the walks and of the plain laws). -/
import Derived.Test.YtdopmlopafgonaaGreatDoorD0
import Derived.Test.YtdopmlopafgonaaGreatDoorD31
set_option linter.unusedVariables false
set_option linter.unusedSimpArgs false
set_option maxHeartbeats 4000000
set_option maxRecDepth 100000
namespace Go.Proofs.YtdopmlopafgonaaGreatDoor.Own
open Go.RowKit Go.Proofs.YtdopmlopafgonaaGreatDoorW.PrintWords Go.Proofs.YtdopmlopafgonaaGreatDoorW.PrintLast Go.Proofs.YtdopmlopafgonaaGreatDoorW.PrintMore
def k1m(f:Nat->Bool):Nat->Nat
 |0=>0
 |k+1=>if f k then k1m f k ||| 2 ^ k else k1m f k
theorem k3f(f:Nat->Bool):∀k,k<=6->k1m f k<64
 |0,_=>by show 0<64;omega
 |k+1,h=>by
  have ih:=k3f f k zz1;unfold k1m;split
  ·exact Nat.or_lt_two_pow (n:=6) ih (Nat.pow_lt_pow_right zz7 zz1)
  ·exact ih
theorem k1V(f:Nat->Bool)(j:Nat):∀k,(k1m f k).testBit j=(decide (j<k) && f j)
 |0=>by simp[k1m]
 |k+1=>by
  have ih:=k1V f j k;unfold k1m;by_cases e:j=k
  ·subst e
   split
   ·rename_i h
    rw[Nat.testBit_or,ih,Nat.testBit_two_pow];simp[h]
   ·rename_i h
    rw[ih];simp at h ⊢;simp[h]
  ·have e1:decide (j<k+1)=decide (j<k):=by
    by_cases h:j<k
    ·rw[decide_eq_true h,decide_eq_true zz1]
    ·rw[decide_eq_false h,decide_eq_false zz1]
   split
   ·rw[Nat.testBit_or,ih,Nat.testBit_two_pow,e1]
    have:decide (k=j)=false:=decide_eq_false (fun h=>e h.symm);simp[this]
   ·rw[ih,e1]
def mayB(st:NSt)(i tt k:Nat):Bool:=!(st.q (i,tt,k)).isEmpty && (tt == 0 || decide ((st.snd tt k).1<(st.snd tt k).2))
def mayM(D:PlanD)(st:NSt)(i tt:Nat):Nat:=k1m (mayB st i tt) D.lanes
structure k9R(D:PlanD)(v:Nat)(st:NSt):Prop where
 s0:∀i k,1<=i->i<np D v->k<D.lanes->0<=(st.snd i k).1
 s1:∀i k,1<=i->i<np D v->k<D.lanes->(st.snd i k).1<=(st.snd i k).2
 s2:∀i k,1<=i->i<np D v->k<D.lanes->(st.snd i k).2<=(st.snd i k).1+8
 s3:∀i k,1<=i->i<np D v->k<D.lanes->(st.snd i k).1<=1000000
 r0:∀i k,1<=i->i<np D v->k<D.lanes->0<=(st.rcv i k).1
 r1:∀i k,1<=i->i<np D v->k<D.lanes->(st.rcv i k).1<=1000000
 r2:∀i k,1<=i->i<np D v->k<D.lanes->0<=(st.rcv i k).2
 r3:∀i k,1<=i->i<np D v->k<D.lanes->(st.rcv i k).2<=D.room
theorem SndSt.blw{w w':World}{g:Nat}{s l:Int}(h:SndSt w w g s l)(k:SndSt w w' g s l):Below w.heap.size w w':=⟨k.2.os,k.2.tape,k.2.output,k.2.size,fun b hb=>by
 by_cases e:b=g
 ·subst e;rw[h.1,k.1]
 ·exact k.2.keep b hb e⟩
theorem RcvSt.blw{w w':World}{g:Nat}{x h r:Int}(a:RcvSt w w g x h r)(k:RcvSt w w' g x h r):Below w.heap.size w w':=⟨k.2.os,k.2.tape,k.2.output,k.2.size,fun b hb=>by
 by_cases e:b=g
 ·subst e;rw[a.1,k.1]
 ·exact k.2.keep b hb e⟩
section
variable{w:World}{o:Nat->Col}{v:Nat}{D:PlanD}{T:NTab}{st:NSt}
theorem k6H(i tt:Nat)(H:NodeAt w o v D T st)(G:Good D)(hv:v<D.nodes)(hf:Fresh o w)(hi:i<np D v)(hto:tt<np D v)(N:k9R D v st) :
 Calls Tryz.prog 127 #[.pointer (some ⟨T.g,0,none⟩),.int .i64 i,.int .i64 tt] w fun e w'=>e=.returned (.int .u16 (mayM D st i tt:Nat))/\Below w.heap.size w w':=by
 have hl3:=G.l1;have hnp:=k2t G hv;have H0:=Ac (_/\_/\_) (⟨H,hf,N⟩);have b0:=fun j=>k00 H.blk j
 clear H hf N G;go_enter Tryz.func127,Tryz.ntmps127;go_wp2;clear b0
 go_loopw [7,14] (fun s7 s14 wr=>∃k:Nat,k<=D.lanes/\s14=.int .i64 k/\s7=.int .u16 (k1m (mayB st i tt) k:Nat)/\k07 (Below w.heap.size w wr)) (fun _ s14 _=>D.lanes-ixOf s14)
 case atStart=>exact⟨0,zz1,rfl,rfl,⟨Below.refl _ _⟩⟩
 case round=>
  obtain⟨k,hk,rfl,rfl,R⟩:=hrel;by_cases hlt:k<D.lanes
  ·have e1:(k:Int)<(D.lanes:Int):=by omega
   obtain⟨H,hf,N⟩:=H0.1;have H1:=H.blw hf R.1;have b0:=fun j=>k00 H1.blk j
   have hlen:=Ab (k4s (k:=(D.lanes:Nat)) i tt k H1.rings zz1 zz1 zz1);have hor:=k9a ⟨k1m (mayB st i tt) k,k3f _ k zz1⟩ ⟨k,zz1⟩;simp only at hor;have hsucc:k1m (mayB st i tt) (k+1)=if mayB st i tt k then k1m (mayB st i tt) k ||| 2 ^ k else k1m (mayB st i tt) k:=rfl
   by_cases hq:st.q (i,tt,k)=[]
   ·have hb:mayB st i tt k=false:=by unfold mayB;rw[hq];rfl
    have hs:k1m (mayB st i tt) k=k1m (mayB st i tt) (k+1):=by rw[hsucc,hb];rfl
    have hz:((st.q (i,tt,k)).length:Int)=0:=by rw[hq];rfl
    rw[hz]at hlen;have HS:=Ab hs;clear hs hsucc hb hz hq hor H hf N H1
    go_wp2_with(go_at_call 75;refine hlen.1.mono ?_;rintro e w2 ⟨rfl,rfl⟩)
    refine⟨⟨k+1,zz1,rfl,by rw[<- HS.1],⟨R.1⟩⟩,?_⟩;exact zz19
   ·have hz:(((st.q (i,tt,k)).length:Int) == 0)=false:=by
     have:(st.q (i,tt,k)).length≠0:=fun h=>hq (List.eq_nil_of_length_eq_zero h)
     simp;exact hq
    have hne:(!(st.q (i,tt,k)).isEmpty)=true:=by simpa using hq
    obtain⟨L,hL⟩:∃L,L=(st.q (i,tt,k)).length:=⟨_,rfl⟩;rw[<- hL]at hz hlen;clear hL;by_cases ht0:tt=0
    ·have hb:mayB st i tt k=true:=by unfold mayB;rw[hne,show(tt == 0)=true from by simp[ht0]];rfl
     rw[hb,if_pos rfl]at hsucc;rw[<- hsucc]at hor;have e2:((tt:Int) == 0)=true:=by simp;omega
     clear ht0 hsucc hb hq hne H hf N H1
     go_wp2_with(go_at_call 75;refine hlen.1.mono ?_;rintro e w2 ⟨rfl,rfl⟩)
     refine⟨⟨k+1,zz1,rfl,rfl,R⟩,?_⟩;exact zz19
    ·have e2:((tt:Int) == 0)=false:=by simp;omega
     have h1t:1<=tt:=zz1
     obtain⟨p0,p1,p2⟩:=H1.port tt hto;obtain⟨l0,l1⟩:=H1.lane tt k h1t hto hlt;rw[show k1v D T tt=.slice (some ⟨T.lb tt,T.lo tt,none⟩) D.lanes (T.lc tt) from if_neg ht0]at p1;have i2:(tt:Int)<(np D v:Nat):=by omega
     obtain⟨s,hs⟩:∃s,s=(st.snd tt k).1:=⟨_,rfl⟩;obtain⟨l,hl⟩:∃l,l=(st.snd tt k).2:=⟨_,rfl⟩;have hsn:=H1.sndSt tt k h1t hto hlt;have x0:=N.s0 tt k h1t hto hlt;have x1:=N.s1 tt k h1t hto hlt;have x2:=N.s2 tt k h1t hto hlt;have x3:=N.s3 tt k h1t hto hlt;rw[<- hs,<- hl]at hsn;rw[<- hs]at x0 x1 x2 x3;rw[<- hl]at x1 x2;have HSN:=Ab hsn;have hb:mayB st i tt k=decide (s<l):=by
      unfold mayB;rw[hne,<- hs,<- hl,show(tt == 0)=false from by simp[ht0]];rfl
     clear hs hl hsn hq hne H hf N H1;by_cases hsl:s<l
     ·have e3:decide (0<l-s)=true:=decide_eq_true zz1
      rw[hb,decide_eq_true hsl,if_pos rfl]at hsucc;rw[<- hsucc]at hor;clear hsucc hb
      go_wp2_with(first
       |(go_at_call 75;refine hlen.1.mono ?_;rintro e w2 ⟨rfl,rfl⟩)
       |(go_at_call 79;refine(k1t _ s l _ _ HSN.1 x0 x1 x2 zz1).mono ?_;rintro e w3 ⟨rfl,h3⟩;have B3:=Ab (HSN.1.blw h3);clear h3))
      refine⟨⟨k+1,zz1,rfl,rfl,⟨R.1.trans (B3.1.mono R.1.size)⟩⟩,?_⟩;exact zz19
     ·have e3:decide (0<l-s)=false:=decide_eq_false zz1
      rw[hb,decide_eq_false hsl,if_neg zz6]at hsucc;have HS:=Ab hsucc.symm;clear hsucc hb hor
      go_wp2_with(first
       |(go_at_call 75;refine hlen.1.mono ?_;rintro e w2 ⟨rfl,rfl⟩)
       |(go_at_call 79;refine(k1t _ s l _ _ HSN.1 x0 x1 x2 zz1).mono ?_;rintro e w3 ⟨rfl,h3⟩;have B3:=Ab (HSN.1.blw h3);clear h3))
      refine⟨⟨k+1,zz1,rfl,by rw[<- HS.1],⟨R.1.trans (B3.1.mono R.1.size)⟩⟩,?_⟩;exact zz19
  ·have e1:¬(k:Int)<(D.lanes:Int):=by omega
   obtain rfl:k=D.lanes:=by omega
   go_wp2;go_ret;exact⟨rfl,R.1⟩
end
section
variable{w:World}{o:Nat->Col}{c d:Col}{g n:Nat}{p k:Int}{q:Way->List Pk}
def kdr(w:World)(o:Nat->Col)(c d:Col)(g:Nat)(p k:Int)(n:Nat)(q:Way->List Pk)(a:Way)(x:Pk)(e:Ending)(w':World):Prop:=
 ∃b o' q',e=.returned (.bool b)/\Tr (fun y=>y=c\/y=d) o w o' w'/\RingsAt w' o' c d g p k n q'/\(q'=updw q a (q a++[x])\/(q'=q/\∃a,q a≠[]))
theorem k5p(i j m:Nat)(x:Pk)(hf:Fresh o w)(hcd:c≠d)(hcj:c≠.junk)(hdj:d≠.junk)(H:RingsAt w o c d g p k n q)(hn:0<n)(hi:(i:Int)<p)(hj:(j:Int)<p)(hm:(m:Int)<k) :
 Calls Tryz.prog 121 #[.pointer (some ⟨g,0,none⟩),.int .i64 i,.int .i64 j,.int .i64 m,.agg #[.int .i64 x.src,.int .i64 x.dst,.int .i64 x.lane,.int .u32 x.body]] w (kdr w o c d g p k n q (i,j,m) x):=by
 obtain⟨hg,X,hh,hp,hX,hpk⟩:=id H
 cases hl:X.l with
 |nil=>
  rw[hl]at hp;refine(k4C i j m x hf hh hp hX H hi hj hm).mono ?_;rintro e w' ⟨rfl,hb⟩;refine⟨false,o,q,rfl,Tr.below hf hb,H.blw hb,.inr ⟨rfl,?_⟩⟩;obtain⟨_,_,_,_,_,_,_,_,_,_,_,_,_,h5,_⟩:=hp;have h0:X.f 0≠none:=fun e=>by have:=(h5 0).2 ⟨hn,e⟩;cases this
  obtain⟨a,ha⟩:=hX.all 0 hn h0;exact⟨a,fun e=>by have h1:=hX.len a;have h2:=List.length_pos_of_mem ha;rw[e,List.length_nil]at h1;omega⟩
 |cons s l'=>
  rw[hl]at hp;refine(k5H i j m x hf hcd hcj hdj hg hpk hh hl hp hX H hi hj hm).mono ?_;rintro e w' ⟨rfl,o',t,r⟩;exact⟨true,o',_,rfl,t,r,.inl rfl⟩
theorem RingsAt.len_le(H:RingsAt w o c d g p k n q)(a:Way):(q a).length<=200:=by
 obtain⟨hg,X,hh,hp,hX,hpk⟩:=H;have h1:=k1W (X.qs a) (List.range n) (hX.nodup _) (fun y hy=>List.mem_range.2 (hX.lt _ y hy));rw[List.length_range,hX.len]at h1;have:=hp.len;exact zz1
theorem k3e(i j m:Nat)(x:Pk)(r:List Pk)(hf:Fresh o w)(hcd:c≠d)(hcj:c≠.junk)(hdj:d≠.junk)(H:RingsAt w o c d g p k n q)(hi:i<16)(hj:j<16)(hm:m<3)(hq:q (i,j,m)=x :: r) :
 Calls Tryz.prog 129 #[.pointer (some ⟨g,0,none⟩),.int .i64 i,.int .i64 j,.int .i64 m] w fun e w'=>e=.returned (.tuple #[x.agg,.bool true])/\Tr (fun y=>y=c\/y=d) o w o w'/\RingsAt w' o c d g p k n (updw q (i,j,m) r):=by
 by_cases hz:r=[]
 ·exact k52 i j m x r hf hcd hcj hdj H hi hj hm hq hz
 ·exact k4T i j m x r hf hcd hcj hdj H hi hj hm hq hz
end
def PkIn(D:PlanD)(k:Nat)(x:Pk):Prop:=∃s d:Nat,x.src=(s:Nat)/\x.dst=(d:Nat)/\s<D.nodes/\d<D.nodes/\s≠d/\x.lane=(k:Nat)/\0<=x.body/\x.body<=4294967295
def dstN(x:Pk):Nat:=x.dst.toNat
def k70(D:PlanD)(st:NSt):Prop:=∀k,k<D.lanes->∀x∈st.waits k,PkIn D k x
def k43(st:NSt)(k:Nat):Nat->Nat
 |0=>0
 |j+1=>k43 st k j+(st.q (0,j,k)).length
def k86(D:PlanD)(v k:Nat)(st st':NSt):Prop:=
 (D.room<=k43 st k (np D v)/\st'=st)\/(k43 st k (np D v)<D.room/\st.waits k=[]/\st'=st) \/
   ∃x r,k43 st k (np D v)<D.room/\st.waits k=x :: r/\∃q',st' = { st with waits:=upd st.waits k r,q:=q' }/\(q'=updw st.q (0,tw D v (dstN x),k) (st.q (0,tw D v (dstN x),k)++[x])\/(q'=st.q/\∃a,st.q a≠[]))
def FedTo(D:PlanD)(v:Nat)(st:NSt):Nat->NSt->Prop
 |0,st'=>st'=st
 |k+1,st'=>∃s,FedTo D v st k s/\k86 D v k s st'
section
variable{w:World}{o:Nat->Col}{v:Nat}{D:PlanD}{T:NTab}{st:NSt}
theorem NodeAt.rings_n(H:NodeAt w o v D T st)(G:Good D)(hv:v<D.nodes):0<np D v*D.lanes*D.room:=Nat.mul_pos (Nat.mul_pos (by unfold np;omega) G.l0) G.r0
def Fed(w:World)(o:Nat->Col)(v:Nat)(D:PlanD)(T:NTab)(st:NSt)(n:Nat)(w':World)(o':Nat->Col)(st':NSt):Prop:=FedTo D v st n st'/\NodeAt w' o' v D T st'/\Fresh o' w'/\Tr (k0q v) o w o' w'/\k70 D st'
theorem k8l(H:NodeAt w o v D T st)(G:Good D)(hv:v<D.nodes)(hf:Fresh o w)(K:k70 D st) :
 Calls Tryz.prog 89 #[.pointer (some ⟨T.g,0,none⟩)] w fun e w'=>e=.returned (.tuple #[])/\∃o' st',Fed w o v D T st D.lanes w' o' st':=by
 have hl3:=G.l1;have hnp:=k2t G hv;have H0:=Ac (_/\_/\_/\_) (⟨H,hf,K,G⟩);have b0:=fun j=>k00 H.blk j
 clear H hf K G;go_enter Tryz.func89,Tryz.ntmps89;go_wp2;clear b0
 go_loopw [12] (fun s12 wr=>∃(k:Nat)(o1:Nat->Col)(s1:NSt),k<=D.lanes/\s12=.int .i64 k/\k07 (Fed w o v D T st k wr o1 s1)) (fun s12 _=>D.lanes-ixOf s12)
 case atStart=>exact⟨0,o,st,zz1,rfl,⟨rfl,H0.1.1,H0.1.2.1,Tr.refl H0.1.2.1,H0.1.2.2.1⟩⟩
 case round=>
  obtain⟨k,o1,s1,hk,rfl,R⟩:=hrel;by_cases hlt:k<D.lanes
  ·have e1:(k:Int)<(D.lanes:Int):=by omega
   have b0:=fun j=>k00 R.1.2.1.blk j
   go_wp2
   go_loopw [3,20] (fun s3 s20 W=>∃j:Nat,j<=np D v/\s20=.int .i64 j/\s3=.int .i64 (k43 s1 k j:Nat)/\k43 s1 k j<=j*200/\W=wr) (fun _ s20 _=>np D v-ixOf s20)
   case atStart=>exact⟨0,zz1,rfl,rfl,by show 0<=_;omega,rfl⟩
   case round=>
    obtain⟨j,hj,rfl,rfl,hm,rfl⟩:=hrel;by_cases hlj:j<np D v
    ·have e2:(j:Int)<(np D v:Nat):=by omega
     have hlen:=k4s (k:=(D.lanes:Nat)) 0 j k R.1.2.1.rings zz1 zz1 zz1;have h200:=R.1.2.1.rings.len_le (0,j,k);have hsucc:k43 s1 k (j+1)=k43 s1 k j+(s1.q (0,j,k)).length:=rfl;obtain⟨L,hL⟩:∃L,L=(s1.q (0,j,k)).length:=⟨_,rfl⟩;obtain⟨M,hM⟩:∃M,M=k43 s1 k j:=⟨_,rfl⟩;rw[<- hL]at hlen h200 hsucc;rw[<- hM]at hm hsucc;rw[<- hM];have HS:=Ab hsucc;have HLen:=Ab hlen;clear hL hM hsucc hlen
     go_wp2_with(go_at_call 75;refine HLen.1.mono ?_;rintro e w2 ⟨rfl,rfl⟩)
     refine⟨⟨j+1,zz1,rfl,by rw[HS.1];rfl,by rw[HS.1];omega,trivial⟩,?_⟩;show np D v-ixOf (.int .i64 ((j:Int)+1))<np D v-ixOf (.int .i64 (j:Int));exact zz9
    ·have e2:¬(j:Int)<(np D v:Nat):=by omega
     obtain rfl:j=np D v:=by omega
     obtain⟨M,hM⟩:∃M,M=k43 s1 k (np D v):=⟨_,rfl⟩;rw[<- hM]at hm;rw[<- hM];have HM:=Ab hM;clear hM;by_cases hroom:D.room<=M
     ·have e3:(D.room:Int)<=(M:Int):=by omega
      have e4:decide (D.room<=M)=true:=decide_eq_true hroom;have HR:=Ab hroom;clear hroom;go_wp2;refine⟨⟨k+1,o1,s1,zz1,rfl,⟨⟨s1,R.1.1,.inl ⟨by rw[<- HM.1];exact HR.1,rfl⟩⟩,R.1.2⟩⟩,?_⟩;exact zz19
     ·have e3:¬(D.room:Int)<=(M:Int):=by omega
      have e4:decide (D.room<=M)=false:=decide_eq_false hroom;have HR:=Ac (M<D.room) zz1;clear hroom;cases hwt:s1.waits k with
      |nil=>
       have HN:=Ab hwt;have hcall:=Ab (k4R k R.1.2.1.host zz1 hwt);clear hwt
       go_wp2_with(go_at_call 120;refine hcall.1.mono ?_;rintro e w3 ⟨rfl,hb⟩;have B3:=Ab hb;clear hb)
       have B4:=Ac (Below wr.heap.size wr (w3.alloc (.cells #[.int .i64 0,.int .i64 0,.int .i64 0,.int .u32 0] 40))) (B3.1.alloc B3.1.size _);refine⟨⟨k+1,o1,s1,zz1,rfl,⟨⟨s1,R.1.1,.inr (.inl ⟨by rw[<- HM.1];exact HR.1,HN.1,rfl⟩)⟩,R.1.2.1.blw R.1.2.2.1 B4.1,R.1.2.2.1.blw B4.1,R.1.2.2.2.1.then (Tr.below (S:=k0q v) R.1.2.2.1 B4.1) (fun _ x=>x),R.1.2.2.2.2⟩⟩,?_⟩;exact zz19
      |cons x r=>
       have HN:=Ab hwt;have hcall:=Ab (kaf k x r R.1.2.2.1 R.1.2.1.host zz1 hwt);obtain⟨xs,xd,hxs,hxd,hx1,hx2,hx3,hx4,hx5,hx6⟩:=R.1.2.2.2.2 k hlt x (by rw[hwt];simp);have HX:=Ac (_/\_/\_/\_/\_/\_/\_/\_) (⟨hxs,hxd,hx1,hx2,hx3,hx4,hx5,hx6⟩);clear hwt hxs hxd hx1 hx3 hx4 hx5 hx6
       go_wp2_with(go_at_call 120;refine hcall.1.mono ?_;rintro e w3 ⟨rfl,o3,t3,h3⟩;have K3:=Ac (_/\_) (⟨t3,h3⟩);clear t3 h3)
       obtain⟨c1,c2,c3,c4,c5,c6,c7,c8⟩:=HX.1;have F3:=Ac (Fresh o3 w3) (K3.1.1.fresh);have H3:=Ab (R.1.2.1.hostTo K3.1.1 K3.1.2);have B4:=Ac (Below w3.heap.size w3 (w3.alloc (.cells #[.int .i64 x.src,.int .i64 x.dst,.int .i64 x.lane,.int .u32 x.body] 40))) ((Below.refl _ _).alloc (Nat.le_refl _) _);have H4:=Ab (H3.1.blw F3.1 B4.1);have F4:=Ab (F3.1.blw B4.1);obtain⟨q0,q1,q2,q3⟩:=box4 (w:=w3) (heap_alloc_new w3 (.cells #[.int .i64 x.src,.int .i64 x.dst,.int .i64 x.lane,.int .u32 x.body] 40));have HS:=Sat.mk (S:=fun(W:World)=>W.cell? ⟨T.g,15,none⟩=some (.pointer (some ⟨T.rings,0,none⟩))/\W.cell? ⟨w3.heap.size,0,none⟩=some (.int .i64 x.src)/\W.cell? ⟨w3.heap.size,1,none⟩=some (.int .i64 x.dst)/\W.cell? ⟨w3.heap.size,2,none⟩=some (.int .i64 x.lane)/\W.cell? ⟨w3.heap.size,3,none⟩=some (.int .u32 x.body)) (w:=(w3.alloc (.cells #[.int .i64 x.src,.int .i64 x.dst,.int .i64 x.lane,.int .u32 x.body] 40))) (⟨(k00 H4.1.blk 15).trans rfl,q0,q1,q2,q3⟩);have hdn:dstN x=xd:=by unfold dstN;rw[c2];rfl
       have HD:=Ac (x.dst=((dstN x:Nat):Int)/\dstN x<D.nodes) (⟨by rw[hdn];exact c2,by rw[hdn];exact c4⟩);obtain⟨d,hd⟩:∃d,d=dstN x:=⟨_,rfl⟩;rw[<- hd]at HD;have HDd:=Ab hd;have HTW:=Ab (kce H0.1.2.2.2 hv HD.1.2);have HTC:=Ac (Calls Tryz.prog 122 #[.pointer (some ⟨T.g,0,none⟩),.int .i64 x.dst] (w3.alloc (.cells #[.int .i64 x.src,.int .i64 x.dst,.int .i64 x.lane,.int .u32 x.body] 40)).drew _) (by
        have h:=k3O d (H4.1.blw F4.1 (Below.refl _ _).drew) H0.1.2.2.2 hv HD.1.2 (F4.1.blw (Below.refl _ _).drew);rw[<- HD.1.1]at h;exact h)
       clear c1 c2 c3 c4 c5 c6 c7 c8 q0 q1 q2 q3 hdn hd hx2;refine WpL.rg HS 10 zz2 ?_;refine WpL.T 0 [3,2,1] HS.1 ?_;refine WpL.T 1 [3,2] HS.1 ?_;refine WpL.T 2 [3] HS.1 ?_;refine WpL.T 3 [] HS.1 ?_;refine WpL.T 4 [7] HS.1 ?_;refine WpL.T 5 [7,6] HS.1 ?_;refine WpL.T 6 [7] HS.1 ?_;refine WpL.T 8 [] HS.1 ?_;refine WpL.T 9 [] HS.1 ?_;refine WpL.one (i:=7) zz2 rfl (fun K hK=>?_);go_simp;refine HTC.1.mono ?_;rintro e w5 ⟨rfl,hb⟩;have B5:=Ab (undrew hb);have HS5:=HS.to w5 (by obtain⟨k0,k1,k2,k3,k4⟩:=HS.1;exact⟨k01 B5.1 k0,k01 B5.1 k1,k01 B5.1 k2,k01 B5.1 k3,k01 B5.1 k4⟩);clear hb;simp only[];refine hK.out _ _ (fun _=>HS5.1) ?_;clear hK K
       try refine Sm ?_
       refine WpL.one (i:=10) zz2 rfl (fun K hK=>?_);go_simp;refine(k5p 0 (tw D v d) k x (F4.1.blw B5.1) zz6 zz6 zz6 (H4.1.blw F4.1 B5.1).rings (H4.1.rings_n H0.1.2.2.2 hv) (by have:=k6A H0.1.2.2.2 hv;omega) (by have:=HTW.1;omega) zz1).mono ?_;rintro e w6 ⟨b6,o6,q6,rfl,t6,r6,c6⟩;have K6:=Ac (_/\_/\_) (⟨t6,r6,c6⟩);clear t6 r6 c6;simp only[];refine hK.out _ _ (fun h=>absurd rfl h) ?_;clear hK K
       try refine Sm ?_
       refine WpL.done zz2 ?_ _;go_wp2;have H5:=H4.1.blw F4.1 B5.1;have H6:=H5.ringsTo K6.1.1 K6.1.2.1;have c6:=K6.1.2.2;have h5:dstN x=d:=HDd.1.symm;refine⟨⟨k+1,o6,_,zz1,rfl,⟨⟨s1,R.1.1,.inr (.inr ⟨x,r,by rw[<- HM.1];exact HR.1,HN.1,q6,rfl,by rw[h5];exact c6⟩)⟩,H6,K6.1.1.fresh,?_,?_⟩⟩,?_⟩
       ·exact((R.1.2.2.2.1.then K3.1.1 (fun c e=>by rw[e];rfl)).then (Tr.below (S:=k0q v) F3.1 (B4.1.trans (B5.1.mono B4.1.size))) (fun _ x=>x)).then K6.1.1 (fun c e=>by rcases e with e|e<;>rw[e]<;>rfl)
       ·intro j hj y hy
        by_cases e:j=k
        ·subst e
         rw[show({ waits:=upd s1.waits j r,q:=q6,snd:=s1.snd,rcv:=s1.rcv,ticks:=s1.ticks }:NSt).waits j=r from k04 _ _ _]at hy;exact R.1.2.2.2.2 j hj y (by rw[HN.1];exact List.mem_cons_of_mem _ hy)
        ·rw[show({ waits:=upd s1.waits k r,q:=q6,snd:=s1.snd,rcv:=s1.rcv,ticks:=s1.ticks }:NSt).waits j=s1.waits j from k06 _ _ e]at hy
         exact R.1.2.2.2.2 j hj y hy
       ·show D.lanes-ixOf (.int .i64 ((k:Int)+1))<D.lanes-ixOf (.int .i64 (k:Int))
        simp only[ixOf];exact zz1
  ·have e1:¬(k:Int)<(D.lanes:Int):=by omega
   obtain rfl:k=D.lanes:=by omega
   go_wp2;go_end0;exact⟨rfl,o1,s1,R.1⟩
end
def askB(D:PlanD)(st:NSt)(i j:Nat):Bool:=decide (mayM D st i j≠0)
def askG(D:PlanD)(st:NSt)(n i j r:Nat):Nat:=if r<i then k1m (askB D st r) n else if r=i then k1m (askB D st i) j else 0
def k42(D:PlanD)(v:Nat)(st:NSt):List Nat:=(List.range (np D v)).map fun i=>k1m (askB D st i) (np D v)
theorem k5O{α : Type}(n i:Nat)(g g':Nat -> α)(h:∀r,r≠i->g r=g' r)(hi:i<n):((List.range n).map g).set i (g' i)=(List.range n).map g':=by
 apply List.ext_getElem?;intro r;by_cases e:r=i
 ·subst e
  rw[List.getElem?_set_self (by simpa using hi)];simp[hi]
 ·rw[List.getElem?_set_ne (fun h=>e h.symm)]
  by_cases hr:r<n
  ·simp[hr,h r e]
  ·simp[hr]
section
variable{w:World}{o:Nat->Col}{v:Nat}{D:PlanD}{T:NTab}{st:NSt}
def AskRow(W:World)(D:PlanD)(st:NSt)(ab n i j:Nat):Prop:=Row W (.slice (some ⟨ab,0,none⟩) n n) 23 1 n (u16s ((List.range n).map (askG D st n i j))) (some ab)
theorem AskRow.at{W:World}{ab n i j:Nat}(h:AskRow W D st ab n i j)(hi:i<n):W.cell? ⟨ab,i,none⟩=some (.int .u16 (k1m (askB D st i) j:Nat))/\W.frozen? ⟨ab,i,none⟩=false:=by
 obtain⟨_,_,_,hs,hA,_,hfz,hc⟩:=h.open zz1;simp only[Value.slice.injEq,Option.some.injEq,Addr.mk.injEq,and_true,true_and]at hA;obtain⟨⟨rfl,rfl⟩,rfl⟩:=hA;refine⟨?_,hfz i⟩;have:=hc i (by simp[u16s];exact hi);rw[Nat.zero_add]at this;rw[this];simp[u16s,hi,askG]
theorem AskRow.next{W:World}{ab n i j:Nat}(h:AskRow W D st ab n i j)(hi:i<n):AskRow (W.setCell ⟨ab,i,none⟩ (.int .u16 (k1m (askB D st i) (j+1):Nat))) D st ab n i (j+1):=by
 have h2:=Row.set h i (by simp[u16s];exact hi) (.int .u16 (k1m (askB D st i) (j+1):Nat));rw[Nat.zero_add]at h2;have e:(u16s ((List.range n).map (askG D st n i j))).set i (.int .u16 (k1m (askB D st i) (j+1):Nat))=u16s ((List.range n).map (askG D st n i (j+1))):=by
  unfold u16s;rw[List.map_map,List.map_map];have:=k5O n i ((fun(k:Nat)=>Value.int .u16 (k:Int)) ∘ askG D st n i j) ((fun(k:Nat)=>Value.int .u16 (k:Int)) ∘ askG D st n i (j+1)) (fun r hr=>by simp[askG,hr]) hi;rw[<- this];simp[askG]
 rw[e]at h2;exact h2
theorem AskRow.skip{W:World}{ab n i j:Nat}(h:AskRow W D st ab n i j)(hb:askB D st i j=false):AskRow W D st ab n i (j+1):=by
 have e:askG D st n i j=askG D st n i (j+1):=by
  funext r;unfold askG;split
  ·rfl
  ·split
   ·show _=if askB D st i j then _ else _
    rw[hb];rfl
   ·rfl
 unfold AskRow at *;rw[<- e];exact h
theorem AskRow.row{W:World}{ab n i:Nat}(h:AskRow W D st ab n i n):AskRow W D st ab n (i+1) 0:=by
 have e:askG D st n i n=askG D st n (i+1) 0:=by
  funext r;unfold askG;by_cases h1:r<i
  ·rw[if_pos h1,if_pos zz1]
  ·rw[if_neg h1]
   by_cases h2:r=i
   ·subst h2;rw[if_pos rfl,if_pos zz1]
   ·rw[if_neg h2,if_neg zz1]
    split<;>rfl
 unfold AskRow at *;rw[<- e];exact h
theorem k8W(H:NodeAt w o v D T st)(G:Good D)(hv:v<D.nodes)(hf:Fresh o w)(N:k9R D v st) :
 Calls Tryz.prog 91 #[.pointer (some ⟨T.g,0,none⟩)] w fun e w'=>e=.returned (.slice (some ⟨w.heap.size,0,none⟩) (np D v:Nat) (np D v))/\Row w' (.slice (some ⟨w.heap.size,0,none⟩) (np D v:Nat) (np D v)) 23 1 (np D v) (u16s (k42 D v st)) (some w.heap.size)/\Below w.heap.size w w':=by
 obtain⟨i0,hi,hz0,hz1,hz2⟩:=info_parts kae;have hn6:=k2t G hv;have hn2:=k6A G hv;obtain⟨n,hn⟩:∃n,n=np D v:=⟨_,rfl⟩;have hmk:∀W:World,(Instr.makeSlice 168 (.int .i64 n) (.int .i64 n)).run Tryz.prog W=.ok (.slice (some ⟨W.heap.size,0,none⟩) n n) (W.alloc (.cells (madeCells (Value.int .u16 0).cells (n*1)) 23)):=fun W=>by
  have:=run_make (P:=Tryz.prog) W 168 23 i0 _ Tryz.underlying168 hi hz0 .i64 .i64 n n zz1 zz1 zz91 zz1;exact zz53
 have H0:=Ac (_/\_/\_/\_) (⟨H,hf,N,G⟩);have b13:w.cell? ⟨T.g,13,none⟩=some (.slice (some ⟨T.pb,T.po,none⟩) n T.pc):=by rw[hn];exact(k00 H.blk 13).trans rfl
 have HL:=Ab (k03 H.blk);have hz:=HL.1;rw[<- hn]at hn6 hn2;obtain⟨ab,hab⟩:∃ab,ab=w.heap.size:=⟨_,rfl⟩;have HN:=Ac (_/\_) (⟨hn,hab⟩);have M0:=Ab (k4c w (.int .u16 0) 23 n rfl);rw[<- hn,<- hab];clear H hf N G hi hz0 hz1 hz2 hn hab;go_enter Tryz.func91,Tryz.ntmps91;go_wp2;clear hmk;rw[<- HN.1.2]
 go_loopw [17] (fun s17 wr=>∃i:Nat,i<=n/\s17=.int .i64 i/\k07 (AskRow wr D st ab n i 0/\Below w.heap.size w wr)) (fun s17 _=>n-ixOf s17)
 case atStart=>
  refine⟨0,zz1,rfl,⟨?_,(Below.refl _ w).alloc (Nat.le_refl _) _⟩⟩;have h:=M0.1;rw[<- HN.1.2,Nat.mul_one]at h;unfold AskRow;have e:u16s ((List.range n).map (askG D st n 0 0))=List.replicate n (Value.int .u16 0):=by
   unfold u16s;rw[List.map_map];apply List.ext_getElem?;intro r;by_cases hr:r<n
   ·simp[hr,askG,k1m]
   ·simp[hr]
  rw[e];exact h
 case round=>
  obtain⟨i,hi,rfl,R⟩:=hrel;by_cases hlt:i<n
  ·have e1:(i:Int)<(n:Int):=by omega
   have b13':=R.1.2.cell (p:=⟨T.g,13,none⟩) HL.1;rw[b13]at b13';go_wp2
   go_loopw [25] (fun s25 wr=>∃j:Nat,j<=n/\s25=.int .i64 j/\k07 (AskRow wr D st ab n i j/\Below w.heap.size w wr)) (fun s25 _=>n-ixOf s25)
   case atStart=>exact⟨0,zz1,rfl,R⟩
   case round=>
    obtain⟨j,hj,rfl,R⟩:=hrel;by_cases hlj:j<n
    ·have e2:(j:Int)<(n:Int):=by omega
     obtain⟨H,hf,N,G⟩:=H0.1;have H1:=H.blw hf R.1.2;have hm:=Ab (k6H i j H1 G hv (hf.blw R.1.2) (by rw[<- HN.1.1];exact hlt) (by rw[<- HN.1.1];exact hlj) N);obtain⟨m,hm0⟩:∃m,m=mayM D st i j:=⟨_,rfl⟩;have HM:=Ab hm0;rw[<- hm0]at hm;clear H1 H hf N G hm0;by_cases hz:m=0
     ·have e3:((m:Int) != 0)=false:=by rw[hz];rfl
      clear hz
      go_wp2_with(go_at_call 127;refine hm.1.mono ?_;rintro e w2 ⟨rfl,hb⟩;have B2:=Ab hb;clear hb)
      refine⟨⟨j+1,zz1,rfl,⟨AskRow.skip (Row.below R.1.1 B2.1) ?_,R.1.2.trans (B2.1.mono R.1.2.size)⟩⟩,?_⟩
      ·unfold askB;rw[<- HM.1];simp at e3;simp[e3]
      ·show n-ixOf (.int .i64 ((j:Int)+1))<n-ixOf (.int .i64 (j:Int))
       simp only[ixOf];exact zz1
     ·have e3:((m:Int) != 0)=true:=by simp;omega
      have hb:askB D st i j=true:=by unfold askB;rw[<- HM.1];simp[hz]
      have hor:=k9a ⟨k1m (askB D st i) j,k3f _ j zz1⟩ ⟨j,zz1⟩;simp only at hor;have hsucc:k1m (askB D st i) (j+1)=if askB D st i j then k1m (askB D st i) j ||| 2 ^ j else k1m (askB D st i) j:=rfl
      rw[hb,if_pos rfl]at hsucc;rw[<- hsucc]at hor;clear hsucc hb hz
      go_wp2_with(go_at_call 127;refine hm.1.mono ?_;rintro e w2 ⟨rfl,hb⟩;have B2:=Ab hb;clear hb)
      have A2:=Ac (AskRow w2 D st ab n i j) (Row.below R.1.1 B2.1);obtain⟨c9,f9⟩:=A2.1.at hlt;have HS:=Sat.mk (S:=fun(W:World)=>W.cell? ⟨ab,i,none⟩=some (.int .u16 (k1m (askB D st i) j:Nat))) (w:=w2) (c9);refine WpL.rg HS 8 zz2 ?_;refine WpL.T 0 [] HS.1 ?_;refine WpL.T 1 [] HS.1 ?_;refine WpL.T 2 [] HS.1 ?_;refine WpL.T 3 [] HS.1 ?_;refine WpL.T 4 [] HS.1 ?_;refine WpL.T 5 [] HS.1 ?_;refine WpL.T 6 [] HS.1 ?_;refine WpL.T 7 [] HS.1 ?_;refine WpL.one (i:=8) zz2 rfl (fun K hK=>?_);go_simp;refine hK.out _ _ (fun h=>absurd rfl h) ?_;clear hK K
      try refine Sm ?_
      refine WpL.done zz2 ?_ _;go_wp2;refine⟨⟨j+1,zz1,rfl,⟨Row.drew (A2.1.next hlt),?_⟩⟩,?_⟩
      ·have h:=HN.1.2
       exact((R.1.2.trans (B2.1.mono R.1.2.size)).setCell zz20 _).drew
      ·show n-ixOf (.int .i64 ((j:Int)+1))<n-ixOf (.int .i64 (j:Int))
       simp only[ixOf];exact zz1
    ·have e2:¬(j:Int)<(n:Int):=by omega
     obtain rfl:j=n:=by omega
     go_wp2;refine⟨⟨i+1,zz1,rfl,⟨R.1.1.row,R.1.2⟩⟩,?_⟩;show j-ixOf (.int .i64 ((i:Int)+1))<j-ixOf (.int .i64 (i:Int));exact zz9
  ·have e1:¬(i:Int)<(n:Int):=by omega
   obtain rfl:i=n:=by omega
   go_wp2;go_ret;refine⟨rfl,?_,by rw[HN.1.2];exact R.1.2⟩;have h:=R.1.1;unfold AskRow at h;have e:u16s ((List.range i).map (askG D st i i 0))=u16s (k42 D v st):=by
    unfold k42;rw[<- HN.1.1];congr 1;refine List.map_congr_left fun r hr=>?_
    simp only[List.mem_range]at hr;simp[askG,hr]
   rw[e]at h;exact h
end
structure TrN(v lo:Nat)(o:Nat->Col)(w:World)(o':Nat->Col)(w':World):Prop where
 only:Only (fun b=>k0q v (o b)\/SayP w o lo b) w w'
 own:∀b,b<w.heap.size->o' b=o b
 fresh:Fresh o' w'
section
variable{v lo:Nat}{o o1 o2:Nat->Col}{w w1 w2:World}
theorem TrN.refl(hf:Fresh o w):TrN v lo o w o w:=⟨Only.refl _ _,fun _ _=>rfl,hf⟩
theorem TrN.trans(h:TrN v lo o w o1 w1)(k:TrN v lo o1 w1 o2 w2):TrN v lo o w o2 w2:=
 ⟨h.only.then k.only (fun b hb hc=>by
  rcases hc with hc|⟨h1,h2,cur,T,h3,h4⟩
  ·rw[h.own b hb]at hc;exact .inl hc
  ·rw[h.own b hb]at h2
   by_cases hp:k0q v (o b)\/SayP w o lo b
   ·exact hp
   ·rw[h.only.keep b hb hp]at h3
    exact .inr ⟨h1,h2,cur,T,h3,h4⟩),fun b hb=>(k.own b (Nat.lt_of_lt_of_le hb h.only.size)).trans (h.own b hb),k.fresh⟩
theorem Tr.toN{S:Col->Prop}(h:Tr S o w o1 w1)(hs:∀c,S c->k0q v c):TrN v lo o w o1 w1:=⟨h.only.mono (fun b _ hc=>.inl (hs _ hc)),h.own,h.fresh⟩
theorem TrN.blw(hf:Fresh o w)(h:Below w.heap.size w w1):TrN v lo o w o w1:=(Tr.below (S:=fun _=>False) hf h).toN (fun _ x=>x.elim)
theorem TrN.say(hf:Fresh o w)(h:Only (SayP w o lo) w w1):TrN v lo o w o w1:=⟨h.mono (fun b _ hc=>.inr hc),fun _ _=>rfl,fun b hb=>hf b (Nat.le_trans h.size hb)⟩
theorem TrN.toTr(h:TrN v lo o w o1 w1)(hl:w.heap.size<=lo):Tr (k0q v) o w o1 w1:=⟨h.only.mono (fun b hb hc=>hc.elim id (fun h=>by have:=h.1;omega)),h.own,h.fresh⟩
theorem Tr.toJunk(h:Only (SayP w o lo) w w1)(hf:Fresh o w):Tr (fun c=>c=.junk) o w o w1:=Tr.same hf (h.mono (fun b _ hc=>hc.2.1))
theorem TrN.stay(h:TrN v lo o w o1 w1){b:Nat}{cur:Array Value}{T:TypeId}(hb:w.heap[b]? = some (Obj.cells cur T (0,0)))(ho:o b=.junk)(h1:T≠113)(h2:T≠115):w1.heap[b]? = some (Obj.cells cur T (0,0)):=by
 refine(h.only.keep b (k03 hb) ?_).trans hb;rintro(hc|⟨_,_,cur',T',h3,h4⟩)
 ·rw[ho]at hc;cases hc
 ·rw[hb]at h3;injection h3 with h3;injection h3 with h5 h6;subst h6;exact h4.elim h1 h2
end
def k2H(k:Nat)(s:Int)(x:Pk):Wire.Fr:=⟨1,k,s % 65536,x.src,x.dst,x.body⟩
theorem k3o{D:PlanD}(G:Good D){k:Nat}{x:Pk}(hk:k<D.lanes)(h:PkIn D k x)(s:Int):(k2H k s x).wf/\(k2H k s x).sound=true:=by
 obtain⟨a,b,h1,h2,h3,h4,h5,h6,h7,h8⟩:=h;have:=G.l1;have:=G.n1;refine⟨⟨⟨by show(0:Int)<=1;omega,by show(1:Int)<=255;omega⟩,⟨by show(0:Int)<=(k:Int);omega,by show(k:Int)<=255;omega⟩,⟨by show 0<=s % 65536;omega,by show s % 65536<=65535;omega⟩,⟨by show 0<=x.src;omega,by show x.src<=255;omega⟩,⟨by show 0<=x.dst;omega,by show x.dst<=255;omega⟩,⟨h7,h8⟩⟩,?_⟩;exact Wire.sound_iff.2 ⟨by show(k:Int)<3;omega,.inl ⟨rfl,by show x.src<6;omega,by show x.dst<6;omega,by show x.src≠x.dst;omega⟩⟩
def QOk(D:PlanD)(v:Nat)(st:NSt):Prop:=∀i j k:Nat,i<np D v->j<np D v->k<D.lanes->∀x∈st.q (i,j,k),PkIn D k x
def k0N(st:NSt)(i tt k:Nat)(r:List Pk):NSt:={ st with q:=updw st.q (i,tt,k) r }
def k0F(st:NSt)(i k:Nat):NSt:=if i=0 then st else{ st with rcv:=upd2 st.rcv i k ((st.rcv i k).1,if(st.rcv i k).2=0 then 0 else(st.rcv i k).2-1) }
def k21(st:NSt)(x:Pk):NSt:={ st with waits:=upd st.waits 3 (st.waits 3++[x]) }
def k3n(st:NSt)(tt k:Nat):NSt:={ st with snd:=upd2 st.snd tt k ((st.snd tt k).1+1,(st.snd tt k).2) }
def MoveRel(D:PlanD)(v i tt:Nat)(st st':NSt)(outs:List OutP):Prop:=
 ((∀k,k<D.lanes->mayB st i tt k=false)/\st'=st/\outs=[]) \/
   ∃k x r,k<D.lanes/\mayB st i tt k=true/\st.q (i,tt,k)=x :: r/\((tt=0/\st'=k21 (k0F (k0N st i tt k r) i k) x/\outs=[])\/(tt≠0/\st'=k3n (k0F (k0N st i tt k r) i k) tt k/\outs=[(k0G D v tt,(k2H k (st.snd tt k).1 x).bytes)]))
structure InTick(D:PlanD)(v lo ob nb:Nat)(T:NTab)(w:World)(o:Nat->Col)(st:NSt)(outs:List OutP):Prop where
 node:NodeAt w o v D T st
 fresh:Fresh o w
 say:SayAt w o lo ob nb T.g outs
 lo:lo<=w.heap.size
 tab:Tab w
 t0:o 0=.fix
theorem InTick.to{D:PlanD}{v lo ob nb:Nat}{T:NTab}{w w':World}{o o':Nat->Col}{st st':NSt}{outs:List OutP}(h:InTick D v lo ob nb T w o st outs){S:Col->Prop}(t:Tr S o w o' w')(hS:∀c,S c->k0q v c)(H:NodeAt w' o' v D T st'):InTick D v lo ob nb T w' o' st' outs:=
 ⟨H,t.fresh,h.say.tr t (fun h=>by have:=hS _ h;cases this),Nat.le_trans h.lo t.only.size,h.tab.tr t (by rw[h.t0];intro h;have:=hS _ h;cases this),(t.own 0 h.tab.lt).trans h.t0⟩
theorem InTick.blw{D:PlanD}{v lo ob nb:Nat}{T:NTab}{w w':World}{o:Nat->Col}{st:NSt}{outs:List OutP}(h:InTick D v lo ob nb T w o st outs)(b:Below w.heap.size w w'):InTick D v lo ob nb T w' o st outs:=
 h.to (Tr.below (S:=fun _=>False) h.fresh b) (fun _ x=>x.elim) (h.node.blw h.fresh b)
theorem InTick.said{D:PlanD}{v lo ob nb:Nat}{T:NTab}{w w':World}{o:Nat->Col}{st:NSt}{outs outs':List OutP}(h:InTick D v lo ob nb T w o st outs)(k:Only (SayP w o lo) w w')(s:SayAt w' o lo ob nb T.g outs'):InTick D v lo ob nb T w' o st outs':=
 ⟨h.node.tr (Tr.toJunk k h.fresh) zz6 (fun c hc e=>by rw[e]at hc;cases hc),fun b hb=>h.fresh b (Nat.le_trans k.size hb),s,Nat.le_trans h.lo k.size,h.tab.only k (by rintro⟨_,hc,_⟩;rw[h.t0]at hc;cases hc),h.t0⟩
theorem k8a(g:Nat)(x h r:Int)(w0 w:World)(s:RcvSt w0 w g x h r)(h0:0<=h)(h1:h<=8) :
 Calls Tryz.prog 130 #[.pointer (some ⟨g,0,none⟩)] w fun e w'=>(∃b,e=.returned (.bool b))/\RcvSt w0 w' g x (if h=0 then 0 else h-1) r:=by
 by_cases e:h=0
 ·subst e
  refine(k7g g x r w0 w s).mono ?_;rintro e w' ⟨rfl,hs⟩;exact⟨⟨_,rfl⟩,hs⟩
 ·refine(k73 g x h r w0 w s zz1 h1).mono ?_
  rintro e' w' ⟨rfl,hs⟩;rw[if_neg e];exact⟨⟨_,rfl⟩,hs⟩
section
variable{w:World}{o:Nat->Col}{v:Nat}{D:PlanD}{T:NTab}{st:NSt}{lo ob nb:Nat}{outs:List OutP}
def Moved(w:World)(o:Nat->Col)(v:Nat)(D:PlanD)(T:NTab)(st:NSt)(lo ob nb:Nat)(outs:List OutP)(i tt:Nat)(e:Ending)(w':World):Prop:=
 e=.returned (.tuple #[])/\∃o' st' os,MoveRel D v i tt st st' os/\InTick D v lo ob nb T w' o' st' (outs++os)/\TrN v lo o w o' w'
theorem k8O(i tt:Nat)(I:InTick D v lo ob nb T w o st outs)(G:Good D)(hv:v<D.nodes)(N:k9R D v st)(Q:QOk D v st)(hi:i<np D v)(htt:tt<np D v)(hlen:outs.length<=10000)(hc:(st.waits 3).length<=10000) :
 Calls Tryz.prog 92 #[.pointer (some ⟨T.g,0,none⟩),.int .i64 i,.int .i64 tt,.func (.func 87) #[] #[.pointer (some ⟨ob,0,none⟩),.pointer (some ⟨nb,0,none⟩)]] w (Moved w o v D T st lo ob nb outs i tt):=by
 have hl3:=G.l1;have hl1:=G.l0;have hnp:=k2t G hv;have H0:=Ac (_/\_/\_/\_/\_/\_) (⟨I,N,Q,G,hlen,hc⟩);obtain⟨p0,p1,p2⟩:=I.node.port tt htt;have HS:=Sat.mk (S:=fun(W:World)=>W.cell? ⟨T.g,13,none⟩=some (.slice (some ⟨T.pb,T.po,none⟩) (np D v:Nat) T.pc)/\W.cell? ⟨T.pb,T.po+tt*3+2,none⟩=some (.pointer (some ⟨T.whl tt,0,none⟩))) (w:=w) (⟨(k00 I.node.blk 13).trans rfl,p2⟩);have i1:(tt:Int)<(np D v:Nat):=zz1
 have i2:(i:Int)<(np D v:Nat):=zz1
 obtain⟨m,hm⟩:∃m,m=mayM D st i tt:=⟨_,rfl⟩;have hm64:m<64:=by rw[hm];exact k3f _ _ zz1
 have HM:=Ab hm;clear I G N Q p0 p1 p2 hlen hc hm;go_enter Tryz.func92,Tryz.ntmps92;go_wp2;refine WpL.rg HS 13 zz2 ?_;refine WpL.T 0 [] HS.1 ?_;refine WpL.T 1 [] HS.1 ?_;refine WpL.T 2 [] HS.1 ?_;refine WpL.T 3 [] HS.1 ?_;refine WpL.T 4 [] HS.1 ?_;refine WpL.T 5 [] HS.1 ?_;refine WpL.T 6 [] HS.1 ?_;refine WpL.T 7 [] HS.1 ?_;refine WpL.T 8 [] HS.1 ?_;refine WpL.T 9 [] HS.1 ?_;refine WpL.T 10 [] HS.1 ?_;refine WpL.one (i:=11) zz2 rfl (fun K hK=>?_);go_simp;refine(k6H i tt (H0.1.1.blw ((Below.refl _ w).drew)).node H0.1.2.2.2.1 hv (H0.1.1.blw ((Below.refl _ w).drew)).fresh hi htt H0.1.2.1).mono ?_;rw[<- HM.1];rintro e w2 ⟨rfl,hb⟩;have B2:=Ab (undrew hb);have HS2:=HS.to w2 (⟨k01 B2.1 HS.1.1,k01 B2.1 HS.1.2⟩);clear hb;simp only[];refine hK.out _ _ (fun _=>HS2.1) ?_;clear hK K
 try refine Sm ?_
 refine WpL.one (i:=12) zz2 rfl (fun K hK=>?_);go_simp;refine(k8A (T.whl tt) D.lanes m o (.whl v tt) _ hl1 hl3 hm64 ((H0.1.1.blw B2.1).node.whl tt htt) (H0.1.1.blw B2.1).tab (by rw[H0.1.1.t0];simp)).mono ?_;rintro e w3 ⟨r,rfl,hO,hW,hr⟩;have I3:=Ac (InTick D v lo ob nb T w3 o st outs) ((H0.1.1.blw B2.1).to (Tr.same (S:=fun c=>c=.whl v tt) (H0.1.1.blw B2.1).fresh hO) (fun c e=>by rw[e];rfl) ((H0.1.1.blw B2.1).node.whlTo (H0.1.1.blw B2.1).fresh hO hW));have HS3:=HS.to w3 (⟨(k00 I3.1.node.blk 13).trans rfl,(I3.1.node.port tt htt).2.2⟩);have T3:=Ac (TrN v lo o w o w3) ((TrN.blw H0.1.1.fresh B2.1).trans ((Tr.same (S:=fun c=>c=.whl v tt) (H0.1.1.blw B2.1).fresh hO).toN (fun c e=>by rw[e];rfl)));have HR:=Ab hr;clear hO hW hr;simp only[];refine hK.out _ _ (fun _=>HS3.1) ?_;clear hK K
 try refine Sm ?_
 refine WpL.one (i:=13) zz2 rfl (fun K hK=>?_);go_simp;refine hK.out _ _ (fun h=>absurd rfl h) ?_;clear hK K
 try refine Sm ?_
 refine WpL.done zz2 ?_ _;rcases HR.1 with⟨rfl,hno⟩|⟨k,hk,hbit,rfl⟩
 ·go_wp2
  go_end0;refine⟨rfl,o,st,[],.inl ⟨fun k hk=>?_,rfl,rfl⟩,by rw[List.append_nil];exact I3.1,T3.1⟩;have:=hno k hk;rw[HM.1]at this;unfold mayM at this;rw[k1V]at this;simpa[hk] using this
 ·have hmay:mayB st i tt k=true:=by
   rw[HM.1]at hbit;unfold mayM at hbit;rw[k1V]at hbit;simpa[hk] using hbit
  obtain⟨x,r,hq⟩:∃x r,st.q (i,tt,k)=x :: r:=by
   cases h:st.q (i,tt,k) with
   |nil=>unfold mayB at hmay;rw[h]at hmay;cases hmay
   |cons x r=>exact⟨x,r,rfl⟩
  have hpk:=H0.1.2.2.1 i tt k hi htt hk x (by rw[hq];simp);have HQ:=Ab hq;have HPK:=Ab hpk;have HMY:=Ab hmay;have b0:=fun j=>k00 I3.1.node.blk j
  have e0:=decide_eq_false (show ¬(k:Int)<0 by omega);have i3:(k:Int)<(D.lanes:Nat):=zz1
  clear hq hpk hbit hmay hm64;by_cases hi0:i=0
  ·have e1:=decide_eq_false (show ¬(0:Int)<(i:Int) by omega)
   have e1':=decide_eq_false (show ¬0<i by omega);have HI0:=Ab hi0;clear hi0;by_cases ht0:tt=0
   ·have e2:((tt:Int) == 0)=true:=by simp;omega
    have HT0:=Ab ht0;clear ht0
    go_wp2_with(first
     |(go_at_call 129;refine(k3e i tt k x r I3.1.fresh zz6 zz6 zz6 I3.1.node.rings zz1 zz1 zz1 HQ.1).mono ?_;rintro e w4 ⟨rfl,t4,r4⟩;have I4:=Ab (I3.1.to t4 (fun c e=>by rcases e with e|e<;>rw[e]<;>rfl) (I3.1.node.ringsTo t4 r4));have T4:=Ab (T3.1.trans (t4.toN (fun c e=>by rcases e with e|e<;>rw[e]<;>rfl)));have BX:=Ab (heap_alloc_new w4 (.cells #[.int .i64 x.src,.int .i64 x.dst,.int .i64 x.lane,.int .u32 x.body] 40));have BB:=Ac (Below w4.heap.size w4 (w4.alloc (.cells #[.int .i64 x.src,.int .i64 x.dst,.int .i64 x.lane,.int .u32 x.body] 40))) ((Below.refl _ _).alloc (Nat.le_refl _) _);have I5:=Ab (I4.1.blw BB.1);have b4:=fun j=>k00 I4.1.node.blk j;have n1:=k03 I4.1.node.blk;have n2:=I4.1.node.ports.lt rfl;clear t4 r4;have T5:=Ab (T4.1.trans (TrN.blw I4.1.fresh BB.1))))
    obtain⟨q0,q1,q2,q3⟩:=box4 (w:=w) BX.1;have HS6:=Sat.mk (S:=fun(W:World)=>W.cell? ⟨T.g,14,none⟩=some (.pointer (some ⟨T.host,0,none⟩))/\W.cell? ⟨w4.heap.size,0,none⟩=some (.int .i64 x.src)/\W.cell? ⟨w4.heap.size,1,none⟩=some (.int .i64 x.dst)/\W.cell? ⟨w4.heap.size,2,none⟩=some (.int .i64 x.lane)/\W.cell? ⟨w4.heap.size,3,none⟩=some (.int .u32 x.body)) (w:=_) (⟨(k00 I5.1.node.blk 14).trans rfl,q0,q1,q2,q3⟩);clear q0 q1 q2 q3;refine WpL.rg HS6 5 zz2 ?_;refine WpL.T 0 [3,2,1] HS6.1 ?_;refine WpL.T 1 [3,2] HS6.1 ?_;refine WpL.T 2 [3] HS6.1 ?_;refine WpL.T 3 [] HS6.1 ?_;refine WpL.T 4 [] HS6.1 ?_;refine WpL.one (i:=5) zz2 rfl (fun K hK=>?_);go_simp;refine(k5n x (I5.1.blw ((Below.refl _ _).drew)).fresh (I5.1.blw ((Below.refl _ _).drew)).node.host H0.1.2.2.2.2.2).mono ?_;rintro e w8 ⟨rfl,o8,t8,h8⟩;have K8:=Ac (_/\_) (⟨k1Z t8,h8⟩);clear t8 h8;simp only[];refine hK.out _ _ (fun h=>absurd rfl h) ?_;clear hK K
    try refine Sm ?_
    refine WpL.done zz2 ?_ _;go_wp2;go_end0;have hfr:k0F (k0N st i tt k r) i k=k0N st i tt k r:=if_pos HI0.1;refine⟨rfl,o8,_,[],.inr ⟨k,x,r,hk,HMY.1,HQ.1,.inl ⟨HT0.1,rfl,rfl⟩⟩,?_,T5.1.trans (K8.1.1.toN (fun c e=>by rw[e];rfl))⟩;rw[List.append_nil];unfold k21;rw[hfr];exact I5.1.to K8.1.1 (fun c e=>by rw[e];rfl) (I5.1.node.hostTo K8.1.1 K8.1.2)
   ·have e2:((tt:Int) == 0)=false:=by simp;omega
    have ht1:1<=tt:=zz1
    have HT0:=Ab ht0;clear ht0;obtain⟨s,hs⟩:∃s,s=(st.snd tt k).1:=⟨_,rfl⟩;obtain⟨l,hl⟩:∃l,l=(st.snd tt k).2:=⟨_,rfl⟩;have x0:=H0.1.2.1.s0 tt k ht1 htt hk;have x2:=H0.1.2.1.s2 tt k ht1 htt hk;have x3:=H0.1.2.1.s3 tt k ht1 htt hk;have x1:(st.snd tt k).1<(st.snd tt k).2:=by
     have h:=HMY.1;exact zz97
    rw[<- hs]at x0 x1 x2 x3;rw[<- hl]at x1 x2;have HSL:=Ac (s=(st.snd tt k).1/\l=(st.snd tt k).2) (⟨hs,hl⟩);have HF:=Ab (k3o H0.1.2.2.2.1 hk HPK.1 s);obtain⟨xa,xb,y1,y2,y3,y4,y5,y6,y7,y8⟩:=HPK.1;have hn6:=H0.1.2.2.2.1.n1;have z1:0<=x.src:=by omega
    have z2:x.src<=5:=zz1
    have z3:0<=x.dst:=zz1
    have z4:x.dst<=5:=zz1
    have u1:IntKind.u8.wrap x.src=x.src:=IntWalk.u8_in _ zz1;have u2:IntKind.u8.wrap x.dst=x.dst:=IntWalk.u8_in _ zz1;have u3:IntKind.u8.wrap (k:Int)=(k:Int):=IntWalk.u8_in _ zz1;have u4:IntKind.u16.wrap s=s % 65536:=w16 s;clear y1 y2 y3 y4 y5 y6 hs hl
    go_wp2_with(first
     |(go_at_call 129;refine(k3e i tt k x r I3.1.fresh zz6 zz6 zz6 I3.1.node.rings zz1 zz1 zz1 HQ.1).mono ?_;rintro e w4 ⟨rfl,t4,r4⟩;have I4:=Ab (I3.1.to t4 (fun c e=>by rcases e with e|e<;>rw[e]<;>rfl) (I3.1.node.ringsTo t4 r4));have T4:=Ab (T3.1.trans (t4.toN (fun c e=>by rcases e with e|e<;>rw[e]<;>rfl)));have BX:=Ab (heap_alloc_new w4 (.cells #[.int .i64 x.src,.int .i64 x.dst,.int .i64 x.lane,.int .u32 x.body] 40));have BB:=Ac (Below w4.heap.size w4 (w4.alloc (.cells #[.int .i64 x.src,.int .i64 x.dst,.int .i64 x.lane,.int .u32 x.body] 40))) ((Below.refl _ _).alloc (Nat.le_refl _) _);have I5:=Ab (I4.1.blw BB.1);have b4:=fun j=>k00 I4.1.node.blk j;have n1:=k03 I4.1.node.blk;have n2:=I4.1.node.ports.lt rfl;clear t4 r4;obtain⟨_,p1',_⟩:=I4.1.node.port tt htt;obtain⟨l0',_⟩:=I4.1.node.lane tt k ht1 htt hk;rw[show k1v D T tt=.slice (some ⟨T.lb tt,T.lo tt,none⟩) D.lanes (T.lc tt) from if_neg zz1]at p1';have n3':=(I4.1.node.lanes tt ht1 htt).1.lt rfl;have T5:=Ab (T4.1.trans (TrN.blw I4.1.fresh BB.1)))
     |(go_at_call 132;refine(k3Q (T.snd tt k) s l _ _ (by rw[HSL.1.1,HSL.1.2];exact I5.1.node.sndSt tt k ht1 htt hk) x0 x1 x2 zz1).mono ?_;rintro e w7 ⟨rfl,hs⟩;have O7:=Ac (Only (fun b=>o b=.snd v tt k) _ w7) (hs.2.mono (fun b _ e=>by rw[e];exact(I5.1.node.snd tt k ht1 htt hk).1));have I7:=Ab (I5.1.to (Tr.same (S:=fun c=>c=.snd v tt k) I5.1.fresh O7.1) (fun c e=>by rw[e];rfl) (I5.1.node.sndTo I5.1.fresh ht1 htt hk hs));have T7:=Ab (T5.1.trans ((Tr.same (S:=fun c=>c=.snd v tt k) I5.1.fresh O7.1).toN (fun c e=>by rw[e];rfl)));have BX7:=Ab ((hs.2.keep w4.heap.size (k03 BX.1) (by have:=k03 (I4.1.node.snd tt k ht1 htt hk).2;omega)).trans BX.1);obtain⟨q0,q1,q2,q3⟩:=box4 (w:=w7) BX7.1;clear hs)
     |(go_at_call 87;refine(k3i tt (k2H k s x) I7.1.node I7.1.fresh I7.1.say I7.1.lo htt HF.1.1 HF.1.2 H0.1.2.2.2.2.1).mono ?_;rintro e w8 ⟨rfl,hO,hY⟩;have K8:=Ac (_/\_) (⟨hO,hY⟩);clear hO hY))
    go_end0;have hfr:k0F (k0N st i tt k r) i k=k0N st i tt k r:=if_pos HI0.1;refine⟨rfl,o,_,[(k0G D v tt,(k2H k (st.snd tt k).1 x).bytes)],.inr ⟨k,x,r,hk,HMY.1,HQ.1,.inr ⟨zz1,rfl,rfl⟩⟩,?_,T7.1.trans (TrN.say I7.1.fresh K8.1.1)⟩;unfold k3n;rw[hfr];have h:=I7.1.said K8.1.1 K8.1.2;rw[HSL.1.1,HSL.1.2]at h;exact h
  ·have e1:=decide_eq_true (show(0:Int)<(i:Int) by omega)
   have e1':=decide_eq_true (show 0<i by omega);have hi1:1<=i:=zz1
   have HI0:=Ab hi0;clear hi0;by_cases ht0:tt=0
   ·have e2:((tt:Int) == 0)=true:=by simp;omega
    have HT0:=Ab ht0;clear ht0
    go_wp2_with(first
     |(go_at_call 129;refine(k3e i tt k x r I3.1.fresh zz6 zz6 zz6 I3.1.node.rings zz1 zz1 zz1 HQ.1).mono ?_;rintro e w4 ⟨rfl,t4,r4⟩;have I4:=Ab (I3.1.to t4 (fun c e=>by rcases e with e|e<;>rw[e]<;>rfl) (I3.1.node.ringsTo t4 r4));have T4:=Ab (T3.1.trans (t4.toN (fun c e=>by rcases e with e|e<;>rw[e]<;>rfl)));have BX:=Ab (heap_alloc_new w4 (.cells #[.int .i64 x.src,.int .i64 x.dst,.int .i64 x.lane,.int .u32 x.body] 40));have BB:=Ac (Below w4.heap.size w4 (w4.alloc (.cells #[.int .i64 x.src,.int .i64 x.dst,.int .i64 x.lane,.int .u32 x.body] 40))) ((Below.refl _ _).alloc (Nat.le_refl _) _);have I5:=Ab (I4.1.blw BB.1);have b4:=fun j=>k00 I4.1.node.blk j;have n1:=k03 I4.1.node.blk;have n2:=I4.1.node.ports.lt rfl;clear t4 r4;obtain⟨_,p1,_⟩:=I4.1.node.port i hi;obtain⟨_,l1⟩:=I4.1.node.lane i k hi1 hi hk;rw[show k1v D T i=.slice (some ⟨T.lb i,T.lo i,none⟩) D.lanes (T.lc i) from if_neg zz1]at p1;have n3:=(I4.1.node.lanes i hi1 hi).1.lt rfl;have T5:=Ab (T4.1.trans (TrN.blw I4.1.fresh BB.1)))
     |(go_at_call 130;refine(k8a _ _ _ _ _ _ (I5.1.node.rcvSt i k hi1 hi hk) (H0.1.2.1.r2 i k hi1 hi hk) zz101).mono ?_;rintro e w6 ⟨⟨bb,rfl⟩,hs⟩;have O6:=Ac (Only (fun b=>o b=.rcv v i k) _ w6) (hs.2.mono (fun b _ e=>by rw[e];exact(I5.1.node.rcv i k hi1 hi hk).1));have I6:=Ab (I5.1.to (Tr.same (S:=fun c=>c=.rcv v i k) I5.1.fresh O6.1) (fun c e=>by rw[e];rfl) (I5.1.node.rcvTo I5.1.fresh hi1 hi hk hs));have T6:=Ab ((T4.1.trans (TrN.blw I4.1.fresh BB.1)).trans ((Tr.same (S:=fun c=>c=.rcv v i k) I5.1.fresh O6.1).toN (fun c e=>by rw[e];rfl)));have BX6:=Ab ((hs.2.keep w4.heap.size zz6 (by have:=k03 (I4.1.node.rcv i k hi1 hi hk).2;omega)).trans BX.1);have b6:=fun j=>k00 I6.1.node.blk j;clear hs))
    obtain⟨q0,q1,q2,q3⟩:=box4 (w:=w) BX6.1;have HS6:=Sat.mk (S:=fun(W:World)=>W.cell? ⟨T.g,14,none⟩=some (.pointer (some ⟨T.host,0,none⟩))/\W.cell? ⟨w4.heap.size,0,none⟩=some (.int .i64 x.src)/\W.cell? ⟨w4.heap.size,1,none⟩=some (.int .i64 x.dst)/\W.cell? ⟨w4.heap.size,2,none⟩=some (.int .i64 x.lane)/\W.cell? ⟨w4.heap.size,3,none⟩=some (.int .u32 x.body)) (w:=_) (⟨(k00 I6.1.node.blk 14).trans rfl,q0,q1,q2,q3⟩);clear q0 q1 q2 q3;refine WpL.rg HS6 5 zz2 ?_;refine WpL.T 0 [3,2,1] HS6.1 ?_;refine WpL.T 1 [3,2] HS6.1 ?_;refine WpL.T 2 [3] HS6.1 ?_;refine WpL.T 3 [] HS6.1 ?_;refine WpL.T 4 [] HS6.1 ?_;refine WpL.one (i:=5) zz2 rfl (fun K hK=>?_);go_simp;refine(k5n x (I6.1.blw ((Below.refl _ _).drew)).fresh (I6.1.blw ((Below.refl _ _).drew)).node.host H0.1.2.2.2.2.2).mono ?_;rintro e w8 ⟨rfl,o8,t8,h8⟩;have K8:=Ac (_/\_) (⟨k1Z t8,h8⟩);clear t8 h8;simp only[];refine hK.out _ _ (fun h=>absurd rfl h) ?_;clear hK K
    try refine Sm ?_
    refine WpL.done zz2 ?_ _;go_wp2;go_end0;have hfr:k0F (k0N st i tt k r) i k = { k0N st i tt k r with rcv:=upd2 st.rcv i k ((st.rcv i k).1,if(st.rcv i k).2=0 then 0 else(st.rcv i k).2-1) }:=if_neg (by have:=HI0.1;omega);refine⟨rfl,o8,_,[],.inr ⟨k,x,r,hk,HMY.1,HQ.1,.inl ⟨HT0.1,rfl,rfl⟩⟩,?_,T6.1.trans (K8.1.1.toN (fun c e=>by rw[e];rfl))⟩;rw[List.append_nil];unfold k21;rw[hfr];exact I6.1.to K8.1.1 (fun c e=>by rw[e];rfl) (I6.1.node.hostTo K8.1.1 K8.1.2)
   ·have e2:((tt:Int) == 0)=false:=by simp;omega
    have ht1:1<=tt:=zz1
    have HT0:=Ab ht0;clear ht0;obtain⟨s,hs⟩:∃s,s=(st.snd tt k).1:=⟨_,rfl⟩;obtain⟨l,hl⟩:∃l,l=(st.snd tt k).2:=⟨_,rfl⟩;have x0:=H0.1.2.1.s0 tt k ht1 htt hk;have x2:=H0.1.2.1.s2 tt k ht1 htt hk;have x3:=H0.1.2.1.s3 tt k ht1 htt hk;have x1:(st.snd tt k).1<(st.snd tt k).2:=by
     have h:=HMY.1;exact zz97
    rw[<- hs]at x0 x1 x2 x3;rw[<- hl]at x1 x2;have HSL:=Ac (s=(st.snd tt k).1/\l=(st.snd tt k).2) (⟨hs,hl⟩);have HF:=Ab (k3o H0.1.2.2.2.1 hk HPK.1 s);obtain⟨xa,xb,y1,y2,y3,y4,y5,y6,y7,y8⟩:=HPK.1;have hn6:=H0.1.2.2.2.1.n1;have z1:0<=x.src:=by omega
    have z2:x.src<=5:=zz1
    have z3:0<=x.dst:=zz1
    have z4:x.dst<=5:=zz1
    have u1:IntKind.u8.wrap x.src=x.src:=IntWalk.u8_in _ zz1;have u2:IntKind.u8.wrap x.dst=x.dst:=IntWalk.u8_in _ zz1;have u3:IntKind.u8.wrap (k:Int)=(k:Int):=IntWalk.u8_in _ zz1;have u4:IntKind.u16.wrap s=s % 65536:=w16 s;clear y1 y2 y3 y4 y5 y6 hs hl
    go_wp2_with(first
     |(go_at_call 129;refine(k3e i tt k x r I3.1.fresh zz6 zz6 zz6 I3.1.node.rings zz1 zz1 zz1 HQ.1).mono ?_;rintro e w4 ⟨rfl,t4,r4⟩;have I4:=Ab (I3.1.to t4 (fun c e=>by rcases e with e|e<;>rw[e]<;>rfl) (I3.1.node.ringsTo t4 r4));have T4:=Ab (T3.1.trans (t4.toN (fun c e=>by rcases e with e|e<;>rw[e]<;>rfl)));have BX:=Ab (heap_alloc_new w4 (.cells #[.int .i64 x.src,.int .i64 x.dst,.int .i64 x.lane,.int .u32 x.body] 40));have BB:=Ac (Below w4.heap.size w4 (w4.alloc (.cells #[.int .i64 x.src,.int .i64 x.dst,.int .i64 x.lane,.int .u32 x.body] 40))) ((Below.refl _ _).alloc (Nat.le_refl _) _);have I5:=Ab (I4.1.blw BB.1);have b4:=fun j=>k00 I4.1.node.blk j;have n1:=k03 I4.1.node.blk;have n2:=I4.1.node.ports.lt rfl;clear t4 r4;obtain⟨_,p1,_⟩:=I4.1.node.port i hi;obtain⟨_,l1⟩:=I4.1.node.lane i k hi1 hi hk;rw[show k1v D T i=.slice (some ⟨T.lb i,T.lo i,none⟩) D.lanes (T.lc i) from if_neg zz1]at p1;have n3:=(I4.1.node.lanes i hi1 hi).1.lt rfl;obtain⟨_,p1',_⟩:=I4.1.node.port tt htt;obtain⟨l0',_⟩:=I4.1.node.lane tt k ht1 htt hk;rw[show k1v D T tt=.slice (some ⟨T.lb tt,T.lo tt,none⟩) D.lanes (T.lc tt) from if_neg zz1]at p1';have n3':=(I4.1.node.lanes tt ht1 htt).1.lt rfl;have T5:=Ab (T4.1.trans (TrN.blw I4.1.fresh BB.1)))
     |(go_at_call 130;refine(k8a _ _ _ _ _ _ (I5.1.node.rcvSt i k hi1 hi hk) (H0.1.2.1.r2 i k hi1 hi hk) zz101).mono ?_;rintro e w6 ⟨⟨bb,rfl⟩,hs⟩;have O6:=Ac (Only (fun b=>o b=.rcv v i k) _ w6) (hs.2.mono (fun b _ e=>by rw[e];exact(I5.1.node.rcv i k hi1 hi hk).1));have I6:=Ab (I5.1.to (Tr.same (S:=fun c=>c=.rcv v i k) I5.1.fresh O6.1) (fun c e=>by rw[e];rfl) (I5.1.node.rcvTo I5.1.fresh hi1 hi hk hs));have T6:=Ab ((T4.1.trans (TrN.blw I4.1.fresh BB.1)).trans ((Tr.same (S:=fun c=>c=.rcv v i k) I5.1.fresh O6.1).toN (fun c e=>by rw[e];rfl)));have BX6:=Ab ((hs.2.keep w4.heap.size zz6 (by have:=k03 (I4.1.node.rcv i k hi1 hi hk).2;omega)).trans BX.1);have b6:=fun j=>k00 I6.1.node.blk j;clear hs;obtain⟨_,p16,_⟩:=I6.1.node.port tt htt;obtain⟨l06,_⟩:=I6.1.node.lane tt k ht1 htt hk;rw[show k1v D T tt=.slice (some ⟨T.lb tt,T.lo tt,none⟩) D.lanes (T.lc tt) from if_neg zz1]at p16)
     |(go_at_call 132;refine(k3Q (T.snd tt k) s l _ _ (by rw[HSL.1.1,HSL.1.2];exact I6.1.node.sndSt tt k ht1 htt hk) x0 x1 x2 zz1).mono ?_;rintro e w7 ⟨rfl,hs⟩;have O7:=Ac (Only (fun b=>o b=.snd v tt k) _ w7) (hs.2.mono (fun b _ e=>by rw[e];exact(I6.1.node.snd tt k ht1 htt hk).1));have I7:=Ab (I6.1.to (Tr.same (S:=fun c=>c=.snd v tt k) I6.1.fresh O7.1) (fun c e=>by rw[e];rfl) (I6.1.node.sndTo I6.1.fresh ht1 htt hk hs));have T7:=Ab (T6.1.trans ((Tr.same (S:=fun c=>c=.snd v tt k) I6.1.fresh O7.1).toN (fun c e=>by rw[e];rfl)));have BX7:=Ab ((hs.2.keep w4.heap.size (k03 BX6.1) (by have:=k03 (I4.1.node.snd tt k ht1 htt hk).2;omega)).trans BX6.1);obtain⟨q0,q1,q2,q3⟩:=box4 (w:=w7) BX7.1;clear hs)
     |(go_at_call 87;refine(k3i tt (k2H k s x) I7.1.node I7.1.fresh I7.1.say I7.1.lo htt HF.1.1 HF.1.2 H0.1.2.2.2.2.1).mono ?_;rintro e w8 ⟨rfl,hO,hY⟩;have K8:=Ac (_/\_) (⟨hO,hY⟩);clear hO hY))
    go_end0;have hfr:k0F (k0N st i tt k r) i k = { k0N st i tt k r with rcv:=upd2 st.rcv i k ((st.rcv i k).1,if(st.rcv i k).2=0 then 0 else(st.rcv i k).2-1) }:=if_neg (by have:=HI0.1;omega);refine⟨rfl,o,_,[(k0G D v tt,(k2H k (st.snd tt k).1 x).bytes)],.inr ⟨k,x,r,hk,HMY.1,HQ.1,.inr ⟨zz1,rfl,rfl⟩⟩,?_,T7.1.trans (TrN.say I7.1.fresh K8.1.1)⟩;unfold k3n;rw[hfr];have h:=I7.1.said K8.1.1 K8.1.2;rw[HSL.1.1,HSL.1.2]at h;exact h
end
def ctlF(c:Int)(k:Nat)(n:Int):Wire.Fr:=⟨c,k,n % 65536,0,0,0⟩
theorem k1O{c:Int}(hc:c=2\/c=3){k:Nat}(hk:k<3)(n:Int):(ctlF c k n).wf/\(ctlF c k n).sound=true:=by
 refine⟨⟨⟨by show 0<=c;omega,by show c<=255;omega⟩,⟨by show(0:Int)<=(k:Int);omega,by show(k:Int)<=255;omega⟩,⟨by show 0<=n % 65536;omega,by show n % 65536<=65535;omega⟩,⟨by show(0:Int)<=0;omega,by show(0:Int)<=255;omega⟩,⟨by show(0:Int)<=0;omega,by show(0:Int)<=255;omega⟩,⟨by show(0:Int)<=0;omega,by show(0:Int)<=4294967295;omega⟩⟩,?_⟩;exact Wire.sound_iff.2 ⟨by show(k:Int)<3;omega,.inr ⟨hc,rfl,rfl,rfl⟩⟩
def k5G(D:PlanD)(v:Nat)(st:NSt)(i k:Nat):List OutP:=(List.range k).flatMap fun k=>[(k0G D v i,(ctlF 3 k (st.snd i k).1).bytes),(k0G D v i,(ctlF 2 k ((st.rcv i k).1+(D.room-(st.rcv i k).2))).bytes)]
def k1f(D:PlanD)(v:Nat)(st:NSt)(n:Nat):List OutP:=(List.range n).flatMap fun i=>if i=0 then[] else k5G D v st i D.lanes
theorem k8r(D:PlanD)(v:Nat)(st:NSt)(i k:Nat):k5G D v st i (k+1)=k5G D v st i k++[(k0G D v i,(ctlF 3 k (st.snd i k).1).bytes)]++[(k0G D v i,(ctlF 2 k ((st.rcv i k).1+(D.room-(st.rcv i k).2))).bytes)]:=by simp[k5G,List.range_succ]
theorem k6r(D:PlanD)(v:Nat)(st:NSt)(i k:Nat):(k5G D v st i k).length=k*2:=k3h _ 2 (fun _=>rfl) k
theorem k2Q(D:PlanD)(v:Nat)(st:NSt)(n:Nat):k1f D v st (n+1)=k1f D v st n++(if n=0 then[] else k5G D v st n D.lanes):=by simp[k1f,List.range_succ]
theorem k2B(D:PlanD)(v:Nat)(st:NSt):∀n,(k1f D v st n).length<=n*(D.lanes*2)
 |0=>by simp[k1f]
 |n+1=>by
  have:=k2B D v st n;rw[k2Q,List.length_append,Nat.succ_mul];split
  ·exact zz20
  ·rw[k6r];omega
section
variable{w:World}{o:Nat->Col}{v:Nat}{D:PlanD}{T:NTab}{st:NSt}{lo ob nb:Nat}{outs:List OutP}
theorem k4O(I:InTick D v lo ob nb T w o st outs)(G:Good D)(hv:v<D.nodes)(N:k9R D v st)(hlen:outs.length<=9000) :
 Calls Tryz.prog 93 #[.pointer (some ⟨T.g,0,none⟩),.func (.func 87) #[] #[.pointer (some ⟨ob,0,none⟩),.pointer (some ⟨nb,0,none⟩)]] w fun e w'=>e=.returned (.tuple #[])/\InTick D v lo ob nb T w' o st (outs++k1f D v st (np D v))/\TrN v lo o w o w':=by
 have hl3:=G.l1;have hnp:=k2t G hv;have H0:=Ac (_/\_/\_/\_) (⟨I,N,G,hlen⟩);have b0:=fun j=>k00 I.node.blk j
 clear I G N hlen;go_enter Tryz.func93,Tryz.ntmps93;go_wp2;clear b0
 go_loopw [13] (fun s13 wr=>∃i:Nat,i<=np D v/\s13=.int .i64 i/\k07 (InTick D v lo ob nb T wr o st (outs++k1f D v st i)/\TrN v lo o w o wr)) (fun s13 _=>np D v-ixOf s13)
 case atStart=>exact⟨0,zz1,rfl,⟨by rw[show k1f D v st 0=[] from rfl,List.append_nil];exact H0.1.1,TrN.refl H0.1.1.fresh⟩⟩
 case round=>
  obtain⟨i,hi,rfl,R⟩:=hrel;by_cases hlt:i<np D v
  ·have e1:(i:Int)<(np D v:Nat):=by omega
   obtain⟨p0,p1,p2⟩:=R.1.1.node.port i hlt;by_cases hi0:i=0
   ·rw[show k1v D T i=.slice none 0 0 from if_pos hi0]at p1
    have HI:=Ab hi0;clear hi0;go_wp2;have B1:=Ac (Below wr.heap.size wr (wr.alloc (.cells #[.int .i64 (k0G D v i:Nat),.slice none 0 0,.pointer (some ⟨T.whl i,0,none⟩)] 141))) ((Below.refl _ _).alloc (Nat.le_refl _) _)
    go_loopw [21] (fun s21 W=>s21=.int .i64 0/\W=wr.alloc (.cells #[.int .i64 (k0G D v i:Nat),.slice none 0 0,.pointer (some ⟨T.whl i,0,none⟩)] 141)) (fun s21 _=>0)
    case atStart=>exact⟨rfl,rfl⟩
    case round=>
     obtain⟨rfl,rfl⟩:=hrel;go_wp2;refine⟨⟨i+1,zz1,rfl,⟨?_,R.1.2.trans (TrN.blw R.1.1.fresh B1.1)⟩⟩,?_⟩
     ·rw[k2Q,if_pos HI.1,List.append_nil]
      exact R.1.1.blw B1.1
     ·show np D v-ixOf (.int .i64 ((i:Int)+1))<np D v-ixOf (.int .i64 (i:Int))
      simp only[ixOf];exact zz1
   ·have hi1:1<=i:=by omega
    rw[show k1v D T i=.slice (some ⟨T.lb i,T.lo i,none⟩) D.lanes (T.lc i) from if_neg hi0]at p1;clear hi0;go_wp2;have B1:=Ac (Below wr.heap.size wr (wr.alloc (.cells #[.int .i64 (k0G D v i:Nat),.slice (some ⟨T.lb i,T.lo i,none⟩) D.lanes (T.lc i),.pointer (some ⟨T.whl i,0,none⟩)] 141))) ((Below.refl _ _).alloc (Nat.le_refl _) _);clear p0 p1 p2
    go_loopw [21] (fun s21 W=>∃k:Nat,k<=D.lanes/\s21=.int .i64 k/\k07 (InTick D v lo ob nb T W o st (outs++k1f D v st i++k5G D v st i k)/\TrN v lo o w o W)) (fun s21 _=>D.lanes-ixOf s21)
    case atStart=>exact⟨0,zz1,rfl,⟨by rw[show k5G D v st i 0=[] from rfl,List.append_nil];exact R.1.1.blw B1.1,R.1.2.trans (TrN.blw R.1.1.fresh B1.1)⟩⟩
    case round=>
     clear B1 R;obtain⟨k,hk,rfl,R⟩:=hrel;by_cases hlk:k<D.lanes
     ·have e2:(k:Int)<(D.lanes:Nat):=by omega
      obtain⟨l0,l1⟩:=R.1.1.node.lane i k hi1 hlt hlk;have u3:IntKind.u8.wrap (k:Int)=(k:Int):=IntWalk.u8_in _ zz1;obtain⟨s,hs⟩:∃s,s=(st.snd i k).1:=⟨_,rfl⟩;obtain⟨rn,hrn⟩:∃rn,rn=(st.rcv i k).1+(D.room-(st.rcv i k).2):=⟨_,rfl⟩;have u4:IntKind.u16.wrap s=s % 65536:=w16 s;have u5:IntKind.u16.wrap rn=rn % 65536:=w16 rn;have HK:=Ac (_/\_) (⟨hs,hrn⟩);have hb1:(k1f D v st i).length<=36:=by
       have h1:=k2B D v st i;have h2:i*(D.lanes*2)<=6*(3*2):=Nat.mul_le_mul zz1 zz1;exact zz1
      have hb2:(k5G D v st i k).length<=6:=by rw[k6r];omega
      have HB:=Ac (_/\_) (⟨hb1,hb2⟩);have B2:=Ac (Below wr.heap.size wr (wr.alloc (.cells #[.pointer (some ⟨T.snd i k,0,none⟩),.pointer (some ⟨T.rcv i k,0,none⟩)] 148))) ((Below.refl _ _).alloc (Nat.le_refl _) _);have I2:=Ab (R.1.1.blw B2.1);have Z2:=Ab (heap_alloc_new wr (.cells #[.pointer (some ⟨T.snd i k,0,none⟩),.pointer (some ⟨T.rcv i k,0,none⟩)] 148));obtain⟨xb,hxb⟩:∃xb,xb=wr.heap.size:=⟨_,rfl⟩;have HXB:=Ab hxb;clear hs hrn hb1 hb2 hxb
      go_wp2_with(first
       |(go_at_call 85;refine(k1M (T.snd i k) s (st.snd i k).2 _ _ (by rw[HK.1.1];exact I2.1.node.sndSt i k hi1 hlt hlk)).mono ?_;rintro e w3 ⟨rfl,h3⟩;have B3:=Ab ((I2.1.node.sndSt i k hi1 hlt hlk).blw (by rw[HK.1.1]at h3;exact h3));have I3:=Ab (I2.1.blw B3.1);clear h3)
       |(go_at_call 87;refine(k3i i (ctlF 2 k rn) I5.1.node I5.1.fresh I5.1.say I5.1.lo hlt (k1O (.inl rfl) zz1 rn).1 (k1O (.inl rfl) zz1 rn).2 (by have:=H0.1.2.2.2;have:=HB.1.1;have:=HB.1.2;simp only[List.length_append,List.length_singleton];omega)).mono ?_;rintro e w6 ⟨rfl,hO,hY⟩;have O6:=Ab hO;have I6:=Ab (I5.1.said hO hY);clear hO hY)
       |(go_at_call 87;refine(k3i i (ctlF 3 k s) I3.1.node I3.1.fresh I3.1.say I3.1.lo hlt (k1O (.inr rfl) zz1 s).1 (k1O (.inr rfl) zz1 s).2 (by have:=H0.1.2.2.2;have:=HB.1.1;have:=HB.1.2;simp only[List.length_append];omega)).mono ?_;rintro e w4 ⟨rfl,hO,hY⟩;have O4:=Ab hO;have I4:=Ab (I3.1.said hO hY);have Z3:=(B3.1.block _ zz6).trans Z2.1;have Z4:=(hO.keep _ (k03 Z3) (fun h=>by obtain⟨_,_,cur,T,h3,h4⟩:=h;rw[Z3]at h3;injection h3 with h3;injection h3 with h5 h6;subst h6;rcases h4 with h4|h4<;>cases h4)).trans Z3;have b4:=(k00 Z4 1).trans rfl;have Z4':=Ab Z4;clear hO hY Z3 Z4)
       |(go_at_call 80;refine(k6y (T.rcv i k) (st.rcv i k).1 (st.rcv i k).2 D.room _ _ (I4.1.node.rcvSt i k hi1 hlt hlk) (H0.1.2.1.r0 i k hi1 hlt hlk) (by have:=H0.1.2.1.r1 i k hi1 hlt hlk;omega) (H0.1.2.1.r2 i k hi1 hlt hlk) (H0.1.2.1.r3 i k hi1 hlt hlk) (by have:=H0.1.2.2.1.r1;omega)).mono ?_;rw[<- HK.1.2];rintro e w5 ⟨rfl,h5⟩;have B5:=Ab ((I4.1.node.rcvSt i k hi1 hlt hlk).blw h5);have I5:=Ab (I4.1.blw B5.1);clear h5))
      refine⟨⟨k+1,zz1,rfl,⟨?_,?_⟩⟩,?_⟩
      ·rw[k8r,<- HK.1.1,<- HK.1.2,<- List.append_assoc,<- List.append_assoc]
       exact I6.1
      ·exact(((R.1.2.trans (TrN.blw R.1.1.fresh (B2.1.trans (B3.1.mono B2.1.size)))).trans (TrN.say I3.1.fresh O4.1)).trans (TrN.blw I4.1.fresh B5.1)).trans (TrN.say I5.1.fresh O6.1)
      ·show D.lanes-ixOf (.int .i64 ((k:Int)+1))<D.lanes-ixOf (.int .i64 (k:Int))
       simp only[ixOf];exact zz1
     ·have e2:¬(k:Int)<(D.lanes:Nat):=by omega
      obtain rfl:k=D.lanes:=by omega
      go_wp2;refine⟨⟨i+1,zz1,rfl,⟨?_,R.1.2⟩⟩,?_⟩
      ·rw[k2Q,if_neg zz1,<- List.append_assoc]
       exact R.1.1
      ·show np D v-ixOf (.int .i64 ((i:Int)+1))<np D v-ixOf (.int .i64 (i:Int))
       simp only[ixOf];exact zz1
  ·have e1:¬(i:Int)<(np D v:Nat):=by omega
   obtain rfl:i=np D v:=by omega
   go_wp2;go_end0;exact⟨rfl,R.1⟩
end
def MovesTo(D:PlanD)(v:Nat)(ms:Nat->Int):Nat->NSt->NSt->List OutP->Prop
 |0,s,s',os=>s'=s/\os=[]
 |i+1,s,s',os=>∃s1 o1 o2,MovesTo D v ms i s s1 o1/\((0<=ms i/\MoveRel D v i (ms i).toNat s1 s' o2)\/(ms i<0/\s'=s1/\o2=[]))/\os=o1++o2
def TickRel(D:PlanD)(v:Nat)(st st':NSt)(os:List OutP):Prop:=
 ∃s1 ms s2 o2,FedTo D v st D.lanes s1/\k2W (k42 D v s1) (np D v) ms/\(∀i0 k0,k2k (k42 D v s1) (np D v) i0 k0->ms i0=(k0:Nat))/\MovesTo D v ms (np D v) s1 s2 o2/\st' = { s2 with ticks:=s2.ticks+1 }/\os=o2++(if(s2.ticks+1) % D.every=0 then k1f D v s2 (np D v) else[])
def kdy(D:PlanD)(v:Nat)(M:Int)(st:NSt):Prop:=∀i k,1<=i->i<np D v->k<D.lanes->(st.snd i k).1<=M/\(st.rcv i k).1<=M
structure NodeOk(D:PlanD)(v:Nat)(M:Int)(C:Nat)(st:NSt):Prop where
 num:k9R D v st
 lt:kdy D v M st
 q:QOk D v st
 w:k70 D st
 came:(st.waits 3).length<=C
 wl:∀k,k<D.lanes->(st.waits k).length<=D.queue
theorem FedTo.same{D:PlanD}{v:Nat}{st:NSt}:∀{n:Nat}{st':NSt},FedTo D v st n st'->st'.snd=st.snd/\st'.rcv=st.rcv/\st'.ticks=st.ticks
 |0,st',h=>by obtain rfl:st'=st:=h;exact⟨rfl,rfl,rfl⟩
 |n+1,st',h=>by
  obtain⟨s,h1,h2⟩:=h;obtain⟨a,b,c⟩:=FedTo.same h1;rcases h2 with⟨_,rfl⟩|⟨_,_,rfl⟩|⟨x,r,_,_,q',rfl,_⟩<;>exact⟨a,b,c⟩
theorem FedTo.waits{D:PlanD}{v:Nat}{st:NSt}:∀{n:Nat}{st':NSt},FedTo D v st n st'->∀j,(n<=j->st'.waits j=st.waits j)/\(st'.waits j).length<=(st.waits j).length
 |0,st',h,j=>by obtain rfl:st'=st:=h;exact⟨fun _=>rfl,Nat.le_refl _⟩
 |n+1,st',h,j=>by
  obtain⟨s,h1,h2⟩:=h;obtain⟨a,b⟩:=FedTo.waits h1 j;rcases h2 with⟨_,rfl⟩|⟨_,_,rfl⟩|⟨x,r,_,hw,q',rfl,_⟩
  ·exact⟨fun hj=>a zz1,b⟩
  ·exact⟨fun hj=>a zz1,b⟩
  ·by_cases e:j=n
   ·subst e
    refine⟨fun hj=>by omega,?_⟩;show(upd s.waits j r j).length<=_;rw[k04];rw[hw]at b;simp at b;exact zz1
   ·show(_->upd s.waits n r j=_)/\(upd s.waits n r j).length<=_
    rw[k06 _ _ e];exact⟨fun hj=>a zz1,b⟩
theorem QOk.push{D:PlanD}{v:Nat}{q:Way->List Pk}(h:∀i j k:Nat,i<np D v->j<np D v->k<D.lanes->∀x∈q (i,j,k),PkIn D k x){a:Way}{x:Pk}(hx:PkIn D a.2.2 x):∀i j k:Nat,i<np D v->j<np D v->k<D.lanes->∀y∈updw q a (q a++[x]) (i,j,k),PkIn D k y:=by
 intro i j k h1 h2 h3 y hy;by_cases e:(i,j,k)=a
 ·subst e
  rw[k0m]at hy;rcases List.mem_append.1 hy with hy|hy
  ·exact h i j k h1 h2 h3 y hy
  ·simp at hy;subst hy;exact hx
 ·rw[k0i _ _ e]at hy;exact h i j k h1 h2 h3 y hy
theorem FedTo.qok{D:PlanD}{v:Nat}{st:NSt}(hw:k70 D st)(hq:QOk D v st):∀{n:Nat}{st':NSt},n<=D.lanes->FedTo D v st n st'->k70 D st'/\QOk D v st'
 |0,st',_,h=>by obtain rfl:st'=st:=h;exact⟨hw,hq⟩
 |n+1,st',hn,h=>by
  obtain⟨s,h1,h2⟩:=h;obtain⟨a,b⟩:=FedTo.qok hw hq zz1 h1;rcases h2 with⟨_,rfl⟩|⟨_,_,rfl⟩|⟨x,r,_,hx,q',rfl,hq'⟩
  ·exact⟨a,b⟩
  ·exact⟨a,b⟩
  ·have hpx:=a n zz1 x (by rw[hx];simp)
   refine⟨fun j hj y hy=>?_,?_⟩
   ·by_cases e:j=n
    ·subst e
     have hy':y∈r:=by have:y∈upd s.waits j r j:=hy;rwa [k04]at this
     exact a j hj y (by rw[hx];exact List.mem_cons_of_mem _ hy')
    ·have hy':y∈s.waits j:=by have:y∈upd s.waits n r j:=hy;rwa [k06 _ _ e]at this
     exact a j hj y hy'
   ·rcases hq' with rfl|⟨rfl,_⟩
    ·exact QOk.push b hpx
    ·exact b
theorem FedTo.ok{D:PlanD}{v:Nat}{M:Int}{C:Nat}{st st':NSt}(G:Good D)(h:NodeOk D v M C st)(f:FedTo D v st D.lanes st'):NodeOk D v M C st':=by
 obtain⟨a,b,c⟩:=f.same;obtain⟨d,e⟩:=FedTo.qok h.w h.q (Nat.le_refl _) f;refine⟨⟨by rw[a];exact h.num.s0,by rw[a];exact h.num.s1,by rw[a];exact h.num.s2,by rw[a];exact h.num.s3,by rw[b];exact h.num.r0,by rw[b];exact h.num.r1,by rw[b];exact h.num.r2,by rw[b];exact h.num.r3⟩,by unfold kdy;rw[a,b];exact h.lt,e,d,?_,fun k hk=>Nat.le_trans (f.waits k).2 (h.wl k hk)⟩;exact Nat.le_trans (f.waits 3).2 h.came
theorem MoveRel.ok{D:PlanD}{v i tt:Nat}{M:Int}{C:Nat}{st st':NSt}{os:List OutP}(G:Good D)(h:NodeOk D v M C st)(hM:M+1<=1000000)(hi:i<np D v)(ht:tt<np D v)(m:MoveRel D v i tt st st' os):NodeOk D v (M+1) (C+1) st'/\os.length<=1/\st'.ticks=st.ticks:=by
 have mono:NodeOk D v (M+1) (C+1) st:=⟨h.num,fun i k a b c=>by have:=h.lt i k a b c;omega,h.q,h.w,by have:=h.came;omega,h.wl⟩;rcases m with⟨_,rfl,rfl⟩|⟨k,x,r,hk,hb,hq,hm⟩
 ·exact⟨mono,zz6,rfl⟩
 ·have hpop:NodeOk D v (M+1) (C+1) (k0N st i tt k r):=⟨⟨h.num.s0,h.num.s1,h.num.s2,h.num.s3,h.num.r0,h.num.r1,h.num.r2,h.num.r3⟩,mono.lt,fun a b c h1 h2 h3 y hy=>by
   by_cases e:(a,b,c)=(i,tt,k)
   ·have hy':y∈r:=by have:y∈updw st.q (i,tt,k) r (a,b,c):=hy;rw[e,k0m]at this;exact this
    cases e;exact h.q i tt k h1 h2 h3 y (by rw[hq];exact List.mem_cons_of_mem _ hy')
   ·have hy':y∈st.q (a,b,c):=by have:y∈updw st.q (i,tt,k) r (a,b,c):=hy;rwa [k0i _ _ e]at this
    exact h.q a b c h1 h2 h3 y hy',h.w,mono.came,h.wl⟩
  have hfr:NodeOk D v (M+1) (C+1) (k0F (k0N st i tt k r) i k):=by
   unfold k0F;split
   ·exact hpop
   ·rename_i hi0
    have hr:∀a b,1<=a->a<np D v->b<D.lanes->(upd2 st.rcv i k ((st.rcv i k).1,if(st.rcv i k).2=0 then 0 else(st.rcv i k).2-1) a b).1=(st.rcv a b).1/\0<=(upd2 st.rcv i k ((st.rcv i k).1,if(st.rcv i k).2=0 then 0 else(st.rcv i k).2-1) a b).2/\(upd2 st.rcv i k ((st.rcv i k).1,if(st.rcv i k).2=0 then 0 else(st.rcv i k).2-1) a b).2<=D.room:=fun a b h1 h2 h3=>by
     have r2:=h.num.r2 a b h1 h2 h3;have r3:=h.num.r3 a b h1 h2 h3;by_cases e:a=i/\b=k
     ·obtain⟨rfl,rfl⟩:=e
      rw[k0l];refine⟨rfl,?_,?_⟩<;>dsimp only<;>split<;>omega
     ·rw[k0h _ _ _ _ e];exact⟨rfl,r2,r3⟩
    refine⟨⟨h.num.s0,h.num.s1,h.num.s2,h.num.s3,fun a b h1 h2 h3=>?_,fun a b h1 h2 h3=>?_,fun a b h1 h2 h3=>(hr a b h1 h2 h3).2.1,fun a b h1 h2 h3=>(hr a b h1 h2 h3).2.2⟩,fun a b h1 h2 h3=>⟨(mono.lt a b h1 h2 h3).1,?_⟩,hpop.q,h.w,mono.came,h.wl⟩
    ·have:=(hr a b h1 h2 h3).1;have h4:=h.num.r0 a b h1 h2 h3;rw[<- this]at h4;exact h4
    ·have:=(hr a b h1 h2 h3).1;have h4:=h.num.r1 a b h1 h2 h3;rw[<- this]at h4;exact h4
    ·have:=(hr a b h1 h2 h3).1;have h4:=(mono.lt a b h1 h2 h3).2;rw[<- this]at h4;exact h4
  have hsn:(k0F (k0N st i tt k r) i k).snd=st.snd:=by unfold k0F;split<;>rfl
  have hwt:(k0F (k0N st i tt k r) i k).waits=st.waits:=by unfold k0F;split<;>rfl
  have htk:(k0F (k0N st i tt k r) i k).ticks=st.ticks:=by unfold k0F;split<;>rfl
  have hl3:=G.l1;rcases hm with⟨_,rfl,rfl⟩|⟨ht0,rfl,rfl⟩
  ·refine⟨⟨⟨hfr.num.s0,hfr.num.s1,hfr.num.s2,hfr.num.s3,hfr.num.r0,hfr.num.r1,hfr.num.r2,hfr.num.r3⟩,hfr.lt,hfr.q,fun j hj y hy=>?_,?_,fun j hj=>?_⟩,zz6,htk⟩
   ·have hy':y∈upd (k0F (k0N st i tt k r) i k).waits 3 _ j:=hy
    rw[k06 _ _ zz1]at hy';exact hfr.w j hj y hy'
   ·have e:(k21 (k0F (k0N st i tt k r) i k) x).waits 3=(k0F (k0N st i tt k r) i k).waits 3++[x]:=by simp[k21,upd]
    rw[e,hwt];have:=h.came;exact zz84
   ·show(upd (k0F (k0N st i tt k r) i k).waits 3 _ j).length<=_
    rw[k06 _ _ zz1];exact hfr.wl j hj
  ·have hlt:(st.snd tt k).1<(st.snd tt k).2:=by
    unfold mayB at hb;rw[show(tt == 0)=false from by simp[ht0]]at hb;simp at hb;exact hb.2
   have hs:∀a b,1<=a->a<np D v->b<D.lanes->0<=(upd2 st.snd tt k ((st.snd tt k).1+1,(st.snd tt k).2) a b).1/\(upd2 st.snd tt k ((st.snd tt k).1+1,(st.snd tt k).2) a b).1<=(upd2 st.snd tt k ((st.snd tt k).1+1,(st.snd tt k).2) a b).2/\(upd2 st.snd tt k ((st.snd tt k).1+1,(st.snd tt k).2) a b).2<=(upd2 st.snd tt k ((st.snd tt k).1+1,(st.snd tt k).2) a b).1+8/\(upd2 st.snd tt k ((st.snd tt k).1+1,(st.snd tt k).2) a b).1<=M+1:=fun a b h1 h2 h3=>by
    have s0:=h.num.s0 a b h1 h2 h3;have s1:=h.num.s1 a b h1 h2 h3;have s2:=h.num.s2 a b h1 h2 h3;have s3:=(h.lt a b h1 h2 h3).1;by_cases e:a=tt/\b=k
    ·obtain⟨rfl,rfl⟩:=e
     rw[k0l];dsimp only;exact zz1
    ·rw[k0h _ _ _ _ e];omega
   refine⟨⟨⟨fun a b h1 h2 h3=>?_,fun a b h1 h2 h3=>?_,fun a b h1 h2 h3=>?_,fun a b h1 h2 h3=>?_,hfr.num.r0,hfr.num.r1,hfr.num.r2,hfr.num.r3⟩,fun a b h1 h2 h3=>⟨?_,(hfr.lt a b h1 h2 h3).2⟩,hfr.q,hfr.w,hfr.came,hfr.wl⟩,zz6,htk⟩
   all_goals
    unfold k3n;rw[hsn];have:=hs a b h1 h2 h3;dsimp only;exact zz1
theorem MovesTo.ok{D:PlanD}{v:Nat}{ms:Nat->Int}{rs:List Nat}{M:Int}{C:Nat}{st:NSt}(G:Good D)(hm:k2W rs (np D v) ms)(h:NodeOk D v M C st):∀{n:Nat}{st':NSt}{os:List OutP},n<=np D v->M+n<=1000000->MovesTo D v ms n st st' os->NodeOk D v (M+n) (C+n) st'/\os.length<=n/\st'.ticks=st.ticks
 |0,st',os,_,_,hh=>by
  obtain⟨rfl,rfl⟩:=hh;exact⟨zz74,zz6,rfl⟩
 |n+1,st',os,hn,hM,hh=>by
  obtain⟨s1,o1,o2,h1,h2,rfl⟩:=hh;obtain⟨a,b,c⟩:=MovesTo.ok G hm h zz1 zz1 h1;rcases h2 with⟨h3,h4⟩|⟨_,rfl,rfl⟩
  ·obtain⟨k,hk,e,_⟩:∃k,k<np D v/\ms n=(k:Nat)/\True:=by
    rcases hm n zz1 with e|⟨k,hk,e,_⟩
    ·exact zz1
    ·exact⟨k,hk,e,trivial⟩
   obtain⟨x,y,z⟩:=MoveRel.ok G a zz1 (by omega:n<np D v) (by rw[e];simpa using hk) h4;refine⟨?_,by simp;omega,z.trans c⟩;have e1:M+((n+1:Nat):Int)=M+n+1:=by omega
   rw[e1];exact x
  ·refine⟨⟨a.num,fun i k h1 h2 h3=>?_,a.q,a.w,by have:=a.came;omega,a.wl⟩,by simp;omega,c⟩
   have:=a.lt i k h1 h2 h3;exact zz1
end Go.Proofs.YtdopmlopafgonaaGreatDoor.Own
