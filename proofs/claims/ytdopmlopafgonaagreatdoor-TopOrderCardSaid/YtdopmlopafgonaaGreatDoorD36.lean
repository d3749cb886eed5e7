/- TopOrder: of each flow what came is some of what was injected, in its order (a part of the walks and of the plain laws). -/
import Derived.Test.YtdopmlopafgonaaGreatDoorD0
import Derived.Test.YtdopmlopafgonaaGreatDoorD34
import Derived.Test.YtdopmlopafgonaaGreatDoorD35
set_option linter.unusedVariables false
set_option linter.unusedSimpArgs false
set_option maxHeartbeats 4000000
set_option maxRecDepth 100000
namespace Go.Proofs.YtdopmlopafgonaaGreatDoor.Own
open Go.RowKit Go.Proofs.YtdopmlopafgonaaGreatDoorW.PrintWords Go.Proofs.YtdopmlopafgonaaGreatDoorW.PrintLast Go.Proofs.YtdopmlopafgonaaGreatDoorW.PrintMore
def CRows(D:PlanD)(rows:List Value)(lo nb no nc:Nat)(W:World)(k:Nat):Prop:=
 ∃rs,Row W (.slice (some ⟨nb,no,none⟩) D.next.length nc) 29 1 D.next.length rs (some nb)/\∀i r,D.next[i]? = some r->∃u,rs[i]? = some u/\(k<=i->rows[i]? = some u)/\(i<k->∃g,Row W u 3 1 r.length (i64s r) g/\∀b,g=some b->lo<=b/\b≠nb)
theorem kas{D:PlanD}{W:World}{rs:List Value}{lo:Nat}(h:∀(i:Nat)(r:List Nat),D.next[i]? = some r->∃u,rs[i]? = some u/\∃g,Row W u 3 1 r.length (i64s r) g/\∀b,g=some b->lo<=b):∃gs:Nat->Option Nat,∀(i:Nat)(r:List Nat),D.next[i]? = some r->∃u,rs[i]? = some u/\Row W u 3 1 r.length (i64s r) (gs i)/\∀b,gs i=some b->lo<=b:=by
 have h2:∀i:Nat,∃g:Option Nat,∀r:List Nat,D.next[i]? = some r->∃u,rs[i]? = some u/\Row W u 3 1 r.length (i64s r) g/\∀b,g=some b->lo<=b:=fun i=>by
  cases hr:D.next[i]? with
  |none=>exact⟨none,fun r h=>by cases h⟩
  |some r=>
   obtain⟨u,h1,g,h3,h4⟩:=h i r hr;exact⟨g,fun r' e=>by cases e;exact⟨u,h1,h3,h4⟩⟩
 exact⟨fun i=>Classical.choose (h2 i),fun i=>Classical.choose_spec (h2 i)⟩
theorem k80(l:List Nat):∀u∈i64s l,u.oneCell'=true:=fun u hu=>by obtain⟨x,_,rfl⟩:=List.mem_map.1 hu;rfl
theorem k6w(l:List (Nat×Nat)):∀u∈k0d l,u.oneCell'=true:=fun u hu=>by
 unfold k0d at hu;obtain⟨x,_,hx⟩:=List.mem_flatMap.1 hu;simp at hx;rcases hx with rfl|rfl<;>rfl
theorem k2Z(B:Nat->Prop)(v:Value)(D:PlanD)(w:World)(hP:PlanV w B v D)(G:Good D) :
 Calls Tryz.prog 36 #[v] w fun e w'=>∃v',e=.returned v'/\PlanV w' (fun b=>w.heap.size<=b) v' D/\Below w.heap.size w w':=by
 obtain⟨A1,c1,A2,c2,A3,c3,rfl⟩:=hP.shape;obtain⟨ev,wv,nv,rows,ge,gw,gn,gs,hv,r1,r2,r3,r4,b1,b2,b3⟩:=hP;simp only[pagg,Value.agg.injEq,Array.mk.injEq,List.cons.injEq,true_and,and_true]at hv;obtain⟨rfl,rfl,rfl⟩:=hv;have RR:=Ac (_/\_/\_/\(∀i r,D.next[i]? = some r->∃u,rows[i]? = some u/\Row w u 3 1 r.length (i64s r) (gs i))) (⟨r1,r2,r3,fun i r h=>by obtain⟨u,a,b,_⟩:=r4 i r h;exact⟨u,a,b⟩⟩);have HL:=Ac (D.edges.length<=100000/\D.weights.length<=100000/\D.next.length<=100000/\0<D.next.length/\∀r∈D.next,r.length<=100000) (⟨by have:=G.el;omega,by have:=G.wl;have:=G.l1;omega,by have:=G.nl;have:=G.n1;omega,by have:=G.nl;have:=G.n0;omega,fun r hr=>by have:=G.nr r hr;have:=G.n1;omega⟩);have OR:=Ac (∀u∈rows,u.oneCell'=true) (fun u hu=>by
  obtain⟨i,hi⟩:=List.mem_iff_getElem?.1 hu;have hlt:=(List.getElem?_eq_some_iff.1 hi).1;obtain⟨r,hr⟩:∃r,D.next[i]? = some r:=⟨_,List.getElem?_eq_getElem (by have:=r3.1;omega)⟩;obtain⟨u',h1,h2,_⟩:=r4 i r hr;rw[hi]at h1;cases h1;obtain⟨A,cap,rfl,_⟩:=h2.size;rfl)
 obtain⟨w1,hw1⟩:∃w1,w1=(w.alloc (pbox D A1 c1 A2 c2 A3 c3)).alloc (.cells #[.int .i64 0,.slice none 0 0,.int .i64 0,.int .i64 0,.int .i64 0,.int .i64 0,.int .i64 0,.int .i64 0,.slice none 0 0,.int .u16 0,.slice none 0 0] 32):=⟨_,rfl⟩;have L1:=Ac (Below w.heap.size w w1) (by rw[hw1];exact((Below.refl _ w).alloc (Nat.le_refl _) _).alloc zz6 _);have Z1:=Ac (w1.heap[w.heap.size]? = some (pbox D A1 c1 A2 c2 A3 c3)) (by rw[hw1];exact(Below.heap_alloc _ _ _ zz6).trans (heap_alloc_new w _));have ZR:=Ac (w1.heap[w.heap.size+1]? = some (.cells #[.int .i64 0,.slice none 0 0,.int .i64 0,.int .i64 0,.int .i64 0,.int .i64 0,.int .i64 0,.int .i64 0,.slice none 0 0,.int .u16 0,.slice none 0 0] 32)) (by
  rw[hw1];have h:=heap_alloc_new (w.alloc (pbox D A1 c1 A2 c2 A3 c3)) (.cells #[.int .i64 0,.slice none 0 0,.int .i64 0,.int .i64 0,.int .i64 0,.int .i64 0,.int .i64 0,.int .i64 0,.slice none 0 0,.int .u16 0,.slice none 0 0] 32);rw[World.size_alloc]at h;exact h)
 have HS:=Sat.mk (S:=fun(W:World)=>W.cell? ⟨w.heap.size,1,none⟩=some (.slice A1 D.edges.length c1)/\W.cell? ⟨w.heap.size,8,none⟩=some (.slice A2 D.weights.length c2)/\W.cell? ⟨w.heap.size,10,none⟩=some (.slice A3 D.next.length c3)) (w:=w1) (⟨(k00 Z1.1 1).trans rfl,(k00 Z1.1 8).trans rfl,(k00 Z1.1 10).trans rfl⟩);clear r1 r2 r3 r4 b1 b2 b3 G;go_enter Tryz.func36,Tryz.ntmps36;go_wp2;rw[<- hw1];clear hw1;refine WpM.region (fun(W:World)=>W.cell? ⟨w.heap.size,1,none⟩=some (.slice A1 D.edges.length c1)/\W.cell? ⟨w.heap.size,8,none⟩=some (.slice A2 D.weights.length c2)/\W.cell? ⟨w.heap.size,10,none⟩=some (.slice A3 D.next.length c3)) (fun j=>Nat.ble 10 j) zz2 ?_;refine WpM.take (i:=0) (v:=?vm1_0) (rfl) zz2 zz2 zz2 zz2 zz2 (fun _ _ _ h=>h) ?ym1_0 (HS.1) ?rm1_0
 case ym1_0=>exact zz12
 refine Sm ?_;refine WpM.take (i:=1) (v:=?vm1_1) (rfl) zz2 zz2 zz2 zz2 zz2 (fun _ _ _ h=>h) ?ym1_1 (HS.1) ?rm1_1
 case ym1_1=>exact zz12
 refine Sm ?_;refine WpM.take (i:=3) (v:=?vm1_3) (rfl) zz2 zz2 zz2 zz2 zz2 (fun _ _ _ h=>h) ?ym1_3 (HS.1) ?rm1_3
 case ym1_3=>exact zz12
 refine Sm ?_;refine WpM.take (i:=4) (v:=?vm1_4) (rfl) zz2 zz2 zz2 zz2 zz2 (fun _ _ _ h=>h) ?ym1_4 (HS.1) ?rm1_4
 case ym1_4=>exact zz12
 refine Sm ?_;refine WpM.take (i:=6) (v:=?vm1_6) (rfl) zz2 zz2 zz2 zz2 zz2 (fun _ _ _ h=>h) ?ym1_6 (HS.1) ?rm1_6
 case ym1_6=>exact zz12
 refine Sm ?_;refine WpM.take (i:=7) (v:=?vm1_7) (rfl) zz2 zz2 zz2 zz2 zz2 (fun _ _ _ h=>h) ?ym1_7 (HS.1) ?rm1_7
 case ym1_7=>exact zz12
 refine Sm ?_;refine WpM.one (i:=2) zz2 rfl (fun K hK=>?_);go_simp;refine(k7F _ _ _ _ _ (RR.1.1.below L1.1).drew (k6w _) zz82).mono ?_;rintro e w2 ⟨vKA,gKA,rfl,hr,hb,hn,_⟩;obtain⟨E1,k1,rfl,_⟩:=hr.size;have KA:=Ac (Row w2 _ _ _ _ _ _/\Below w1.heap.size w1 w2/\_) (⟨hr,by first|exact undrew hb|exact hb,hn⟩);have HSKA:=HS.to w2 (⟨k01 KA.1.2.1 HS.1.1,k01 KA.1.2.1 HS.1.2.1,k01 KA.1.2.1 HS.1.2.2⟩);refine hK.out _ _ (fun _=>HSKA.1) ?_;clear hK K
 try refine Sm ?_
 refine WpM.take (i:=9) (v:=?vm1_9) (rfl) zz2 zz2 zz2 zz2 zz2 (fun _ _ _ h=>h) ?ym1_9 (HSKA.1) ?rm1_9
 case ym1_9=>exact zz12
 refine Sm ?_;refine WpM.one (i:=5) zz2 rfl (fun K hK=>?_);go_simp;refine(k2w _ _ _ _ _ ((RR.1.2.1.below L1.1).below KA.1.2.1) (k80 _) zz82).mono ?_;rintro e w3 ⟨vKB,gKB,rfl,hr,hb,hn,_⟩;obtain⟨E2,k2,rfl,_⟩:=hr.size;have KB:=Ac (Row w3 _ _ _ _ _ _/\Below w2.heap.size w2 w3/\_) (⟨hr,by first|exact undrew hb|exact hb,hn⟩);have HSKB:=HS.to w3 (⟨k01 KB.1.2.1 HSKA.1.1,k01 KB.1.2.1 HSKA.1.2.1,k01 KB.1.2.1 HSKA.1.2.2⟩);refine hK.out _ _ (fun _=>HSKB.1) ?_;clear hK K
 try refine Sm ?_
 refine WpM.one (i:=8) zz2 rfl (fun K hK=>?_);go_simp;refine(k8c _ _ _ _ _ (((RR.1.2.2.1.below L1.1).below KA.1.2.1).below KB.1.2.1) OR.1 zz82).mono ?_;rintro e w4 ⟨vKC,gKC,rfl,hr,hb,hn,_⟩;obtain⟨E3,k3,rfl,_⟩:=hr.size;have KC:=Ac (Row w4 _ _ _ _ _ _/\Below w3.heap.size w3 w4/\_) (⟨hr,by first|exact undrew hb|exact hb,hn⟩);have HSKC:=HS.to w4 (⟨k01 KC.1.2.1 HSKB.1.1,k01 KC.1.2.1 HSKB.1.2.1,k01 KC.1.2.1 HSKB.1.2.2⟩);have Z4:=(KC.1.2.1.block _ (by have:=KA.1.2.1.size;have:=KB.1.2.1.size;have:=k03 Z1.1;omega)).trans ((KB.1.2.1.block _ (by have:=KA.1.2.1.size;have:=k03 Z1.1;omega)).trans ((KA.1.2.1.block _ (k03 Z1.1)).trans Z1.1));have ZZ4:=Ab Z4;have f4:=fun i=>k02 Z4 i
 have d4:=fun i=>k00 Z4 i
 clear Z4;refine hK.out _ _ (fun _=>HSKC.1) ?_;clear hK K
 try refine Sm ?_
 refine WpM.one (i:=10) zz2 rfl (fun K hK=>?_);go_simp;refine hK.out _ _ (fun h=>zz52) ?_;clear hK K
 try refine Sm ?_
 refine WpM.one (i:=11) zz2 rfl (fun K hK=>?_);go_simp;refine hK.out _ _ (fun h=>zz52) ?_;clear hK K
 try refine Sm ?_
 refine WpM.one (i:=12) zz2 rfl (fun K hK=>?_);go_simp;refine hK.out _ _ (fun h=>zz52) ?_;clear hK K
 try refine Sm ?_
 refine WpM.one (i:=13) zz2 rfl (fun K hK=>?_);go_simp;refine hK.out _ _ (fun h=>zz52) ?_;clear hK K
 try refine Sm ?_
 refine WpM.one (i:=14) zz2 rfl (fun K hK=>?_);go_simp;refine hK.out _ _ (fun h=>zz52) ?_;clear hK K
 try refine Sm ?_
 refine WpM.done zz2 ?_ _;clear f4 d4;obtain⟨w5,hw5⟩:∃w5,w5=((w4.setCell ⟨w.heap.size,1,none⟩ (.slice E1 D.edges.length k1)).setCell ⟨w.heap.size,8,none⟩ (.slice E2 D.weights.length k2)).setCell ⟨w.heap.size,10,none⟩ (.slice E3 D.next.length k3):=⟨_,rfl⟩;have z1s:=k03 Z1.1;have zrs:=k03 ZR.1;have K5:∀b,b≠w.heap.size->w5.heap[b]? = w4.heap[b]?:=fun b hb=>by
  rw[hw5];exact(Below.heap_setCell _ _ _ _ hb).trans ((Below.heap_setCell _ _ _ _ hb).trans (Below.heap_setCell _ _ _ _ hb))
 have hs5:w5.heap.size=w4.heap.size:=by rw[hw5];simp
 have s2:=KA.1.2.1.size;have s3:=KB.1.2.1.size;have s4:=KC.1.2.1.size;have nA:=KA.1.2.2;have nB:=KB.1.2.2;have nC:=KC.1.2.2;have B4:Below w.heap.size w w4:=((L1.1.trans (KA.1.2.1.mono zz1)).trans (KB.1.2.1.mono zz1)).trans (KC.1.2.1.mono zz1);have L5:=Ac (Below w.heap.size w w5/\Row w5 (.slice E1 D.edges.length k1) 131 2 D.edges.length (k0d D.edges) gKA/\Row w5 (.slice E2 D.weights.length k2) 3 1 D.weights.length (i64s D.weights) gKB/\Row w5 (.slice E3 D.next.length k3) 29 1 D.next.length rows gKC/\w5.heap[w.heap.size]? = some (pbox D E1 k1 E2 k2 E3 k3)/\w5.heap[w.heap.size+1]? = some (.cells #[.int .i64 0,.slice none 0 0,.int .i64 0,.int .i64 0,.int .i64 0,.int .i64 0,.int .i64 0,.int .i64 0,.slice none 0 0,.int .u16 0,.slice none 0 0] 32)) (by
  refine⟨by rw[hw5];exact((B4.setCell (Nat.le_refl _) _).setCell (Nat.le_refl _) _).setCell (Nat.le_refl _) _,((KA.1.1.below KB.1.2.1).below KC.1.2.1).of_blk (fun b e=>K5 b (by have:=nA b e;have:w1.drew.heap.size=w1.heap.size:=rfl;omega)),(KB.1.1.below KC.1.2.1).of_blk (fun b e=>K5 b (by have:=nB b e;omega)),KC.1.1.of_blk (fun b e=>K5 b (by have:=nC b e;omega)),?_,?_⟩
  ·rw[hw5];exact k05 (k05 (k05 ZZ4.1 1 _) 8 _) 10 _
  ·exact(K5 _ zz1).trans ((KC.1.2.1.block _ zz1).trans ((KB.1.2.1.block _ zz1).trans ((KA.1.2.1.block _ zrs).trans ZR.1))))
 rw[<- hw5];obtain⟨nb,no,nc,hgc,hE,_,_,_⟩:=L5.1.2.2.2.1.open HL.1.2.2.2.1;simp only[Value.slice.injEq]at hE;obtain⟨rfl,-,rfl⟩:=hE;subst hgc;have NN:=Ac (w.heap.size+2<=nb/\(∀b,gKA=some b->w.heap.size+2<=b)/\(∀b,gKB=some b->w.heap.size+2<=b)) (by
  have hd:w1.drew.heap.size=w1.heap.size:=rfl;exact⟨by have:=nC nb rfl;omega,fun b e=>by have:=nA b e;omega,fun b e=>by have:=nB b e;omega⟩)
 clear hw5 K5 hs5 s2 s3 s4 nA nB nC B4 z1s zrs KA KB KC HSKA HSKB HSKC ZZ4 ZR Z1 L1 HS;have d5:=fun i=>k00 L5.1.2.2.2.2.1 i
 obtain⟨n,hn⟩:∃n,n=D.next.length:=⟨_,rfl⟩;have HN:=Ab hn;have hn0:0<n:=by have:=HL.1;omega
 have hn9:n<=100000:=zz82
 rw[<- hn]at d5;rw[<- hn];clear hn;go_wp2
 go_loopw [20] (fun s20 wr=>∃k:Nat,k<=n/\s20=.int .i64 k/\k07 (CRows D rows (w.heap.size+2) nb no k3 wr k/\Below w.heap.size w wr/\Row wr (.slice E1 D.edges.length k1) 131 2 D.edges.length (k0d D.edges) gKA/\Row wr (.slice E2 D.weights.length k2) 3 1 D.weights.length (i64s D.weights) gKB/\wr.heap[w.heap.size]? = some (pbox D E1 k1 E2 k2 (some ⟨nb,no,none⟩) k3)/\wr.heap[w.heap.size+1]? = some (.cells #[.int .i64 0,.slice none 0 0,.int .i64 0,.int .i64 0,.int .i64 0,.int .i64 0,.int .i64 0,.int .i64 0,.slice none 0 0,.int .u16 0,.slice none 0 0] 32))) (fun s20 _=>n-ixOf s20)
 case atStart=>
  refine⟨0,zz1,rfl,⟨⟨rows,L5.1.2.2.2.1,fun i r hr=>?_⟩,L5.1.1,L5.1.2.1,L5.1.2.2.1,L5.1.2.2.2.2.1,L5.1.2.2.2.2.2⟩⟩;obtain⟨u,hu,_⟩:=RR.1.2.2.2 i r hr;exact⟨u,hu,fun _=>hu,fun h=>by omega⟩
 case round=>
  clear d5;obtain⟨k,hk,rfl,R⟩:=hrel;by_cases hlt:k<n
  ·have e1:(k:Int)<(n:Int):=by omega
   obtain⟨r,hr⟩:∃r,D.next[k]? = some r:=⟨_,List.getElem?_eq_getElem zz32⟩;obtain⟨rs,rvs,hvs⟩:=id R.1.1;obtain⟨u,hu,hko,_⟩:=hvs k r hr;obtain⟨_,_,_,hs5,hA5,_,hfz,hcs⟩:=rvs.open zz32;simp only[Value.slice.injEq,Option.some.injEq,Addr.mk.injEq,and_true,true_and]at hA5;obtain⟨⟨rfl,rfl⟩,rfl⟩:=hA5;have hcs:=(hcs k (by have:=rvs.1;have:=HN.1;omega)).trans hu;have hfk:=hfz (no+k);have hnl:=rvs.lt rfl;obtain⟨u',hu',ru⟩:=RR.1.2.2.2 k r hr;have hko:=hko (Nat.le_refl _);rw[hu']at hko;obtain rfl:=Option.some.inj hko;have ru:=ru.below R.1.2.1;obtain⟨AU,cU,rfl,_⟩:=ru.size;have d10:=(k00 R.1.2.2.2.2.1 10);have HS5:=Sat.mk (S:=fun(W:World)=>W.cell? ⟨w.heap.size,10,none⟩=some (.slice (some ⟨nb,no,none⟩) n k3)) (w:=wr) (by rw[HN.1];exact d10.trans rfl);have RU:=Ac (_/\_/\_/\_/\_/\_) (⟨ru,rvs,hvs,hr,hnl,hfz⟩);clear ru rvs hvs hr hs5 hfz hu hu' d10 hko;go_wp2;refine WpL.rg HS5 6 zz2 ?_;refine WpL.T 0 [] HS5.1 ?_;refine WpL.T 1 [] HS5.1 ?_;refine WpL.T 2 [] HS5.1 ?_;refine WpL.T 3 [] HS5.1 ?_;refine WpL.one (i:=4) zz2 rfl (fun K hK=>?_);go_simp;refine(k2w _ _ _ _ _ RU.1.1.drew (k80 _) (by exact HL.1.2.2.2.2 _ (List.mem_of_getElem? RU.1.2.2.2.1))).mono ?_;rintro e w6 ⟨v6,g6,rfl,hr,hb',hn,_⟩;have hb:Below wr.heap.size wr w6:=undrew hb';obtain⟨A6,c6,rfl,_⟩:=hr.size;have K6:=Ac (_/\_/\(∀b,g6=some b->wr.heap.size<=b)) (⟨hr,hb,hn⟩);have HS6:=HS5.to w6 (k01 hb HS5.1);have c7:=(hb.cell (p:=⟨nb,no+k,none⟩) RU.1.2.2.2.2.1).trans hcs;have f7:=(hb.frozen (p:=⟨nb,no+k,none⟩) RU.1.2.2.2.2.1).trans hfk;clear hr hb hb' hn;refine hK.out _ _ (fun _=>HS6.1) ?_;clear hK K
   try refine Sm ?_
   refine WpL.T 5 [] HS6.1 ?_;refine WpL.one (i:=6) zz2 rfl (fun K hK=>?_);go_simp;refine hK.out _ _ (fun h=>absurd rfl h) ?_;clear hK K
   try refine Sm ?_
   refine WpL.done zz2 ?_ _;go_wp2;have L7:=K6.1.2.1;have hz:=k03 R.1.2.2.2.2.1;have hz2:=k03 R.1.2.2.2.2.2;have hnb:=NN.1.1;have oS:=k0j w6 nb (no+k) (.slice A6 r.length c6);refine⟨⟨k+1,zz1,rfl,⟨?_,?_,?_,?_,?_,?_⟩⟩,?_⟩
   ·refine⟨rs.set k (.slice A6 r.length c6),(RU.1.2.1.below L7).set k (by have:=RU.1.2.1.1;have:=HN.1;omega) _,fun i p hp=>?_⟩
    by_cases e:i=k
    ·rw[e,RU.1.2.2.2.1]at hp
     cases hp;refine⟨.slice A6 r.length c6,by rw[e,List.getElem?_set_self (by have:=RU.1.2.1.1;have:=HN.1;omega)],fun h=>by omega,fun _=>⟨g6,K6.1.1.only oS (fun b e' e2=>?_),fun b e'=>?_⟩⟩
     ·have:=K6.1.2.2 b e';have:=RU.1.2.2.2.2.1;omega
     ·have:=K6.1.2.2 b e';have:=RU.1.2.2.2.2.1;omega
    ·obtain⟨u,h1,h2,h3⟩:=RU.1.2.2.1 i p hp
     refine⟨u,by rw[List.getElem?_set_ne (fun h=>e h.symm)];exact h1,fun h=>h2 zz1,fun h=>?_⟩;obtain⟨g,h4,h5⟩:=h3 zz1;exact⟨g,(h4.below L7).only oS (fun b e' e2=>(h5 b e').2 e2),h5⟩
   ·exact(R.1.2.1.trans (L7.mono R.1.2.1.size)).setCell (by show w.heap.size<=nb;omega) _
   ·exact(R.1.2.2.1.below L7).only oS (fun b e e2=>by subst e;obtain⟨_,q1⟩:=(R.1.2.2.1.below L7).blk_ty;obtain⟨_,q2⟩:=(RU.1.2.1.below L7).blk_ty;exact k0u q1 q2 zz7 e2)
   ·exact(R.1.2.2.2.1.below L7).only oS (fun b e e2=>by subst e;obtain⟨_,q1⟩:=(R.1.2.2.2.1.below L7).blk_ty;obtain⟨_,q2⟩:=(RU.1.2.1.below L7).blk_ty;exact k0u q1 q2 zz7 e2)
   ·exact(Below.heap_setCell _ _ _ _ (by show w.heap.size≠nb;omega)).trans ((L7.block _ hz).trans R.1.2.2.2.2.1)
   ·exact(Below.heap_setCell _ _ _ _ (by show w.heap.size+1≠nb;omega)).trans ((L7.block _ hz2).trans R.1.2.2.2.2.2)
   ·show n-ixOf (.int .i64 ((k:Int)+1))<n-ixOf (.int .i64 (k:Int))
    simp only[ixOf];exact zz1
  ·have e1:¬(k:Int)<(n:Int):=by omega
   obtain rfl:k=n:=by omega
   have d6:=fun i=>k00 R.1.2.2.2.2.1 i
   have r6:=fun i=>k00 R.1.2.2.2.2.2 i
   have rf6:=fun i=>k02 R.1.2.2.2.2.2 i
   have zz:=k03 R.1.2.2.2.2.2;go_wp2;have ZF:=k05 (k05 (k05 (k05 (k05 (k05 (k05 (k05 (k05 (k05 (k05 (R.1.2.2.2.2.2) 0 (.int .i64 D.nodes)) 1 (.slice E1 D.edges.length k1)) 2 (.int .i64 D.lanes)) 3 (.int .i64 D.room)) 4 (.int .i64 D.queue)) 5 (.int .i64 D.rounds)) 6 (.int .i64 D.every)) 7 (.int .i64 D.bag)) 8 (.slice E2 D.weights.length k2)) 9 (.int .u16 D.start)) 10 (.slice (some ⟨nb,no,none⟩) D.next.length k3);have oF:=(Only.set (P:=fun b=>b=w.heap.size+1) (Only.set (P:=fun b=>b=w.heap.size+1) (Only.set (P:=fun b=>b=w.heap.size+1) (Only.set (P:=fun b=>b=w.heap.size+1) (Only.set (P:=fun b=>b=w.heap.size+1) (Only.set (P:=fun b=>b=w.heap.size+1) (Only.set (P:=fun b=>b=w.heap.size+1) (Only.set (P:=fun b=>b=w.heap.size+1) (Only.set (P:=fun b=>b=w.heap.size+1) (Only.set (P:=fun b=>b=w.heap.size+1) (Only.set (P:=fun b=>b=w.heap.size+1) (Only.refl _ wr) (p:=⟨w.heap.size+1,0,none⟩) (fun _=>rfl) (.int .i64 D.nodes)) (p:=⟨w.heap.size+1,1,none⟩) (fun _=>rfl) (.slice E1 D.edges.length k1)) (p:=⟨w.heap.size+1,2,none⟩) (fun _=>rfl) (.int .i64 D.lanes)) (p:=⟨w.heap.size+1,3,none⟩) (fun _=>rfl) (.int .i64 D.room)) (p:=⟨w.heap.size+1,4,none⟩) (fun _=>rfl) (.int .i64 D.queue)) (p:=⟨w.heap.size+1,5,none⟩) (fun _=>rfl) (.int .i64 D.rounds)) (p:=⟨w.heap.size+1,6,none⟩) (fun _=>rfl) (.int .i64 D.every)) (p:=⟨w.heap.size+1,7,none⟩) (fun _=>rfl) (.int .i64 D.bag)) (p:=⟨w.heap.size+1,8,none⟩) (fun _=>rfl) (.slice E2 D.weights.length k2)) (p:=⟨w.heap.size+1,9,none⟩) (fun _=>rfl) (.int .u16 D.start)) (p:=⟨w.heap.size+1,10,none⟩) (fun _=>rfl) (.slice (some ⟨nb,no,none⟩) D.next.length k3));obtain⟨wf,hwf⟩:∃wf,wf=(((((((((((wr.setCell ⟨w.heap.size+1,0,none⟩ (.int .i64 D.nodes)).setCell ⟨w.heap.size+1,1,none⟩ (.slice E1 D.edges.length k1)).setCell ⟨w.heap.size+1,2,none⟩ (.int .i64 D.lanes)).setCell ⟨w.heap.size+1,3,none⟩ (.int .i64 D.room)).setCell ⟨w.heap.size+1,4,none⟩ (.int .i64 D.queue)).setCell ⟨w.heap.size+1,5,none⟩ (.int .i64 D.rounds)).setCell ⟨w.heap.size+1,6,none⟩ (.int .i64 D.every)).setCell ⟨w.heap.size+1,7,none⟩ (.int .i64 D.bag)).setCell ⟨w.heap.size+1,8,none⟩ (.slice E2 D.weights.length k2)).setCell ⟨w.heap.size+1,9,none⟩ (.int .u16 D.start)).setCell ⟨w.heap.size+1,10,none⟩ (.slice (some ⟨nb,no,none⟩) D.next.length k3)):=⟨_,rfl⟩;rw[<- hwf]at ZF oF ⊢;simp only[List.setIfInBounds_toArray,List.set_cons_zero,List.set_cons_succ]at ZF;refine bodyPost_ret (results_cell_row rfl _ _ (w.heap.size+1) 32 _ (0,0) _ rfl ZF Tryz.underlying32 rfl zz2) rfl ?_;obtain⟨rs,rvs,hvs⟩:=R.1.1;have hnb:=NN.1.1;have hz:=k03 R.1.2.2.2.2.2;have BF:Below w.heap.size w wf:=by
    rw[hwf];exact(((((((((((R.1.2.1).setCell zz22 _).setCell zz22 _).setCell zz22 _).setCell zz22 _).setCell zz22 _).setCell zz22 _).setCell zz22 _).setCell zz22 _).setCell zz22 _).setCell zz22 _).setCell zz22 _
   obtain⟨gs',hgs⟩:=kas (D:=D) (W:=wf) (rs:=rs) (lo:=w.heap.size+2) (fun i r hr=>by
    obtain⟨u,h1,_,h3⟩:=hvs i r hr;obtain⟨g,h4,h5⟩:=h3 (by have:=HN.1;have:=(List.getElem?_eq_some_iff.1 hr).1;omega);exact⟨u,h1,g,h4.only oF (fun b e e2=>by have:=(h5 b e).1;omega),fun b e=>(h5 b e).1⟩)
   have hE:=R.1.2.2.1.only oF (fun b e e2=>by have:=NN.1.2.1 b e;omega);have hW:=R.1.2.2.2.1.only oF (fun b e e2=>by have:=NN.1.2.2 b e;omega);have hR:=rvs.only oF (fun b e e2=>by cases e;omega);clear ZF oF hwf rvs hvs R RR L5;refine⟨pagg D E1 k1 E2 k2 (some ⟨nb,no,none⟩) k3,rfl,⟨_,_,_,rs,gKA,gKB,some nb,gs',rfl,hE,hW,hR,fun i r hr=>?_,fun b e=>?_,fun b e=>?_,fun b e=>?_⟩,BF⟩
   ·obtain⟨u,h1,h2,h3⟩:=hgs i r hr
    exact⟨u,h1,h2,fun b e=>by have:=h3 b e;omega⟩
   ·have:=NN.1.2.1 b e;omega
   ·have:=NN.1.2.2 b e;omega
   ·cases e;omega
structure FSt where
 node:Nat->NSt
 link:Nat×Nat->List (List Int)
 ticks:Nat
structure FTab where
 g:Nat
 mb:Nat
 vb:Nat
 vo:Nat
 vc:Nat
 hb:Nat
 ho:Nat
 hc:Nat
 A1:Option Addr
 c1:Nat
 A2:Option Addr
 c2:Nat
 A3:Option Addr
 c3:Nat
 node:Nat->NTab
 link:Nat×Nat->Nat
def lc(a:Nat×Nat):Nat:=a.1*100+a.2
def hopV(a:Nat×Nat):Value:=.agg #[.int .i64 a.1,.int .i64 a.2]
theorem kaT{a b:Nat×Nat}(h:hopV a=hopV b):a=b:=by
 obtain⟨a1,a2⟩:=a;obtain⟨b1,b2⟩:=b;simp only[hopV,Value.agg.injEq,Array.mk.injEq,List.cons.injEq,Value.int.injEq,true_and,and_true]at h;obtain⟨h1,h2⟩:=h;have h1:a1=b1:=by omega
 have h2:a2=b2:=zz1
 rw[h1,h2]
theorem kdk(w:World):(zeroValue 60).run Tryz.prog w=.ok (.pointer none) w:=by kernel_rfl
def mapL:kat (Nat×Nat) where
 κ:=hopV
 good a:=a.1<4611686018427387904/\a.2<4611686018427387904
 t:=84
 k:=90
 e:=60
 z:=.pointer none
 law:=law90
 ht:=Tryz.underlying84
 hz:=kdk
 inj:=kaT
 key a h:=key2 a.1 a.2 h.1 h.2
def kcM(D:PlanD)(F:FTab)(a:Nat×Nat):Option Value:=if a∈D.hops then some (.pointer (some ⟨F.link a,0,none⟩)) else none
def kdd(F:FTab)(v:Nat):Value:=.pointer (some ⟨(F.node v).g,0,none⟩)
abbrev fbox(D:PlanD)(F:FTab)(t:Nat):Obj:=.cells #[.int .i64 D.nodes,.slice F.A1 D.edges.length F.c1,.int .i64 D.lanes,.int .i64 D.room,.int .i64 D.queue,.int .i64 D.rounds,.int .i64 D.every,.int .i64 D.bag,.slice F.A2 D.weights.length F.c2,.int .u16 D.start,.slice F.A3 D.next.length F.c3,.slice (some ⟨F.hb,F.ho,none⟩) D.hops.length F.hc,.slice (some ⟨F.vb,F.vo,none⟩) D.nodes F.vc,.map (some F.mb),.int .i64 t] 87 (0,0)
structure FabAt(w:World)(o:Nat->Col)(D:PlanD)(F:FTab)(st:FSt):Prop where
 og:o F.g=.fab
 blk:w.heap[F.g]? = some (fbox D F st.ticks)
 plan:PlanV w (fun b=>o b=.fix) (pagg D F.A1 F.c1 F.A2 F.c2 F.A3 F.c3) D
 hops:Row w (.slice (some ⟨F.hb,F.ho,none⟩) D.hops.length F.hc) 90 2 D.hops.length (k0d D.hops) (some F.hb)
 oh:o F.hb=.fix
 nodes:Row w (.slice (some ⟨F.vb,F.vo,none⟩) D.nodes F.vc) 58 1 D.nodes ((List.range D.nodes).map (kdd F)) (some F.vb)
 on:o F.vb=.fix
 map:MapAt mapL w F.mb (kcM D F)
 om:o F.mb=.fix
 node:∀v,v<D.nodes->NodeAt w o v D (F.node v) (st.node v)
 link:∀a,a∈D.hops->LnkAt w o (.lnk (lc a)) (F.link a) (st.link a) D.bag
theorem k0r{D:PlanD}{a:Nat×Nat}:a∈D.hops ↔ a.1<D.nodes/\a.2∈D.bs a.1:=by
 obtain⟨x,y⟩:=a;unfold PlanD.hops k51;simp only[List.mem_flatMap,List.mem_range,List.mem_map,Prod.mk.injEq];constructor
 ·rintro⟨v,hv,z,hz,rfl,rfl⟩;exact⟨hv,hz⟩
 ·rintro⟨h1,h2⟩;exact⟨x,h1,y,h2,rfl,rfl⟩
theorem k0O{D:PlanD}{a:Nat×Nat}(h:a∈D.hops):a.1<D.nodes/\a.2<D.nodes:=⟨(k0r.1 h).1,k8C (k0r.1 h).2⟩
theorem kdA{D:PlanD}(G:Good D){a b:Nat×Nat}(ha:a∈D.hops)(hb:b∈D.hops)(h:lc a=lc b):a=b:=by
 obtain⟨a1,a2⟩:=a;obtain⟨b1,b2⟩:=b;have:=k0O ha;have:=k0O hb;have:=G.n1;unfold lc at h;simp only at *;have e1:a1=b1:=by omega
 have e2:a2=b2:=zz1
 rw[e1,e2]
section
variable{S:Col->Prop}{w w':World}{o o':Nat->Col}{D:PlanD}{F:FTab}{st st':FSt}
theorem FabAt.turn(h:FabAt w o D F st)(t:Tr S o w o' w')(hfix:¬S .fix)(hn:(¬S .fab/\st'.ticks=st.ticks)\/w'.heap[F.g]? = some (fbox D F st'.ticks))
 (hv:∀v,v<D.nodes->((∀c,k0q v c->¬S c)/\st'.node v=st.node v)\/NodeAt w' o' v D (F.node v) (st'.node v))
 (hl:∀a,a∈D.hops->(¬S (.lnk (lc a))/\st'.link a=st.link a)\/LnkAt w' o' (.lnk (lc a)) (F.link a) (st'.link a) D.bag):FabAt w' o' D F st' where
 og:=(t.own _ (k03 h.blk)).trans h.og
 blk:=by
  rcases hn with⟨h1,h2⟩|h1
  ·rw[h2];exact t.blk h.blk (by rw[h.og];exact h1)
  ·exact h1
 plan:=h.plan.tr t hfix
 hops:=h.hops.only t.only (fun b e=>by cases e;rw[h.oh];exact hfix)
 oh:=(t.own _ (h.hops.lt rfl)).trans h.oh
 nodes:=h.nodes.only t.only (fun b e=>by cases e;rw[h.on];exact hfix)
 on:=(t.own _ (h.nodes.lt rfl)).trans h.on
 map:=h.map.of_blk (t.only.same h.map.lt (by rw[h.om];exact hfix))
 om:=(t.own _ h.map.lt).trans h.om
 node:=fun v hv'=>by
  rcases hv v hv' with⟨h1,h2⟩|h1
  ·rw[h2];exact(h.node v hv').tr t hfix h1
  ·exact h1
 link:=fun a ha=>by
  rcases hl a ha with⟨h1,h2⟩|h1
  ·rw[h2];exact(h.link a ha).tr t h1
  ·exact h1
theorem FabAt.tr(h:FabAt w o D F st)(t:Tr S o w o' w')(hfix:¬S .fix)(hfab:¬S .fab)(hv:∀v c,k0q v c->¬S c)(hl:∀n,¬S (.lnk n)):FabAt w' o' D F st:=
 h.turn t hfix (.inl ⟨hfab,rfl⟩) (fun v _=>.inl ⟨hv v,rfl⟩) (fun a _=>.inl ⟨hl _,rfl⟩)
theorem FabAt.blw(h:FabAt w o D F st)(hf:Fresh o w)(b:Below w.heap.size w w'):FabAt w' o D F st:=
 h.tr (Tr.below (S:=fun _=>False) hf b) (fun x=>x) (fun x=>x) (fun _ _ _ x=>x) (fun _ x=>x)
theorem k8L{v u:Nat}{c:Col}(h:k0q v c)(k:k0q u c):v=u:=by
 unfold k0q at h k;rw[h]at k;exact Option.some.inj k
theorem FabAt.nodeTo(h:FabAt w o D F st){v:Nat}{s:NSt}(t:Tr (k0q v) o w o' w')(k:NodeAt w' o' v D (F.node v) s):FabAt w' o' D F { st with node:=upd st.node v s }:=
 h.turn t (by simp[k0q,Col.nodeOf]) (.inl ⟨by simp[k0q,Col.nodeOf],rfl⟩) (fun u hu=>by
  by_cases e:u=v
  ·subst e;right;show NodeAt w' o' u D (F.node u) (upd st.node u s u);rw[k04];exact k
  ·left;exact⟨fun c hc hv=>e (k8L hc hv),k06 _ _ e⟩) (fun a _=>.inl ⟨by simp[k0q,Col.nodeOf],rfl⟩)
def updl(f:Nat×Nat->List (List Int))(a:Nat×Nat)(r:List (List Int))(b:Nat×Nat):List (List Int):=if b=a then r else f b
theorem FabAt.linkTo(G:Good D)(h:FabAt w o D F st){a:Nat×Nat}(ha:a∈D.hops){r:List (List Int)}(t:Tr (fun c=>c=.lnk (lc a)) o w o' w')(k:LnkAt w' o' (.lnk (lc a)) (F.link a) r D.bag):FabAt w' o' D F { st with link:=updl st.link a r }:=
 h.turn t zz6 (.inl ⟨zz6,rfl⟩) (fun v _=>.inl ⟨fun c hc e=>(by rw[e]at hc;cases hc),rfl⟩) (fun b hb=>by
  by_cases e:b=a
  ·subst e;right;show LnkAt w' o' _ _ (updl st.link b r b) _;unfold updl;rw[if_pos rfl];exact k
  ·left;exact⟨fun e2=>e (kdA G hb ha (Col.lnk.inj e2)),if_neg e⟩)
theorem FabAt.cells(h:FabAt w o D F st)(v:Nat)(hv:v<D.nodes):w.cell? ⟨F.vb,F.vo+v,none⟩=some (.pointer (some ⟨(F.node v).g,0,none⟩)):=by
 obtain⟨b,off,cap,hg,hA,_,_,hc⟩:=h.nodes.open zz1;simp only[Value.slice.injEq,Option.some.injEq,Addr.mk.injEq,and_true,true_and]at hA;obtain⟨⟨rfl,rfl⟩,rfl⟩:=hA;rw[hc v zz20];simp[hv,kdd]
theorem FabAt.hop(h:FabAt w o D F st)(i:Nat)(a:Nat×Nat)(ha:D.hops[i]? = some a):w.cell? ⟨F.hb,F.ho+i*2,none⟩=some (.int .i64 a.1)/\w.cell? ⟨F.hb,F.ho+i*2+1,none⟩=some (.int .i64 a.2):=by
 have hi:=(List.getElem?_eq_some_iff.1 ha).1;exact zz65
end
theorem k6E{w W:World}{D:PlanD}{F:FTab}(h:MapAt mapL w F.mb (kcM D F))(G:Good D){a:Nat×Nat}(ha:a∈D.hops)(hW:W.heap[F.mb]? = w.heap[F.mb]?):(Instr.lookup 84 (.map (some F.mb)) (.agg #[.int .i64 a.1,.int .i64 a.2]) false).run Tryz.prog W=.ok (.pointer (some ⟨F.link a,0,none⟩)) W:=by
 have hl:=k0O ha;have:=G.n1;have h2:=(h.of_blk hW).look a ⟨zz1,zz1⟩;unfold kcM at h2;rw[if_pos ha]at h2;exact h2
section
variable{w:World}{o:Nat->Col}{D:PlanD}{F:FTab}{st:FSt}
theorem kav(H:FabAt w o D F st)(G:Good D)(v:Nat)(hv:v<D.nodes) :
 Calls Tryz.prog 43 #[.slice (some ⟨F.vb,F.vo,none⟩) D.nodes F.vc,.int .i64 v] w fun e w'=>e=.returned (.pointer (some ⟨(F.node v).g,0,none⟩))/\w=w':=by
 have e1:=decide_eq_false (show ¬(v:Int)<0 by omega);have e2:=decide_eq_false (show ¬(D.nodes:Nat)<=v by omega);have e2':=decide_eq_false (show ¬((D.nodes:Nat):Int)<=(v:Int) by omega);have c0:=H.cells v hv;have hn:=G.n1;clear H G;go_enter Tryz.func43,Tryz.ntmps43;exact zz16
theorem k28(H:FabAt w o D F st)(G:Good D)(v:Nat)(hv:v<D.nodes) :
 Calls Tryz.prog 16 #[.pointer (some ⟨F.g,0,none⟩),.int .i64 v] w fun e w'=>e=.returned (.pointer (some ⟨(F.node v).g,0,none⟩))/\w=w':=by
 have c:=kav H G v hv;have c1:=k00 H.blk 12;have hn:=G.n1;clear H G;go_enter Tryz.func16,Tryz.ntmps16
 go_wp2_with(go_at_call 43;refine c.mono ?_;rintro e w1 ⟨rfl,rfl⟩)
 go_ret;exact⟨rfl,rfl⟩
theorem k24(H:FabAt w o D F st)(G:Good D)(i:Nat)(a:Nat×Nat)(ha:D.hops[i]? = some a) :
 Calls Tryz.prog 17 #[.pointer (some ⟨F.g,0,none⟩),.int .i64 i] w fun e w'=>e=.returned (.pointer (some ⟨F.link a,0,none⟩))/\Below w.heap.size w w':=by
 obtain⟨x,y⟩:=a;have hi:=(List.getElem?_eq_some_iff.1 ha).1;obtain⟨n,hn⟩:∃n,n=D.hops.length:=⟨_,rfl⟩;have hin:i<n:=by omega
 have hn6:n<=30:=zz95
 have e1:=decide_eq_false (show ¬(i:Int)<0 by omega);have e2:=decide_eq_false (show ¬(n:Nat)<=i by omega);have e2':=decide_eq_false (show ¬(n:Int)<=(i:Int) by omega);obtain⟨h0,h1⟩:=H.hop i _ ha;obtain⟨M0,hM0⟩:∃M0,M0=w.heap[F.mb]?:=⟨_,rfl⟩;have LK:=Ab (fun(W:World) (hW:W.heap[F.mb]? = M0)=>k6E (W:=W) H.map G (List.mem_of_getElem? ha) (hW.trans hM0));have b0:=fun j=>k00 H.blk j
 have HS:=Sat.mk (S:=fun(W:World)=>W.cell? ⟨F.g,13,none⟩=some (.map (some F.mb))/\W.cell? ⟨F.g,11,none⟩=some (.slice (some ⟨F.hb,F.ho,none⟩) n F.hc)/\W.cell? ⟨F.hb,F.ho+i*2,none⟩=some (.int .i64 x)/\W.cell? ⟨F.hb,F.ho+i*2+1,none⟩=some (.int .i64 y)/\W.heap[F.mb]? = M0) (w:=w) (⟨(b0 13).trans rfl,by rw[hn];exact(b0 11).trans rfl,h0,h1,hM0.symm⟩);rw[<- hn]at b0;clear H G h0 h1 hn ha hi hM0;go_enter Tryz.func17,Tryz.ntmps17;go_wp2;refine WpL.rg HS 99 zz2 ?_;refine WpL.E 0 HS.1 ?_;refine WpL.E 1 HS.1 ?_;refine WpL.E 2 HS.1 ?_;refine WpL.E 3 HS.1 ?_;refine WpL.E 4 HS.1 ?_;refine WpL.E 5 HS.1 ?_;refine WpL.E 6 HS.1 ?_;refine WpL.E 7 HS.1 ?_;refine WpL.E 8 HS.1 ?_;refine WpL.E 9 HS.1 ?_;refine WpL.E 10 HS.1 ?_;refine WpL.takeE (i:=11) (v:=?vq1_11) (rfl) zz2 zz2 zz2 zz2 zz2 (fun _ _ _ h=>h) ?yq1_11 (HS.1) ?rq1_11
 case yq1_11=>refine Or.inl ⟨?_,?_⟩;rfl;intro w hSw;go_simp;simp only[LK.1 _ hSw.2.2.2.2];rfl
 refine Sm ?_;refine WpL.E 12 HS.1 ?_;refine WpL.done zz2 ?_ _;go_wp2;go_ret;exact⟨rfl,(Below.refl _ w).drew⟩
theorem k4a(H:FabAt w o D F st)(G:Good D) :
 Calls Tryz.prog 25 #[.pointer (some ⟨F.g,0,none⟩)] w (k9b D.hops w):=by
 have c1:=k00 H.blk 11;have hn6:D.hops.length<=30:=zz17
 have HH:=Ab H.hops;clear H G;go_enter Tryz.func25,Tryz.ntmps25
 go_wp2_with(go_at_call 51;refine(k8D _ _ _ _ _ HH.1 (k6w _) zz1).mono ?_;rintro e w1 ⟨v1,g1,rfl,hr,hb,hn,_⟩;have K:=Ac (_/\_/\_) (⟨hr,hb,hn⟩);clear hr hb hn)
 go_ret;exact⟨v1,g1,rfl,K.1.1,K.1.2.1,K.1.2.2⟩
end
section
variable{w:World}{o:Nat->Col}{D:PlanD}{F:FTab}{st:FSt}
def FOk(D:PlanD)(M:Int)(C:Nat)(st:FSt):Prop:=∀v,v<D.nodes->NodeOk D v M C (st.node v)
def FInjd(v d k:Nat)(y:Int)(w:World)(o:Nat->Col)(D:PlanD)(F:FTab)(st:FSt)(e:Ending)(w':World):Prop:=∃(c:Int)(o':Nat->Col)(s':NSt),e=.returned (.int .u16 c)/\k6p D v d k y (st.node v) c s'/\FabAt w' o' D F { st with node:=upd st.node v s' }/\Tr (k0q v) o w o' w'
theorem k5y(v d k:Nat)(y:Int)(M:Int)(C:Nat)(H:FabAt w o D F st)(G:Good D)(hf:Fresh o w)(K:FOk D M C st)(hv:v<D.nodes)(hd:d<D.nodes)(hk:k<D.lanes) :
 Calls Tryz.prog 7 #[.pointer (some ⟨F.g,0,none⟩),.agg #[.int .i64 (v:Nat),.int .i64 (d:Nat),.int .i64 (k:Nat),.int .u32 y]] w (FInjd v d k y w o D F st):=by
 have B1:Below w.heap.size w (w.alloc (.cells #[.int .i64 (v:Nat),.int .i64 (d:Nat),.int .i64 (k:Nat),.int .u32 y] 40)):=(Below.refl _ _).alloc (Nat.le_refl _) _;have H1:=H.blw hf B1;have F1:=hf.blw B1;have cn:=k28 H1 G v hv;have ci:=k7k d k y M C (H1.node v hv) G hv F1 (K v hv) hd hk;have T1:Tr (k0q v) o w o (w.alloc (.cells #[.int .i64 (v:Nat),.int .i64 (d:Nat),.int .i64 (k:Nat),.int .u32 y] 40)):=Tr.below hf B1;have HA:=Ac (_/\_) (⟨H1,T1⟩);clear H G K B1 H1 F1 T1;go_enter Tryz.func7,Tryz.ntmps7
 go_wp2_with(first
  |(go_at_call 16;refine cn.mono ?_;rintro e w1 ⟨rfl,rfl⟩)
  |(go_at_call 22;refine ci.mono ?_;rintro e w2 ⟨c,o',s',rfl,hr,hn,ht⟩;have KK:=Ac (_/\_/\_) (⟨hr,hn,ht⟩);clear hr hn ht))
 go_ret;exact⟨c,o',s',rfl,KK.1.1,HA.1.1.nodeTo KK.1.2.2 KK.1.2.1,HA.1.2.trans KK.1.2.2⟩
theorem k9c(v:Nat)(H:FabAt w o D F st)(G:Good D)(hv:v<D.nodes)(hl:((st.node v).waits 3).length<=10000) :
 Calls Tryz.prog 8 #[.pointer (some ⟨F.g,0,none⟩),.int .i64 v] w fun e w'=>∃v' g',e=.returned v'/\Row w' v' 40 4 ((st.node v).waits 3).length (k0J ((st.node v).waits 3)) g'/\Below w.heap.size w w'/\(∀b,g'=some b->w.heap.size<=b):=by
 have cn:=k28 H G v hv;have ch:=k4x (H.node v hv);have cg:=kbw (H.node v hv).host hl;clear H G;go_enter Tryz.func8,Tryz.ntmps8
 go_wp2_with(first
  |(go_at_call 16;refine cn.mono ?_;rintro e w1 ⟨rfl,rfl⟩)
  |(go_at_call 18;refine ch.mono ?_;rintro e w1 ⟨rfl,rfl⟩)
  |(go_at_call 23;refine cg.mono ?_;rintro e w2 ⟨v',g',rfl,hr,hb,hn⟩;have KK:=Ac (_/\_/\_) (⟨hr,hb,hn⟩);clear hr hb hn))
 go_ret;exact⟨v',g',rfl,KK.1.1,KK.1.2.1,KK.1.2.2⟩
end
def LOk(D:PlanD)(st:FSt):Prop:=∀a,a∈D.hops->∀r∈st.link a,Wire.Oct r
def k1I(D:PlanD)(a:Nat×Nat)(m:Nat)(st st':FSt):Prop:=
 ∃row s',(st.link a)[m]? = some row/\TakeRel D a.2 (k08 D a.2 a.1) (st.node a.2) row s'/\st'=⟨upd st.node a.2 s',updl st.link a ((st.link a).eraseIdx m),st.ticks⟩
section
variable{w:World}{o:Nat->Col}{D:PlanD}{F:FTab}{st:FSt}
def kbF(a:Nat×Nat)(c:Col):Prop:=c=.lnk (lc a)\/k0q a.2 c
def kcY(a:Nat×Nat)(m:Nat)(w:World)(o:Nat->Col)(D:PlanD)(F:FTab)(st:FSt)(e:Ending)(w':World):Prop:=∃(c:Int)(o':Nat->Col)(st':FSt),e=.returned (.int .u16 c)/\k1I D a m st st'/\FabAt w' o' D F st'/\Tr (kbF a) o w o' w'
theorem k30(i m:Nat)(a:Nat×Nat)(M:Int)(C:Nat)(H:FabAt w o D F st)(G:Good D)(hf:Fresh o w)(K:FOk D M C st)(KL:LOk D st)(ha:D.hops[i]? = some a)(hm:m<(st.link a).length) :
 Calls Tryz.prog 27 #[.pointer (some ⟨F.g,0,none⟩),.int .i64 i,.int .i64 m] w (kcY a m w o D F st):=by
 have hmem:=List.mem_of_getElem? ha;have cl:=k24 H G i a ha;have HA:=Ac (_/\_/\_/\_/\_) (⟨H,G,hf,K,KL⟩);have HM:=Ac (_/\_/\_) (⟨hmem,ha,hm⟩);obtain⟨x,y⟩:=a;obtain⟨n,hn⟩:∃n,n=D.hops.length:=⟨_,rfl⟩;have hin:i<n:=by have:=(List.getElem?_eq_some_iff.1 ha).1;omega
 have hn6:n<=30:=zz95
 have hy:y<D.nodes:=(k0O hmem).2;have hD6:=G.n1;have HN:=Ab hn;clear H G hf K KL hmem ha hm hn;go_enter Tryz.func27,Tryz.ntmps27
 go_wp2_with(first
  |(go_at_call 30;refine(k6T m (HA.1.2.2.1.blw LB.1) ((HA.1.1.blw HA.1.2.2.1 LB.1).link _ HM.1.1) HM.1.2.2).mono ?_;rintro e w2 ⟨vr,row,gb,rfl,hrow,hr,hl0,hl12,ht,hlnk⟩;obtain⟨rb,ro,rc,rfl,rfl,_,_,_⟩:=hr.open hl0;have KT:=Ac (_/\_/\_/\_/\_) (⟨hrow,hr,hl12,ht,hlnk⟩);clear hrow hr hl0 hl12 ht hlnk)
  |(go_at_call 17;refine cl.mono ?_;rintro e w1 ⟨rfl,hb⟩;have LB:=Ab hb;clear hb))
 have F1:=Ab (HA.1.2.2.1.blw LB.1);have H2:=Ab ((HA.1.1.blw HA.1.2.2.1 LB.1).linkTo HA.1.2.1 HM.1.1 KT.1.2.2.2.1 KT.1.2.2.2.2);have HS:=Sat.mk (S:=fun(W:World)=>W.cell? ⟨F.g,12,none⟩=some (.slice (some ⟨F.vb,F.vo,none⟩) D.nodes F.vc)/\W.cell? ⟨F.g,11,none⟩=some (.slice (some ⟨F.hb,F.ho,none⟩) n F.hc)/\W.cell? ⟨F.hb,F.ho+i*2,none⟩=some (.int .i64 x)/\W.cell? ⟨F.hb,F.ho+i*2+1,none⟩=some (.int .i64 y)/\W.cell? ⟨F.vb,F.vo+y,none⟩=some (.pointer (some ⟨(F.node y).g,0,none⟩))) (w:=w2) (⟨(k00 H2.1.blk 12).trans rfl,by rw[HN.1];exact(k00 H2.1.blk 11).trans rfl,(H2.1.hop i _ HM.1.2.1).1,(H2.1.hop i _ HM.1.2.1).2,H2.1.cells y hy⟩);refine WpL.rg HS 99 zz2 ?_;refine WpL.E 0 HS.1 ?_;refine WpL.E 1 HS.1 ?_;refine WpL.E 2 HS.1 ?_;refine WpL.E 3 HS.1 ?_;refine WpL.E 4 HS.1 ?_;refine WpL.E 5 HS.1 ?_;refine WpL.E 6 HS.1 ?_;refine WpL.E 7 HS.1 ?_;refine WpL.E 8 HS.1 ?_;refine WpL.E 9 HS.1 ?_;refine WpL.E 10 HS.1 ?_;refine WpL.E 11 HS.1 ?_;refine WpL.E 12 HS.1 ?_;refine WpL.E 13 HS.1 ?_;refine WpL.E 14 HS.1 ?_;refine WpL.E 15 HS.1 ?_;refine WpL.E 16 HS.1 ?_;refine WpL.E 17 HS.1 ?_;refine WpL.E 18 HS.1 ?_;refine WpL.E 19 HS.1 ?_;refine WpL.E 20 HS.1 ?_;refine WpL.E 21 HS.1 ?_;refine WpL.E 22 HS.1 ?_;refine WpL.one (i:=23) zz2 rfl (fun K hK=>?_);go_simp;refine(k3C x M C ⟨rb,ro,none⟩ _ _ row (some rb) ((H2.1.node y hy).blw KT.1.2.2.2.1.fresh ((Below.refl _ _).drew)) HA.1.2.1 hy (KT.1.2.2.2.1.fresh.blw ((Below.refl _ _).drew)) (HA.1.2.2.2.1 y hy) (k2X (k0r.1 HM.1.1).2 (k0r.1 HM.1.1).1) KT.1.2.1.drew rfl KT.1.2.2.1 (HA.1.2.2.2.2 _ HM.1.1 row (List.mem_of_getElem? KT.1.1))).mono ?_;rintro e w3 ⟨c,o3,s3,rfl,hrel,hnode,htr⟩;have K3:=Ac (_/\_/\Tr (k0q y) o w2 o3 w3) (⟨hrel,hnode,k1Z htr⟩);clear hrel hnode htr;have H3:=Ab (H2.1.nodeTo K3.1.2.2 K3.1.2.1);have HS3:=HS.to w3 (⟨(k00 H3.1.blk 12).trans rfl,by rw[HN.1];exact(k00 H3.1.blk 11).trans rfl,(H3.1.hop i _ HM.1.2.1).1,(H3.1.hop i _ HM.1.2.1).2,H3.1.cells y hy⟩);simp only[];refine hK.out _ _ (fun _=>HS3.1) ?_;clear hK K
 try refine Sm ?_
 refine WpL.E 24 HS3.1 ?_;refine WpL.done zz2 ?_ _;go_wp2;go_ret;exact⟨c,o3,_,rfl,⟨row,s3,KT.1.1,K3.1.1,rfl⟩,H2.1.nodeTo K3.1.2.2 K3.1.2.1,((Tr.below HA.1.2.2.1 LB.1).trans (KT.1.2.2.2.1.mono (fun c h=>.inl h))).trans (K3.1.2.2.mono (fun c h=>.inr h))⟩
end
section
open Go.Proofs.YtdopmlopafgonaaGreatDoor.Wire
theorem kcr(k l s a b y:Int)(h:Fr.wf ⟨k,l,s,a,b,y⟩):Oct (pre k l s a b y):=by
 obtain⟨⟨k0,k1⟩,⟨l0,l1⟩,⟨s0,s1⟩,⟨a0,a1⟩,⟨b0,b1⟩,y0,y1⟩:=h;dsimp only at *;unfold pre;refine Oct.append (Oct.append (Oct.two k0 k1 l0 l1) (Oct.two zz1 zz1 zz1 zz1)) ?_;split
 ·exact Oct.append (Oct.two a0 a1 b0 b1) (Oct.cons zz1 zz1 (Oct.cons zz1 zz1 (Oct.two zz1 zz1 zz1 zz1)))
 ·exact Oct.nil
theorem k9M{F:Fr}(h:F.wf):Oct F.bytes:=by
 have hp:=kcr F.k F.l F.s F.a F.b F.y h;obtain⟨c0,c1⟩:=k0y hp;exact Oct.append hp (Oct.two zz1 zz1 zz1 zz1)
end
def kbu(D:PlanD)(v:Nat)(p:OutP):Prop:=p.1∈D.bs v/\0<p.2.length/\p.2.length<=12/\Wire.Oct p.2
theorem k5J{D:PlanD}{v i:Nat}{f:Wire.Fr}(hi:1<=i)(hn:i<np D v)(hw:f.wf):kbu D v (k0G D v i,f.bytes):=by
 refine⟨?_,?_,?_,k9M hw⟩
 ·obtain⟨j,rfl⟩:∃j,i=j+1:=⟨i-1,zz1⟩
  have hj:j<(D.bs v).length:=by unfold np at hn;omega
  show(v :: D.bs v).getD (j+1) 0∈D.bs v;simp[hj]
 ·show 0<f.bytes.length;rw[Wire.bytes_len];split<;>omega
 ·show f.bytes.length<=12;rw[Wire.bytes_len];split<;>omega
theorem k9I{D:PlanD}(G:Good D){v:Nat}{st:NSt}:∀p∈k1f D v st (np D v),kbu D v p:=by
 intro p hp;obtain⟨i,hi,hp⟩:=List.mem_flatMap.1 hp;have hi:=List.mem_range.1 hi;split at hp
 ·cases hp
 ·obtain⟨k,hk,hp⟩:=List.mem_flatMap.1 hp
  have hk:=List.mem_range.1 hk;have hl:=G.l1;simp only[List.mem_cons,List.not_mem_nil,or_false]at hp;rcases hp with rfl|rfl
  ·exact k5J zz1 hi (k1O (.inr rfl) zz1 _).1
  ·exact k5J zz1 hi (k1O (.inl rfl) zz1 _).1
theorem k5o{D:PlanD}(G:Good D){v:Nat}{ms:Nat->Int}{rs:List Nat}(hm:k2W rs (np D v) ms){M:Int}{C:Nat}{st:NSt}(h:NodeOk D v M C st):∀{n:Nat}{st':NSt}{os:List OutP},n<=np D v->M+n<=1000000->MovesTo D v ms n st st' os->∀p∈os,kbu D v p
 |0,st',os,_,_,hh=>by
  obtain⟨_,rfl⟩:=hh;intro p hp;cases hp
 |n+1,st',os,hn,hM,hh=>by
  obtain⟨s1,o1,o2,h1,h2,rfl⟩:=hh;have ih:=k5o G hm h (n:=n) zz1 zz1 h1;have ok:=(MovesTo.ok G hm h (n:=n) zz1 zz1 h1).1;intro p hp;rcases List.mem_append.1 hp with hp|hp
  ·exact ih p hp
  ·rcases h2 with⟨h0,hr⟩|⟨_,_,rfl⟩
   ·rcases hr with⟨_,_,rfl⟩|⟨k,x,r,hk,_,hq,⟨_,_,rfl⟩|⟨ht,_,rfl⟩⟩
    ·cases hp
    ·cases hp
    ·obtain rfl:=List.mem_singleton.1 hp
     have htn:(ms n).toNat<np D v:=by
      rcases hm n zz1 with e|⟨k2,h3,e,_⟩
      ·exact zz1
      ·exact zz1
     exact k5J zz1 htn (k3o G hk (ok.q n (ms n).toNat k zz1 htn hk x (by rw[hq];exact List.mem_cons_self ..)) _).1
   ·cases hp
theorem k6R{D:PlanD}(G:Good D){v:Nat}(hv:v<D.nodes){M:Int}{C:Nat}{st st':NSt}{os:List OutP}(h:NodeOk D v M C st)(hM:M+6<=1000000)(t:TickRel D v st st' os):∀p∈os,kbu D v p:=by
 obtain⟨s1,ms,s2,o2,hf,hm,_,hmv,_,rfl⟩:=t;have hnp:=k2t G hv;intro p hp;rcases List.mem_append.1 hp with hp|hp
 ·exact k5o G hm (hf.ok G h) (Nat.le_refl _) zz1 hmv p hp
 ·split at hp
  ·exact k9I G p hp
  ·cases hp
theorem kcf:(Tryz.prog.info? 113).map (fun i=>(i.zero,i.size,i.bytes))=some (some (.slice none 0 0),1,24):=by kernel_rfl
theorem OutsAt.only{P:Nat->Prop}{w w':World}{o:Nat->Col}{lo:Nat}{V:Value}{outs:List OutP}(h:OutsAt w o lo V outs)(t:Only P w w')(hS:∀b,lo<=b->¬P b):OutsAt w' o lo V outs:=by
 obtain⟨us,g,hl,r,hg,hr⟩:=h;refine⟨us,g,hl,r.only t (fun b e=>hS b (hg b e).1),hg,fun i p u hp hu=>?_⟩;obtain⟨gb,rb,hb,ob⟩:=hr i p u hp hu;exact⟨gb,rb.only t (fun b' e=>by cases e;exact hS _ hb),hb,ob⟩
theorem OutsAt.shape{w:World}{o:Nat->Col}{lo:Nat}{V:Value}{outs:List OutP}(h:OutsAt w o lo V outs):∃A c,V=.slice A outs.length c:=by
 obtain⟨us,g,hl,r,_⟩:=h;obtain⟨A,c,e,_⟩:=r.size;exact⟨A,c,e⟩
theorem OutsAt.mono{w:World}{o:Nat->Col}{lo lo':Nat}{V:Value}{outs:List OutP}(h:OutsAt w o lo V outs)(hl:lo'<=lo):OutsAt w o lo' V outs:=by
 obtain⟨us,g,h1,r,hg,hr⟩:=h;refine⟨us,g,h1,r,fun b e=>⟨by have:=(hg b e).1;omega,(hg b e).2⟩,fun i p u hp hu=>?_⟩;obtain⟨gb,rb,hb,ob⟩:=hr i p u hp hu;exact⟨gb,rb,zz1,ob⟩
def kap(c:Col):Prop:=∃v,k0q v c
structure kdm(D:PlanD)(F:FTab)(st:FSt)(M:Int)(C:Nat)(w:World)(o:Nat->Col)(s:Nat)(k:Nat)(W:World)(oc:Nat->Col)(stc:FSt)(outs:Nat->List OutP)(vs:List Value):Prop where
 fab:FabAt W oc D F stc
 tr:Tr kap o w oc W
 did:∀v,v<k->TickRel D v (st.node v) (stc.node v) (outs v)/\NodeOk D v (M+6) (C+6) (stc.node v)/\(outs v).length<=50
 rest:∀v,k<=v->stc.node v=st.node v
 link:stc.link=st.link
 ticks:stc.ticks=st.ticks
 row:Row W (.slice (some ⟨s,0,none⟩) D.nodes D.nodes) 113 1 D.nodes vs (some s)
 os:oc s=.junk
 says:∀v,v<k->∃V,vs[v]? = some V/\OutsAt W oc (s+1) V (outs v)
 tab:Tab W
 t0:oc 0=.fix
def put1(D:PlanD)(rows:List (List Int))(l:List Int):List (List Int):=if rows.length<D.bag then rows++[l] else rows
def k2p(D:PlanD)(v:Nat)(lk:Nat×Nat->List (List Int))(os:List OutP):Nat×Nat->List (List Int):=os.foldl (fun lk p=>updl lk (v,p.1) (put1 D (lk (v,p.1)) p.2)) lk
def k1D(D:PlanD)(outs:Nat->List OutP)(lk:Nat×Nat->List (List Int)):Nat->Nat×Nat->List (List Int)
 |0=>lk
 |k+1=>k2p D k (k1D D outs lk k) (outs k)
theorem k8j(D:PlanD)(v:Nat)(lk:Nat×Nat->List (List Int))(os:List OutP)(p:OutP):k2p D v lk (os++[p])=updl (k2p D v lk os) (v,p.1) (put1 D (k2p D v lk os (v,p.1)) p.2):=by unfold k2p;rw[List.foldl_append];rfl
def k0W(c:Col):Prop:=kap c\/(∃n,c=.lnk n)\/c=.fab
def k8U(D:PlanD)(st st':FSt):Prop:=∃outs:Nat->List OutP,(∀v,v<D.nodes->TickRel D v (st.node v) (st'.node v) (outs v))/\st'.link=k1D D outs st.link D.nodes/\st'.ticks=st.ticks+1
section
variable{w:World}{o:Nat->Col}{D:PlanD}{F:FTab}{st:FSt}
def kcl(w:World)(o:Nat->Col)(D:PlanD)(F:FTab)(st:FSt)(M:Int)(C:Nat)(e:Ending)(w':World):Prop:=∃(o':Nat->Col)(st':FSt),e=.returned (.tuple #[])/\k8U D st st'/\FabAt w' o' D F st'/\FOk D (M+6) (C+6) st'/\Tr k0W o w o' w'
theorem kaJ{c:Col}{g:Nat}{rows:List (List Int)}{v:Value}{l:List Int}{gb:Option Nat}(hf:Fresh o w)(L:LnkAt w o c g rows D.bag)(R:Row w v 5 1 l.length (u8s l) gb)(hn:0<l.length)(hl:l.length<=12) :
 Calls Tryz.prog 50 #[.pointer (some ⟨g,0,none⟩),v] w fun e w'=>∃b o',e=.returned (.bool b)/\Tr (fun x=>x=c) o w o' w'/\LnkAt w' o' c g (put1 D rows l) D.bag:=by
 unfold put1;by_cases h:rows.length<D.bag
 ·rw[if_pos h]
  refine(k6o w o c g rows D.bag v l gb hf L R hn hl zz1).mono ?_;rintro e w' ⟨o',h1,h2,h3⟩;exact⟨true,o',h1,h2,h3⟩
 ·rw[if_neg h]
  refine(k2N v L zz1).mono ?_;rintro e w' ⟨h1,h2⟩;exact⟨false,o,h1,Tr.below hf h2,L.tr (Tr.below (S:=fun _=>False) hf h2) (fun x=>x)⟩
structure Sends(D:PlanD)(F:FTab)(st:FSt)(w:World)(o:Nat->Col)(s:Nat)(stc:FSt)(outs:Nat->List OutP)(vs:List Value)(k j:Nat)(W:World)(oc:Nat->Col):Prop where
 fab:FabAt W oc D F { stc with link:=k2p D k (k1D D outs st.link k) ((outs k).take j) }
 tr:Tr k0W o w oc W
 row:Row W (.slice (some ⟨s,0,none⟩) D.nodes D.nodes) 113 1 D.nodes vs (some s)
 os:oc s=.junk
 says:∀v,v<D.nodes->∃V,vs[v]? = some V/\OutsAt W oc (s+1) V (outs v)
theorem Sends.next{s:Nat}{stc:FSt}{outs:Nat->List OutP}{vs:List Value}{k j:Nat}{W W':World}{oc oc':Nat->Col}{p:OutP}(G:Good D)(h:Sends D F st w o s stc outs vs k j W oc)(hp:(outs k)[j]? = some p)(ha:(k,p.1)∈D.hops)(t:Tr (fun c=>c=.lnk (lc (k,p.1))) oc W oc' W')
 (L:LnkAt W' oc' (.lnk (lc (k,p.1))) (F.link (k,p.1)) (put1 D (k2p D k (k1D D outs st.link k) ((outs k).take j) (k,p.1)) p.2) D.bag):Sends D F st w o s stc outs vs k (j+1) W' oc':=by
 refine⟨?_,h.tr.trans (t.mono (fun c e=>.inr (.inl ⟨_,e⟩))),h.row.only t.only (fun b e=>by cases e;rw[h.os];simp),(t.own _ (h.row.lt rfl)).trans h.os,fun v hv=>?_⟩
 ·have:=h.fab.linkTo G ha t L
  rw[List.take_add_one,hp];show FabAt W' oc' D F { stc with link:=k2p D k (k1D D outs st.link k) ((outs k).take j++[p]) };rw[k8j];exact this
 ·obtain⟨V,h1,h2⟩:=h.says v hv
  exact⟨V,h1,h2.tr t zz6⟩
theorem Sends.blw{s:Nat}{stc:FSt}{outs:Nat->List OutP}{vs:List Value}{k j:Nat}{W W':World}{oc:Nat->Col}(h:Sends D F st w o s stc outs vs k j W oc)(b:Below W.heap.size W W'):Sends D F st w o s stc outs vs k j W' oc:=
 ⟨h.fab.blw h.tr.fresh b,h.tr.trans (Tr.below h.tr.fresh b),h.row.below b,h.os,fun v hv=>by obtain⟨V,h1,h2⟩:=h.says v hv;exact⟨V,h1,h2.blw h.tr.fresh b⟩⟩
theorem k5F(M:Int)(C:Nat)(H:FabAt w o D F st)(G:Good D)(hf:Fresh o w)(K:FOk D M C st)(KL:LOk D st)(hT:Tab w)(h0:o 0=.fix)(hM:M+6<=1000000)(hC:C+6<=9000)(ht:∀v,v<D.nodes->(st.node v).ticks<=1000000)(hft:st.ticks<=1000000) :
 Calls Tryz.prog 24 #[.pointer (some ⟨F.g,0,none⟩)] w (kcl w o D F st M C):=by
 have b0:=fun j=>k00 H.blk j
 have hgl:=k03 H.blk;have hn1:=G.n0;have hn6:=G.n1;obtain⟨i0,hi,hz0,hz1,hz2⟩:=info_parts kcf;have hmk:∀W:World,(Instr.makeSlice 111 (.int .i64 D.nodes) (.int .i64 D.nodes)).run Tryz.prog W=.ok (.slice (some ⟨W.heap.size,0,none⟩) D.nodes D.nodes) (W.alloc (.cells (madeCells (Value.slice none 0 0).cells (D.nodes*1)) 113)):=fun W=>by
  have:=run_make (P:=Tryz.prog) W 111 113 i0 _ Tryz.underlying111 hi hz0 .i64 .i64 D.nodes D.nodes zz1 zz1 zz91 zz1;exact zz53
 have HA:=Ac (_/\_/\_/\_/\_) (⟨H,G,hf,K,KL⟩);have HB:=Ac (_/\_/\_/\_) (⟨hT,h0,ht,hft⟩);clear hi hz0 hz1 hz2 H G hf K KL hT h0 ht hft;go_enter Tryz.func24,Tryz.ntmps24;go_wp2;clear hmk;obtain⟨w1,hw1⟩:∃w1,w1=w.alloc (.cells (madeCells #[Value.slice none 0 0] D.nodes) 113):=⟨_,rfl⟩;have B1:=Ac (Below w.heap.size w w1) (by rw[hw1];exact(Below.refl _ w).alloc (Nat.le_refl _) _);obtain⟨s,hs⟩:∃s,s=w.heap.size:=⟨_,rfl⟩;have TT:=Ab (show kdm D F st M C w o s 0 w1 o st (fun _=>[]) (List.replicate D.nodes (.slice none 0 0)) from
  ⟨HA.1.1.blw HA.1.2.2.1 B1.1,Tr.below HA.1.2.2.1 B1.1,fun v h=>by omega,fun _ _=>rfl,rfl,rfl,by
   have h:=k4c w (.slice none 0 0) 113 D.nodes rfl;rw[Nat.mul_one]at h;rw[hw1,hs];exact h,by rw[hs];exact HA.1.2.2.1 _ (Nat.le_refl _),fun v h=>by omega,HB.1.1.below B1.1,HB.1.2.1⟩)
 have HSS:=Ab hs;rw[<- hw1,<- hs];clear hw1 hs
 go_loopw [21] (fun s21 wr=>∃(k:Nat)(oc:Nat->Col)(stc:FSt)(outs:Nat->List OutP)(vs:List Value),k<=D.nodes/\s21=.int .i64 k/\k07 (kdm D F st M C w o s k wr oc stc outs vs)) (fun s21 _=>D.nodes-ixOf s21)
 case atStart=>exact⟨0,o,st,_,_,zz1,rfl,TT⟩
 case round=>
  clear b0 hgl;obtain⟨k,oc,stc,outs,vs,hk,rfl,R⟩:=hrel;by_cases hlt:k<D.nodes
  ·have e1:(k:Int)<(D.nodes:Int):=by omega
   have c0:=R.1.fab.cells k hlt;have hno:=(R.1.rest k (Nat.le_refl _));have ct:=k8P M C (R.1.fab.node k hlt) HA.1.2.1 hlt R.1.tr.fresh (by rw[hno];exact HA.1.2.2.2.1 k hlt) R.1.tab R.1.t0 hM hC (by rw[hno];exact HB.1.2.2.1 k hlt);obtain⟨V0,hV0⟩:∃u,vs[k]? = some u:=⟨_,List.getElem?_eq_getElem zz100⟩;obtain⟨_,_,_,hs5,hA5,_,hfz,hcs⟩:=R.1.row.open zz1;simp only[Value.slice.injEq,Option.some.injEq,Addr.mk.injEq,and_true,true_and]at hA5;obtain⟨⟨rfl,rfl⟩,rfl⟩:=hA5;have hck:=(hcs k zz100).trans hV0;rw[Nat.zero_add]at hck;have hfk:=hfz k;have hsl:=R.1.row.lt rfl;have HN:=Ab hno;clear hs5 hfz hcs hno;obtain⟨cur,hZ⟩:=R.1.row.blk_ty;have HZ:=Ac (_/\_) (⟨hZ,hV0⟩);have hckc:=(k00 hZ k).symm.trans hck;clear hZ hV0
   go_wp2_with(go_at_call 49;refine ct.mono ?_;rintro e w2 ⟨V,o2,s2,os2,rfl,hrel,hnode,hok,htr,houts,hlen⟩;obtain⟨AV,cV,rfl⟩:=houts.shape;have K2:=Ac (_/\_/\_/\_/\_/\_) (⟨hrel,hnode,hok,htr,houts,hlen⟩);have Z2:=(htr.only.keep s hsl (by have:=R.1.os;rw[this];intro h;cases h)).trans HZ.1.1;have ck2:=(k00 Z2 k).trans hckc;have fk2:=k02 Z2 k;clear hrel hnode hok htr houts hlen ct hck hfk hckc)
   have hs0:0<s:=by rw[HSS.1];exact HB.1.1.lt
   have ho2:o2 s=.junk:=(K2.1.2.2.2.1.own _ hsl).trans R.1.os;have oS:=k0j w2 s k (.slice AV os2.length cV);have tS:Tr (fun c=>c=.junk) o2 w2 o2 (w2.setCell ⟨s,k,none⟩ (.slice AV os2.length cV)):=Tr.same K2.1.2.2.2.1.fresh (oS.mono (fun b _ e=>by rw[e];exact ho2));refine⟨⟨k+1,o2,{ stc with node:=upd stc.node k s2 },upd outs k os2,vs.set k (.slice AV os2.length cV),zz1,rfl,⟨?_⟩⟩,?_⟩
   ·refine⟨(R.1.fab.nodeTo K2.1.2.2.2.1 K2.1.2.1).tr tS zz6 zz6 (fun v c h e=>by rw[e]at h;cases h) zz6,⟨(R.1.tr.trans (K2.1.2.2.2.1.mono (fun c h=>⟨k,h⟩))).only.then oS (fun b hb e=>by have:=HSS.1;omega),fun b hb=>(R.1.tr.trans (K2.1.2.2.2.1.mono (fun c h=>⟨k,h⟩))).own b hb,tS.fresh⟩,fun v hv=>?_,fun v hv=>?_,R.1.link,R.1.ticks,?_,ho2,fun v hv=>?_,?_,(K2.1.2.2.2.1.own 0 R.1.tab.lt).trans R.1.t0⟩
    ·by_cases e:v=k
     ·subst e
      show TickRel D v (st.node v) (upd stc.node v s2 v) (upd outs v os2 v)/\NodeOk D v (M+6) (C+6) (upd stc.node v s2 v)/\(upd outs v os2 v).length<=50;rw[k04,k04];exact⟨by rw[<- HN.1];exact K2.1.1,K2.1.2.2.1,K2.1.2.2.2.2.2⟩
     ·show TickRel D v (st.node v) (upd stc.node k s2 v) (upd outs k os2 v)/\NodeOk D v (M+6) (C+6) (upd stc.node k s2 v)/\(upd outs k os2 v).length<=50
      rw[k06 _ _ e,k06 _ _ e];exact R.1.did v zz1
    ·show upd stc.node k s2 v=st.node v
     rw[k06 _ _ zz1];exact R.1.rest v zz1
    ·have h:=(R.1.row.only K2.1.2.2.2.1.only (fun b e=>by cases e;rw[R.1.os];intro h;cases h)).set k zz100 (.slice AV os2.length cV)
     rw[Nat.zero_add]at h;exact h
    ·by_cases e:v=k
     ·subst e
      refine⟨_,List.getElem?_set_self zz100,?_⟩;rw[k04];exact(K2.1.2.2.2.2.1.mono zz1).only oS (fun b hb e=>by omega)
     ·obtain⟨V,h1,h2⟩:=R.1.says v zz1
      refine⟨V,by rw[List.getElem?_set_ne (fun h=>e h.symm)];exact h1,?_⟩;rw[k06 _ _ e];exact(h2.tr K2.1.2.2.2.1 (by intro h;cases h)).only oS (fun b hb e=>by omega)
    ·exact(R.1.tab.tr K2.1.2.2.2.1 (by rw[R.1.t0];intro h;cases h)).only oS zz1
   ·show D.nodes-ixOf (.int .i64 ((k:Int)+1))<D.nodes-ixOf (.int .i64 (k:Int))
    simp only[ixOf];exact zz1
  ·have e1:¬(k:Int)<(D.nodes:Int):=by omega
   obtain rfl:k=D.nodes:=by omega
   have S0:=Ac (Sends D F st w o s stc outs vs 0 0 wr oc) (⟨by
    have h:=R.1.fab;rw[List.take_zero];show FabAt wr oc D F ⟨stc.node,st.link,stc.ticks⟩;rw[<- R.1.link];exact h,R.1.tr.mono (fun c h=>.inl h),R.1.row,R.1.os,R.1.says⟩)
   have DD:=Ac (_/\_) (⟨R.1.did,R.1.ticks⟩);have HB2:=Ab HB.1.2.2.2;clear R;go_wp2
   go_loopw [36] (fun s36 wr=>∃(k:Nat)(oc:Nat->Col),k<=D.nodes/\s36=.int .i64 k/\k07 (Sends D F st w o s stc outs vs k 0 wr oc)) (fun s36 _=>D.nodes-ixOf s36)
   case atStart=>exact⟨0,oc,zz1,rfl,S0⟩
   case round=>
    clear S0 HB;obtain⟨k,oc,hk,rfl,R⟩:=hrel;by_cases hlt:k<D.nodes
    ·have e1:(k:Int)<(D.nodes:Int):=by omega
     obtain⟨V,hV,hO⟩:=R.1.says k hlt;obtain⟨AV,cV,rfl⟩:=hO.shape;obtain⟨_,_,_,hs5,hA5,_,_,hcs⟩:=R.1.row.open zz1;simp only[Value.slice.injEq,Option.some.injEq,Addr.mk.injEq,and_true,true_and]at hA5;obtain⟨⟨rfl,rfl⟩,rfl⟩:=hA5;have hck:=(hcs k zz100).trans hV;rw[Nat.zero_add]at hck;have hlen:=(DD.1.1 k hlt).2.2;have hoo:=Ab (k6R HA.1.2.1 hlt (HA.1.2.2.2.1 k hlt) hM (DD.1.1 k hlt).1);have HV:=Ab hV;obtain⟨m,hm⟩:∃m,m=(outs k).length:=⟨_,rfl⟩;have HMM:=Ab hm;rw[<- hm]at hck hlen HV;clear hs5 hcs hV hO hm;go_wp2
     go_loopw [43] (fun s43 wr=>∃(j:Nat)(oc:Nat->Col),j<=m/\s43=.int .i64 j/\k07 (Sends D F st w o s stc outs vs k j wr oc)) (fun s43 _=>m-ixOf s43)
     case atStart=>exact⟨0,oc,zz1,rfl,R⟩
     case round=>
      clear R hck;obtain⟨j,oc,hj,rfl,R⟩:=hrel;by_cases hjm:j<m
      ·have e2:(j:Int)<(m:Int):=by omega
       obtain⟨⟨p1,p2⟩,hp⟩:∃p,(outs k)[j]? = some p:=⟨_,List.getElem?_eq_getElem (by have:=HMM.1;omega)⟩;obtain⟨V',hV',us,gV,hul,hr,hg,hrs⟩:=R.1.says k hlt;rw[HV.1]at hV';obtain rfl:=Option.some.inj hV';rw[<- HMM.1]at hr hul;obtain⟨u,hu⟩:∃u,us[j]? = some u:=⟨_,List.getElem?_eq_getElem zz1⟩;obtain⟨gb,hrb,hgb,hob⟩:=hrs j (p1,p2) u hp hu;obtain⟨AU,cU,rfl,_⟩:=hrb.size;obtain⟨g0,g1⟩:=k3N _ _ _ _ _ hp hu;obtain⟨vb,vo,vc,hgV,hA,_,_,hcell⟩:=hr.open zz1;simp only[Value.slice.injEq]at hA;obtain⟨rfl,-,rfl⟩:=hA;have hol:=k3X (outs k) us (by rw[hul,HMM.1]);have c0:wr.cell? ⟨vb,vo+j*2,none⟩=some (.int .i64 (p1:Nat)):=(hcell _ (by have:=HMM.1;omega)).trans g0;have c1:wr.cell? ⟨vb,vo+j*2+1,none⟩=some (.slice AU p2.length cU):=(hcell (j*2+1) (by have:=HMM.1;omega)).trans g1;have hok:=hoo.1 (p1,p2) (List.mem_of_getElem? hp);have hh:(k,p1)∈D.hops:=k0r.2 ⟨hlt,hok.1⟩;have RB:=Ac (_/\_/\_/\_) (⟨hrb,hok,hp,hh⟩);have bl:=Ac (Below wr.heap.size wr (wr.alloc (.cells #[.int .i64 (p1:Nat),.slice AU p2.length cU] 115))) ((Below.refl _ _).alloc (Nat.le_refl _) _);have H1:=Ab (R.1.blw bl.1);have Zb:=heap_alloc_new wr (.cells #[.int .i64 (p1:Nat),.slice AU p2.length cU] 115);obtain⟨M0,hM0⟩:∃M0,M0=(wr.alloc (.cells #[.int .i64 (p1:Nat),.slice AU p2.length cU] 115)).heap[F.mb]?:=⟨_,rfl⟩;have LK:=Ab (fun(W:World) (hW:W.heap[F.mb]? = M0)=>k6E (W:=W) H1.1.fab.map HA.1.2.1 hh (hW.trans hM0));have HS:=Sat.mk (S:=fun(W:World)=>W.cell? ⟨F.g,13,none⟩=some (.map (some F.mb))/\W.cell? ⟨wr.heap.size,0,none⟩=some (.int .i64 p1)/\W.cell? ⟨wr.heap.size,1,none⟩=some (.slice AU p2.length cU)/\W.heap[F.mb]? = M0) (w:=(wr.alloc (.cells #[.int .i64 (p1:Nat),.slice AU p2.length cU] 115))) (⟨(k00 H1.1.fab.blk 13).trans rfl,(k00 Zb 0).trans rfl,(k00 Zb 1).trans rfl,hM0.symm⟩);clear hrb hok hp hh g0 g1 hcell hgV hol hM0 Zb hr hg hrs hul hu hgb hob hV';go_wp2;refine WpL.rg HS 11 zz2 ?_;refine WpL.T 0 [8,3,2,1] HS.1 ?_;refine WpL.T 1 [8,3,2] HS.1 ?_;refine WpL.T 2 [8,3] HS.1 ?_;refine WpL.T 3 [8] HS.1 ?_;refine WpL.T 4 [8,7] HS.1 ?_;refine WpL.T 5 [8,7,6] HS.1 ?_;refine WpL.T 6 [8,7] HS.1 ?_;refine WpL.T 7 [8] HS.1 ?_;refine WpL.take (i:=8) (v:=?vq1_8) (rfl) zz2 zz2 zz2 [] zz2 zz2 (fun _ _ _ h=>h) ?yq1_8 (HS.1) ?rq1_8
       case yq1_8=>refine Or.inl ⟨?_,?_⟩;rfl;intro w hSw;go_simp;simp only[LK.1 _ hSw.2.2.2];rfl
       refine Sm ?_;refine WpL.T 9 [10] HS.1 ?_;refine WpL.T 10 [] HS.1 ?_;refine WpL.one (i:=11) zz2 rfl (fun K hK=>?_);go_simp;have H2:=Ab (H1.1.blw ((Below.refl _ _).drew));refine(kaJ (D:=D) (H2.1.tr.fresh) (H2.1.fab.link (k,p1) RB.1.2.2.2) (RB.1.1.below bl.1).drew RB.1.2.1.2.1 RB.1.2.1.2.2.1).mono ?_;rintro e w3 ⟨b3,o3,rfl,ht3,hl3⟩;have K3:=Ab (H2.1.next HA.1.2.1 RB.1.2.2.1 RB.1.2.2.2 ht3 hl3);clear ht3 hl3;simp only[];refine hK.out _ _ (fun h=>absurd rfl h) ?_;clear hK K
       try refine Sm ?_
       refine WpL.done zz2 ?_ _;go_wp2;refine⟨⟨j+1,o3,zz1,rfl,K3⟩,?_⟩;show m-ixOf (.int .i64 ((j:Int)+1))<m-ixOf (.int .i64 (j:Int));exact zz9
      ·have e2:¬(j:Int)<(m:Int):=by omega
       obtain rfl:j=m:=by omega
       go_wp2;refine⟨⟨k+1,oc,zz1,rfl,⟨?_⟩⟩,?_⟩
       ·refine⟨?_,R.1.tr,R.1.row,R.1.os,R.1.says⟩
        have h:=R.1.fab;rw[HMM.1,List.take_length]at h;exact h
       ·show D.nodes-ixOf (.int .i64 ((k:Int)+1))<D.nodes-ixOf (.int .i64 (k:Int))
        simp only[ixOf];exact zz1
    ·have e1:¬(k:Int)<(D.nodes:Int):=by omega
     obtain rfl:k=D.nodes:=by omega
     have hFb:=R.1.fab;rw[List.take_zero]at hFb;have hB:=hFb.blk;have b2:=fun j=>k00 hB j
     have f2:=fun j=>k02 hB j
     have hft:stc.ticks<=1000000:=by rw[DD.1.2];exact HB2.1
     have HF:=Ab hFb;clear hFb hB;go_wp2;go_end0;have tS:Tr (fun c=>c=.fab) oc wr oc (wr.setCell ⟨F.g,14,none⟩ (.int .i64 ((stc.ticks:Int)+1))):=Tr.same R.1.tr.fresh ((k0j _ _ _ _).mono (fun b _ e=>by rw[e];exact HF.1.og));refine⟨oc,⟨stc.node,k1D D outs st.link D.nodes,stc.ticks+1⟩,rfl,⟨outs,fun v hv=>(DD.1.1 v hv).1,rfl,by show stc.ticks+1=st.ticks+1;rw[DD.1.2]⟩,?_,fun v hv=>(DD.1.1 v hv).2.1,R.1.tr.trans (tS.mono (fun c h=>.inr (.inr h)))⟩;exact HF.1.turn tS zz6 (.inr (k05 HF.1.blk 14 (.int .i64 ((stc.ticks:Int)+1)))) (fun v _=>.inl ⟨fun c h e=>(by rw[e]at h;cases h),rfl⟩) (fun a _=>.inl ⟨zz6,rfl⟩)
end
def DelN(D:PlanD)(a:Nat×Nat):Nat->FSt->FSt->Prop
 |0,s,s'=>s'=s
 |n+1,s,s'=>∃s1,DelN D a n s s1/\k1I D a 0 s1 s'
def DelHops(D:PlanD):Nat->FSt->FSt->Prop
 |0,s,s'=>s'=s
 |i+1,s,s'=>∃s1 a,DelHops D i s s1/\D.hops[i]? = some a/\DelN D a (s1.link a).length s1 s'
def k8b(D:PlanD)(st st':FSt):Prop:=∃s1,k8U D st s1/\DelHops D D.hops.length s1 st'
theorem DelN.len{D:PlanD}{a:Nat×Nat}{s:FSt}:∀{n:Nat}{s':FSt},DelN D a n s s'->(s'.link a).length=(s.link a).length-n
 |0,s',h=>by obtain rfl:s'=s:=h;rfl
 |n+1,s',⟨s1,h1,row,x,h2,_,h3⟩=>by
  have:=h1.len;have hl:=(List.getElem?_eq_some_iff.1 h2).1;rw[h3];show(updl s1.link a ((s1.link a).eraseIdx 0) a).length=_;unfold updl;rw[if_pos rfl,List.length_eraseIdx,if_pos hl];exact zz1
section
variable{w:World}{o:Nat->Col}{D:PlanD}{F:FTab}{st:FSt}
def kb5(P:FSt->Prop)(w:World)(o:Nat->Col)(D:PlanD)(F:FTab)(st:FSt)(e:Ending)(w':World):Prop:=∃(o':Nat->Col)(st':FSt),e=.returned (.tuple #[])/\k8b D st st'/\P st'/\FabAt w' o' D F st'/\Tr k0W o w o' w'
theorem k1e{a:Nat×Nat}{c:Col}(h:kbF a c):k0W c:=by
 rcases h with h|h
 ·exact .inr (.inl ⟨_,h⟩)
 ·exact .inl ⟨_,h⟩
theorem k9Q(M:Int)(C:Nat)(P:FSt->Prop)(hP:∀s,P s->FOk D M C s/\LOk D s)(hd:∀s s' a,P s->a∈D.hops->k1I D a 0 s s'->P s')(h1:∀s',k8U D st s'->P s')(M0:Int)(C0:Nat)(H:FabAt w o D F st)(G:Good D)(hf:Fresh o w)(K:FOk D M0 C0 st)(KL:LOk D st)(hT:Tab w)(h0:o 0=.fix)(hM:M0+6<=1000000)(hC:C0+6<=9000)(ht:∀v,v<D.nodes->(st.node v).ticks<=1000000)(hft:st.ticks<=1000000) :
 Calls Tryz.prog 19 #[.pointer (some ⟨F.g,0,none⟩)] w (kb5 P w o D F st):=by
 have ct:=k5F M0 C0 H G hf K KL hT h0 hM hC ht hft;have HA:=Ac (_/\_/\_/\_) (⟨G,hP,hd,h1⟩);have hn6:D.hops.length<=30:=zz17
 obtain⟨n,hn⟩:∃n,n=D.hops.length:=⟨_,rfl⟩;rw[<- hn]at hn6;have HN:=Ab hn;clear hn H G hP hd h1 hf K KL hT h0 ht hft;go_enter Tryz.func19,Tryz.ntmps19
 go_wp2_with(go_at_call 24;refine ct.mono ?_;rintro e w1 ⟨o1,s1,rfl,hr,hfa,hok,htr⟩;have K1:=Ac (_/\_/\_/\_) (⟨hr,hfa,hok,htr⟩);have b0:=fun j=>k00 hfa.blk j;rw[<- HN.1]at b0;clear hr hfa hok htr ct)
 go_loopw [10] (fun s10 wr=>∃(i:Nat)(oc:Nat->Col)(s:FSt),i<=n/\s10=.int .i64 i/\k07 (DelHops D i s1 s/\P s/\FabAt wr oc D F s/\Tr k0W o w oc wr)) (fun s10 _=>n-ixOf s10)
 case atStart=>exact⟨0,o1,s1,zz1,rfl,⟨rfl,HA.1.2.2.2 _ K1.1.1,K1.1.2.1,K1.1.2.2.2⟩⟩
 case round=>
  clear b0;obtain⟨i,oc,s,hi,rfl,R⟩:=hrel;by_cases hlt:i<n
  ·have e1:(i:Int)<(n:Int):=by omega
   obtain⟨a,ha⟩:∃a,D.hops[i]? = some a:=⟨_,List.getElem?_eq_getElem zz32⟩;have cl:=k24 R.1.2.2.1 HA.1.1 i a ha;have HH:=Ab ha;clear ha
   go_wp2_with(first
    |(go_at_call 26;refine(k5T ((R.1.2.2.1.blw R.1.2.2.2.fresh L2.1).link a (List.mem_of_getElem? HH.1))).mono ?_;rintro e w3 ⟨A3,k3,rfl,_,hb3⟩;have L3:=Ac (Below wr.heap.size wr w3) (L2.1.trans (hb3.mono L2.1.size));clear hb3)
    |(go_at_call 17;refine cl.mono ?_;rintro e w2 ⟨rfl,hb⟩;have L2:=Ab hb;clear hb cl))
   obtain⟨m,hm⟩:∃m,m=(s.link a).length:=⟨_,rfl⟩;have hm64:m<=64:=by
    obtain⟨_,_,_,es,_,_,_,h1,_,_,h2,_⟩:=R.1.2.2.1.link a (List.mem_of_getElem? HH.1);have hb:=HA.1.1.b0;rw[hm,h1,List.length_map];exact zz1
   have HM:=Ab hm;rw[<- hm];clear hm
   go_loopw [18] (fun s18 wq=>∃(j:Nat)(oq:Nat->Col)(s2:FSt),j<=m/\s18=.int .i64 j/\k07 (DelN D a j s s2/\P s2/\FabAt wq oq D F s2/\Tr k0W o w oq wq)) (fun s18 _=>m-ixOf s18)
   case atStart=>exact⟨0,oc,s,zz1,rfl,⟨rfl,R.1.2.1,R.1.2.2.1.blw R.1.2.2.2.fresh L3.1,R.1.2.2.2.trans (Tr.below R.1.2.2.2.fresh L3.1)⟩⟩
   case round=>
    obtain⟨j,oq,s2,hj,rfl,Q⟩:=hrel;by_cases hlj:j<m
    ·have e2:(j:Int)<(m:Int):=by omega
     have hln:=Q.1.1.len;have cd:=k30 i 0 a M C Q.1.2.2.1 HA.1.1 Q.1.2.2.2.fresh (HA.1.2.1 _ Q.1.2.1).1 (HA.1.2.1 _ Q.1.2.1).2 HH.1 (by have:=HM.1;omega);clear hln
     go_wp2_with(go_at_call 27;refine cd.mono ?_;rintro e w5 ⟨c5,o5,s5,rfl,hr5,hf5,ht5⟩;have K5:=Ac (_/\_/\_) (⟨hr5,hf5,ht5⟩);clear hr5 hf5 ht5 cd)
     refine⟨⟨j+1,o5,s5,zz1,rfl,⟨⟨s2,Q.1.1,K5.1.1⟩,HA.1.2.2.1 _ _ a Q.1.2.1 (List.mem_of_getElem? HH.1) K5.1.1,K5.1.2.1,Q.1.2.2.2.trans (K5.1.2.2.mono (fun c h=>k1e h))⟩⟩,?_⟩;show m-ixOf (.int .i64 ((j:Int)+1))<m-ixOf (.int .i64 (j:Int));exact zz9
    ·have e2:¬(j:Int)<(m:Int):=by omega
     obtain rfl:j=m:=by omega
     go_wp2;refine⟨⟨i+1,oq,s2,zz1,rfl,⟨⟨s,a,R.1.1,HH.1,by rw[<- HM.1];exact Q.1.1⟩,Q.1.2⟩⟩,?_⟩;exact zz23
  ·have e1:¬(i:Int)<(n:Int):=by omega
   obtain rfl:i=n:=by omega
   go_wp2;go_end0;exact⟨oc,s,rfl,⟨s1,K1.1.1,by rw[<- HN.1];exact R.1.1⟩,R.1.2.1,R.1.2.2.1,R.1.2.2.2⟩
end
end Go.Proofs.YtdopmlopafgonaaGreatDoor.Own
