/- TopQuick: one packet alone is brought from host to host (a part of the walks and of the plain laws). -/
import Derived.Test.YtdopmlopafgonaaGreatDoorC0
import Derived.Test.YtdopmlopafgonaaGreatDoorC38
import Derived.Test.YtdopmlopafgonaaGreatDoorC39
set_option linter.unusedVariables false
set_option linter.unusedSimpArgs false
set_option maxHeartbeats 4000000
set_option maxRecDepth 100000
namespace Go.Proofs.YtdopmlopafgonaaGreatDoor.Own
open Go.RowKit Go.Proofs.YtdopmlopafgonaaGreatDoorW.PrintWords Go.Proofs.YtdopmlopafgonaaGreatDoorW.PrintLast Go.Proofs.YtdopmlopafgonaaGreatDoorW.PrintMore
def CRows (D:PlanD) (rows:List Value) (lo nb no nc:Nat) (W:World) (k:Nat):Prop:=
 ∃ rs,Row W (.slice (some ⟨nb,no,none⟩) D.next.length nc) 29 1 D.next.length rs (some nb)/\∀ i r,D.next[i]? = some r->∃ u,rs[i]? = some u/\(k<=i->rows[i]? = some u)/\(i<k->∃ g,Row W u 3 1 r.length (i64s r) g/\∀ b,g=some b->lo<=b/\b≠nb)
theorem k8A {D:PlanD} {W:World} {rs:List Value} {lo:Nat} (h:∀ (i:Nat) (r:List Nat),D.next[i]? = some r->∃ u,rs[i]? = some u/\∃ g,Row W u 3 1 r.length (i64s r) g/\∀ b,g=some b->lo<=b):∃ gs:Nat->Option Nat,∀ (i:Nat) (r:List Nat),D.next[i]? = some r->∃ u,rs[i]? = some u/\Row W u 3 1 r.length (i64s r) (gs i)/\∀ b,gs i=some b->lo<=b:=by
 have h2:∀ i:Nat,∃ g:Option Nat,∀ r:List Nat,D.next[i]? = some r->∃ u,rs[i]? = some u/\Row W u 3 1 r.length (i64s r) g/\∀ b,g=some b->lo<=b:=fun i=>by
  cases hr:D.next[i]? with
  | none=>exact ⟨none,fun r h=>by cases h⟩
  | some r=>
    obtain ⟨u,h1,g,h3,h4⟩:=h i r hr;exact ⟨g,fun r' e=>by cases e;exact ⟨u,h1,h3,h4⟩⟩
 exact ⟨fun i=>Classical.choose (h2 i),fun i=>Classical.choose_spec (h2 i)⟩
theorem k7D (l:List Nat):∀ u∈i64s l,u.oneCell'=true:=fun u hu=>by obtain ⟨x,_,rfl⟩:=List.mem_map.1 hu;rfl
theorem k6C (l:List (Nat × Nat)):∀ u∈k0d l,u.oneCell'=true:=fun u hu=>by
 unfold k0d at hu;obtain ⟨x,_,hx⟩:=List.mem_flatMap.1 hu;simp at hx;rcases hx with rfl | rfl <;> rfl
theorem k2J (B:Nat->Prop) (v:Value) (D:PlanD) (w:World) (hP:PlanV w B v D) (G:Good D) :
 Calls Tryz.prog 36 #[v] w fun e w'=>∃ v',e = .returned v'/\PlanV w' (fun b=>w.heap.size<=b) v' D/\Below w.heap.size w w':=by
 obtain ⟨A1,c1,A2,c2,A3,c3,rfl⟩:=hP.shape;obtain ⟨ev,wv,nv,rows,ge,gw,gn,gs,hv,r1,r2,r3,r4,b1,b2,b3⟩:=hP;simp only [pagg,Value.agg.injEq,Array.mk.injEq,List.cons.injEq,true_and,and_true] at hv;obtain ⟨rfl,rfl,rfl⟩:=hv;have RR:=Ab (show _/\_/\_/\(∀ i r,D.next[i]? = some r->∃ u,rows[i]? = some u/\Row w u 3 1 r.length (i64s r) (gs i)) from ⟨r1,r2,r3,fun i r h=>by obtain ⟨u,a,b,_⟩:=r4 i r h;exact ⟨u,a,b⟩⟩);have HL:=Ab (show D.edges.length<=100000/\D.weights.length<=100000/\D.next.length<=100000/\0<D.next.length/\∀ r∈D.next,r.length<=100000 from ⟨by have:=G.el;omega,by have:=G.wl;have:=G.l1;omega,by have:=G.nl;have:=G.n1;omega,by have:=G.nl;have:=G.n0;omega,fun r hr=>by have:=G.nr r hr;have:=G.n1;omega⟩);have OR:=Ab (show ∀ u∈rows,u.oneCell'=true from fun u hu=>by
  obtain ⟨i,hi⟩:=List.mem_iff_getElem?.1 hu;have hlt:=(List.getElem?_eq_some_iff.1 hi).1;obtain ⟨r,hr⟩:∃ r,D.next[i]? = some r:=⟨_,List.getElem?_eq_getElem (by have:=r3.1;omega)⟩;obtain ⟨u',h1,h2,_⟩:=r4 i r hr;rw [hi] at h1;cases h1;obtain ⟨A,cap,rfl,_⟩:=h2.size;rfl)
 obtain ⟨w1,hw1⟩:∃ w1,w1=(w.alloc (pbox D A1 c1 A2 c2 A3 c3)).alloc (.cells #[.int .i64 0,.slice none 0 0,.int .i64 0,.int .i64 0,.int .i64 0,.int .i64 0,.int .i64 0,.int .i64 0,.slice none 0 0,.int .u16 0,.slice none 0 0] 32):=⟨_,rfl⟩;have L1:=Ab (show Below w.heap.size w w1 from by rw [hw1];exact ((Below.refl _ w).alloc (Nat.le_refl _) _).alloc zz17 _);have Z1:=Ab (show w1.heap[w.heap.size]? = some (pbox D A1 c1 A2 c2 A3 c3) from by rw [hw1];exact (Below.heap_alloc _ _ _ zz17).trans (heap_alloc_new w _));have ZR:=Ab (show w1.heap[w.heap.size+1]? = some (.cells #[.int .i64 0,.slice none 0 0,.int .i64 0,.int .i64 0,.int .i64 0,.int .i64 0,.int .i64 0,.int .i64 0,.slice none 0 0,.int .u16 0,.slice none 0 0] 32) from by
  rw [hw1];have h:=heap_alloc_new (w.alloc (pbox D A1 c1 A2 c2 A3 c3)) (.cells #[.int .i64 0,.slice none 0 0,.int .i64 0,.int .i64 0,.int .i64 0,.int .i64 0,.int .i64 0,.int .i64 0,.slice none 0 0,.int .u16 0,.slice none 0 0] 32);rw [World.size_alloc] at h;exact h)
 have HS:=Ab (show (fun (W:World)=>W.cell? ⟨w.heap.size,1,none⟩=some (.slice A1 D.edges.length c1)/\W.cell? ⟨w.heap.size,8,none⟩=some (.slice A2 D.weights.length c2)/\W.cell? ⟨w.heap.size,10,none⟩=some (.slice A3 D.next.length c3)) w1 from ⟨(k00 Z1.out 1).trans rfl,(k00 Z1.out 8).trans rfl,(k00 Z1.out 10).trans rfl⟩);clear r1 r2 r3 r4 b1 b2 b3 G;go_enter Tryz.func36,Tryz.ntmps36;go_wp2;rw [<- hw1];clear hw1;refine WpM.region (fun (W:World)=>W.cell? ⟨w.heap.size,1,none⟩=some (.slice A1 D.edges.length c1)/\W.cell? ⟨w.heap.size,8,none⟩=some (.slice A2 D.weights.length c2)/\W.cell? ⟨w.heap.size,10,none⟩=some (.slice A3 D.next.length c3)) (fun j=>Nat.ble 10 j) zz3 ?_;refine WpM.take (i:=0) (v:=?vm1_0) (rfl) zz3 zz3 zz3 zz3 zz3 (fun _ _ _ h=>h) ?ym1_0 (HS.out) ?rm1_0
 case ym1_0=>first | (refine Or.inr ⟨?_,?_⟩;rfl;rfl) | (refine Or.inl ⟨?_,?_⟩;rfl;intro w hSw;(try dsimp only at hSw);go_simp;try with_reducible rfl)
 refine Sm ?_;refine WpM.take (i:=1) (v:=?vm1_1) (rfl) zz3 zz3 zz3 zz3 zz3 (fun _ _ _ h=>h) ?ym1_1 (HS.out) ?rm1_1
 case ym1_1=>first | (refine Or.inr ⟨?_,?_⟩;rfl;rfl) | (refine Or.inl ⟨?_,?_⟩;rfl;intro w hSw;(try dsimp only at hSw);go_simp;try with_reducible rfl)
 refine Sm ?_;refine WpM.take (i:=3) (v:=?vm1_3) (rfl) zz3 zz3 zz3 zz3 zz3 (fun _ _ _ h=>h) ?ym1_3 (HS.out) ?rm1_3
 case ym1_3=>first | (refine Or.inr ⟨?_,?_⟩;rfl;rfl) | (refine Or.inl ⟨?_,?_⟩;rfl;intro w hSw;(try dsimp only at hSw);go_simp;try with_reducible rfl)
 refine Sm ?_;refine WpM.take (i:=4) (v:=?vm1_4) (rfl) zz3 zz3 zz3 zz3 zz3 (fun _ _ _ h=>h) ?ym1_4 (HS.out) ?rm1_4
 case ym1_4=>first | (refine Or.inr ⟨?_,?_⟩;rfl;rfl) | (refine Or.inl ⟨?_,?_⟩;rfl;intro w hSw;(try dsimp only at hSw);go_simp;try with_reducible rfl)
 refine Sm ?_;refine WpM.take (i:=6) (v:=?vm1_6) (rfl) zz3 zz3 zz3 zz3 zz3 (fun _ _ _ h=>h) ?ym1_6 (HS.out) ?rm1_6
 case ym1_6=>first | (refine Or.inr ⟨?_,?_⟩;rfl;rfl) | (refine Or.inl ⟨?_,?_⟩;rfl;intro w hSw;(try dsimp only at hSw);go_simp;try with_reducible rfl)
 refine Sm ?_;refine WpM.take (i:=7) (v:=?vm1_7) (rfl) zz3 zz3 zz3 zz3 zz3 (fun _ _ _ h=>h) ?ym1_7 (HS.out) ?rm1_7
 case ym1_7=>first | (refine Or.inr ⟨?_,?_⟩;rfl;rfl) | (refine Or.inl ⟨?_,?_⟩;rfl;intro w hSw;(try dsimp only at hSw);go_simp;try with_reducible rfl)
 refine Sm ?_;refine WpM.one (i:=2) zz3 rfl (fun K hK=>?_);go_simp;refine (k6Z _ _ _ _ _ (RR.out.1.below L1.out).drew (k6C _) zz63).mono ?_;rintro e w2 ⟨vKA,gKA,rfl,hr,hb,hn,_⟩;obtain ⟨E1,k1,rfl,_⟩:=hr.size;have KA:=Ab (show Row w2 _ _ _ _ _ _/\Below w1.heap.size w1 w2/\_ from ⟨hr,by first | exact undrew hb | exact hb,hn⟩);have HSKA:=Ab (show (fun (W:World)=>W.cell? ⟨w.heap.size,1,none⟩=some (.slice A1 D.edges.length c1)/\W.cell? ⟨w.heap.size,8,none⟩=some (.slice A2 D.weights.length c2)/\W.cell? ⟨w.heap.size,10,none⟩=some (.slice A3 D.next.length c3)) w2 from ⟨k01 KA.out.2.1 HS.out.1,k01 KA.out.2.1 HS.out.2.1,k01 KA.out.2.1 HS.out.2.2⟩);refine hK.out _ _ (fun _=>HSKA.out) ?_;clear hK K
 try refine Sm ?_
 refine WpM.take (i:=9) (v:=?vm1_9) (rfl) zz3 zz3 zz3 zz3 zz3 (fun _ _ _ h=>h) ?ym1_9 (HSKA.out) ?rm1_9
 case ym1_9=>first | (refine Or.inr ⟨?_,?_⟩;rfl;rfl) | (refine Or.inl ⟨?_,?_⟩;rfl;intro w hSw;(try dsimp only at hSw);go_simp;try with_reducible rfl)
 refine Sm ?_;refine WpM.one (i:=5) zz3 rfl (fun K hK=>?_);go_simp;refine (k2u _ _ _ _ _ ((RR.out.2.1.below L1.out).below KA.out.2.1) (k7D _) zz63).mono ?_;rintro e w3 ⟨vKB,gKB,rfl,hr,hb,hn,_⟩;obtain ⟨E2,k2,rfl,_⟩:=hr.size;have KB:=Ab (show Row w3 _ _ _ _ _ _/\Below w2.heap.size w2 w3/\_ from ⟨hr,by first | exact undrew hb | exact hb,hn⟩);have HSKB:=Ab (show (fun (W:World)=>W.cell? ⟨w.heap.size,1,none⟩=some (.slice A1 D.edges.length c1)/\W.cell? ⟨w.heap.size,8,none⟩=some (.slice A2 D.weights.length c2)/\W.cell? ⟨w.heap.size,10,none⟩=some (.slice A3 D.next.length c3)) w3 from ⟨k01 KB.out.2.1 HSKA.out.1,k01 KB.out.2.1 HSKA.out.2.1,k01 KB.out.2.1 HSKA.out.2.2⟩);refine hK.out _ _ (fun _=>HSKB.out) ?_;clear hK K
 try refine Sm ?_
 refine WpM.one (i:=8) zz3 rfl (fun K hK=>?_);go_simp;refine (k88 _ _ _ _ _ (((RR.out.2.2.1.below L1.out).below KA.out.2.1).below KB.out.2.1) OR.out zz63).mono ?_;rintro e w4 ⟨vKC,gKC,rfl,hr,hb,hn,_⟩;obtain ⟨E3,k3,rfl,_⟩:=hr.size;have KC:=Ab (show Row w4 _ _ _ _ _ _/\Below w3.heap.size w3 w4/\_ from ⟨hr,by first | exact undrew hb | exact hb,hn⟩);have HSKC:=Ab (show (fun (W:World)=>W.cell? ⟨w.heap.size,1,none⟩=some (.slice A1 D.edges.length c1)/\W.cell? ⟨w.heap.size,8,none⟩=some (.slice A2 D.weights.length c2)/\W.cell? ⟨w.heap.size,10,none⟩=some (.slice A3 D.next.length c3)) w4 from ⟨k01 KC.out.2.1 HSKB.out.1,k01 KC.out.2.1 HSKB.out.2.1,k01 KC.out.2.1 HSKB.out.2.2⟩);have Z4:=(KC.out.2.1.block _ (by have:=KA.out.2.1.size;have:=KB.out.2.1.size;have:=k03 Z1.out;omega)).trans ((KB.out.2.1.block _ (by have:=KA.out.2.1.size;have:=k03 Z1.out;omega)).trans ((KA.out.2.1.block _ (k03 Z1.out)).trans Z1.out));have ZZ4:=Ab Z4;have f4:=fun i=>k02 Z4 i
 have d4:=fun i=>k00 Z4 i
 clear Z4;refine hK.out _ _ (fun _=>HSKC.out) ?_;clear hK K
 try refine Sm ?_
 refine WpM.one (i:=10) zz3 rfl (fun K hK=>?_);go_simp;refine hK.out _ _ (fun h=>zz45) ?_;clear hK K
 try refine Sm ?_
 refine WpM.one (i:=11) zz3 rfl (fun K hK=>?_);go_simp;refine hK.out _ _ (fun h=>zz45) ?_;clear hK K
 try refine Sm ?_
 refine WpM.one (i:=12) zz3 rfl (fun K hK=>?_);go_simp;refine hK.out _ _ (fun h=>zz45) ?_;clear hK K
 try refine Sm ?_
 refine WpM.one (i:=13) zz3 rfl (fun K hK=>?_);go_simp;refine hK.out _ _ (fun h=>zz45) ?_;clear hK K
 try refine Sm ?_
 refine WpM.one (i:=14) zz3 rfl (fun K hK=>?_);go_simp;refine hK.out _ _ (fun h=>zz45) ?_;clear hK K
 try refine Sm ?_
 refine WpM.done zz3 ?_ _;clear f4 d4;obtain ⟨w5,hw5⟩:∃ w5,w5=((w4.setCell ⟨w.heap.size,1,none⟩ (.slice E1 D.edges.length k1)).setCell ⟨w.heap.size,8,none⟩ (.slice E2 D.weights.length k2)).setCell ⟨w.heap.size,10,none⟩ (.slice E3 D.next.length k3):=⟨_,rfl⟩;have z1s:=k03 Z1.out;have zrs:=k03 ZR.out;have K5:∀ b,b≠w.heap.size->w5.heap[b]? = w4.heap[b]?:=fun b hb=>by
  rw [hw5];exact (Below.heap_setCell _ _ _ _ hb).trans ((Below.heap_setCell _ _ _ _ hb).trans (Below.heap_setCell _ _ _ _ hb))
 have hs5:w5.heap.size=w4.heap.size:=by rw [hw5];simp
 have s2:=KA.out.2.1.size;have s3:=KB.out.2.1.size;have s4:=KC.out.2.1.size;have nA:=KA.out.2.2;have nB:=KB.out.2.2;have nC:=KC.out.2.2;have B4:Below w.heap.size w w4:=((L1.out.trans (KA.out.2.1.mono zz1)).trans (KB.out.2.1.mono zz1)).trans (KC.out.2.1.mono zz1);have L5:=Ab (show Below w.heap.size w w5/\Row w5 (.slice E1 D.edges.length k1) 131 2 D.edges.length (k0d D.edges) gKA/\Row w5 (.slice E2 D.weights.length k2) 3 1 D.weights.length (i64s D.weights) gKB/\Row w5 (.slice E3 D.next.length k3) 29 1 D.next.length rows gKC/\w5.heap[w.heap.size]? = some (pbox D E1 k1 E2 k2 E3 k3)/\w5.heap[w.heap.size+1]? = some (.cells #[.int .i64 0,.slice none 0 0,.int .i64 0,.int .i64 0,.int .i64 0,.int .i64 0,.int .i64 0,.int .i64 0,.slice none 0 0,.int .u16 0,.slice none 0 0] 32) from by
  refine ⟨by rw [hw5];exact ((B4.setCell (Nat.le_refl _) _).setCell (Nat.le_refl _) _).setCell (Nat.le_refl _) _,((KA.out.1.below KB.out.2.1).below KC.out.2.1).of_blk (fun b e=>K5 b (by have:=nA b e;have:w1.drew.heap.size=w1.heap.size:=rfl;omega)),(KB.out.1.below KC.out.2.1).of_blk (fun b e=>K5 b (by have:=nB b e;omega)),KC.out.1.of_blk (fun b e=>K5 b (by have:=nC b e;omega)),?_,?_⟩
  · rw [hw5];exact k05 (k05 (k05 ZZ4.out 1 _) 8 _) 10 _
  · exact (K5 _ zz1).trans ((KC.out.2.1.block _ zz1).trans ((KB.out.2.1.block _ zz1).trans ((KA.out.2.1.block _ zrs).trans ZR.out))))
 rw [<- hw5];obtain ⟨nb,no,nc,hgc,hE,_,_,_⟩:=L5.out.2.2.2.1.open HL.out.2.2.2.1;simp only [Value.slice.injEq] at hE;obtain ⟨rfl,-,rfl⟩:=hE;subst hgc;have NN:=Ab (show w.heap.size+2<=nb/\(∀ b,gKA=some b->w.heap.size+2<=b)/\(∀ b,gKB=some b->w.heap.size+2<=b) from by
  have hd:w1.drew.heap.size=w1.heap.size:=rfl;exact ⟨by have:=nC nb rfl;omega,fun b e=>by have:=nA b e;omega,fun b e=>by have:=nB b e;omega⟩)
 clear hw5 K5 hs5 s2 s3 s4 nA nB nC B4 z1s zrs KA KB KC HSKA HSKB HSKC ZZ4 ZR Z1 L1 HS;have d5:=fun i=>k00 L5.out.2.2.2.2.1 i
 obtain ⟨n,hn⟩:∃ n,n=D.next.length:=⟨_,rfl⟩;have HN:=Ab hn;have hn0:0<n:=by have:=HL.out;omega
 have hn9:n<=100000:=by have:=HL.out;omega
 rw [<- hn] at d5;rw [<- hn];clear hn;go_wp2
 go_loopw [20] (fun s20 wr=>∃ k:Nat,k<=n/\s20 = .int .i64 k/\k08 (CRows D rows (w.heap.size+2) nb no k3 wr k/\Below w.heap.size w wr/\Row wr (.slice E1 D.edges.length k1) 131 2 D.edges.length (k0d D.edges) gKA/\Row wr (.slice E2 D.weights.length k2) 3 1 D.weights.length (i64s D.weights) gKB/\wr.heap[w.heap.size]? = some (pbox D E1 k1 E2 k2 (some ⟨nb,no,none⟩) k3)/\wr.heap[w.heap.size+1]? = some (.cells #[.int .i64 0,.slice none 0 0,.int .i64 0,.int .i64 0,.int .i64 0,.int .i64 0,.int .i64 0,.int .i64 0,.slice none 0 0,.int .u16 0,.slice none 0 0] 32))) (fun s20 _=>n-ixOf s20)
 case atStart=>
  refine ⟨0,zz1,rfl,⟨⟨rows,L5.out.2.2.2.1,fun i r hr=>?_⟩,L5.out.1,L5.out.2.1,L5.out.2.2.1,L5.out.2.2.2.2.1,L5.out.2.2.2.2.2⟩⟩;obtain ⟨u,hu,_⟩:=RR.out.2.2.2 i r hr;exact ⟨u,hu,fun _=>hu,fun h=>by omega⟩
 case round=>
  clear d5;obtain ⟨k,hk,rfl,R⟩:=hrel;by_cases hlt:k<n
  · have e1:(k:Int)<(n:Int):=by omega
    obtain ⟨r,hr⟩:∃ r,D.next[k]? = some r:=⟨_,List.getElem?_eq_getElem zz29⟩;obtain ⟨rs,rvs,hvs⟩:=id R.out.1;obtain ⟨u,hu,hko,_⟩:=hvs k r hr;obtain ⟨_,_,_,hs5,hA5,_,hfz,hcs⟩:=rvs.open zz29;simp only [Value.slice.injEq,Option.some.injEq,Addr.mk.injEq,and_true,true_and] at hA5;obtain ⟨⟨rfl,rfl⟩,rfl⟩:=hA5;have hcs:=(hcs k (by have:=rvs.1;have:=HN.out;omega)).trans hu;have hfk:=hfz (no+k);have hnl:=rvs.lt rfl;obtain ⟨u',hu',ru⟩:=RR.out.2.2.2 k r hr;have hko:=hko (Nat.le_refl _);rw [hu'] at hko;obtain rfl:=Option.some.inj hko;have ru:=ru.below R.out.2.1;obtain ⟨AU,cU,rfl,_⟩:=ru.size;have d10:=(k00 R.out.2.2.2.2.1 10);have HS5:=Ab (show (fun (W:World)=>W.cell? ⟨w.heap.size,10,none⟩=some (.slice (some ⟨nb,no,none⟩) n k3)) wr from by rw [HN.out];exact d10.trans rfl);have RU:=Ab (show _/\_/\_/\_/\_/\_ from ⟨ru,rvs,hvs,hr,hnl,hfz⟩);clear ru rvs hvs hr hs5 hfz hu hu' d10 hko;go_wp2;refine WpL.region (fun (W:World)=>W.cell? ⟨w.heap.size,10,none⟩=some (.slice (some ⟨nb,no,none⟩) n k3)) 6 zz3 ?_;refine WpL.T 0 [] HS5.out ?_;refine WpL.T 1 [] HS5.out ?_;refine WpL.T 2 [] HS5.out ?_;refine WpL.T 3 [] HS5.out ?_;refine WpL.one (i:=4) zz3 rfl (fun K hK=>?_);go_simp;refine (k2u _ _ _ _ _ RU.out.1.drew (k7D _) (by exact HL.out.2.2.2.2 _ (List.mem_of_getElem? RU.out.2.2.2.1))).mono ?_;rintro e w6 ⟨v6,g6,rfl,hr,hb',hn,_⟩;have hb:Below wr.heap.size wr w6:=undrew hb';obtain ⟨A6,c6,rfl,_⟩:=hr.size;have K6:=Ab (show _/\_/\(∀ b,g6=some b->wr.heap.size<=b) from ⟨hr,hb,hn⟩);have HS6:=Ab (show (fun (W:World)=>W.cell? ⟨w.heap.size,10,none⟩=some (.slice (some ⟨nb,no,none⟩) n k3)) w6 from k01 hb HS5.out);have c7:=(hb.cell (p:=⟨nb,no+k,none⟩) RU.out.2.2.2.2.1).trans hcs;have f7:=(hb.frozen (p:=⟨nb,no+k,none⟩) RU.out.2.2.2.2.1).trans hfk;clear hr hb hb' hn;refine hK.out _ _ (fun _=>HS6.out) ?_;clear hK K
    try refine Sm ?_
    refine WpL.T 5 [] HS6.out ?_;refine WpL.one (i:=6) zz3 rfl (fun K hK=>?_);go_simp;refine hK.out _ _ (fun h=>absurd rfl h) ?_;clear hK K
    try refine Sm ?_
    refine WpL.done zz3 ?_ _;go_wp2;have L7:=K6.out.2.1;have hz:=k03 R.out.2.2.2.2.1;have hz2:=k03 R.out.2.2.2.2.2;have hnb:=NN.out.1;have oS:=k0k w6 nb (no+k) (.slice A6 r.length c6);refine ⟨⟨k+1,zz1,rfl,⟨?_,?_,?_,?_,?_,?_⟩⟩,?_⟩
    · refine ⟨rs.set k (.slice A6 r.length c6),(RU.out.2.1.below L7).set k (by have:=RU.out.2.1.1;have:=HN.out;omega) _,fun i p hp=>?_⟩
      by_cases e:i=k
      · rw [e,RU.out.2.2.2.1] at hp
        cases hp;refine ⟨.slice A6 r.length c6,by rw [e,List.getElem?_set_self (by have:=RU.out.2.1.1;have:=HN.out;omega)],fun h=>by omega,fun _=>⟨g6,K6.out.1.only oS (fun b e' e2=>?_),fun b e'=>?_⟩⟩
        · have:=K6.out.2.2 b e';have:=RU.out.2.2.2.2.1;omega
        · have:=K6.out.2.2 b e';have:=RU.out.2.2.2.2.1;omega
      · obtain ⟨u,h1,h2,h3⟩:=RU.out.2.2.1 i p hp
        refine ⟨u,by rw [List.getElem?_set_ne (fun h=>e h.symm)];exact h1,fun h=>h2 zz1,fun h=>?_⟩;obtain ⟨g,h4,h5⟩:=h3 zz1;exact ⟨g,(h4.below L7).only oS (fun b e' e2=>(h5 b e').2 e2),h5⟩
    · exact (R.out.2.1.trans (L7.mono R.out.2.1.size)).setCell (by show w.heap.size<=nb;omega) _
    · exact (R.out.2.2.1.below L7).only oS (fun b e e2=>by subst e;obtain ⟨_,q1⟩:=(R.out.2.2.1.below L7).blk_ty;obtain ⟨_,q2⟩:=(RU.out.2.1.below L7).blk_ty;exact k0v q1 q2 zz8 e2)
    · exact (R.out.2.2.2.1.below L7).only oS (fun b e e2=>by subst e;obtain ⟨_,q1⟩:=(R.out.2.2.2.1.below L7).blk_ty;obtain ⟨_,q2⟩:=(RU.out.2.1.below L7).blk_ty;exact k0v q1 q2 zz8 e2)
    · exact (Below.heap_setCell _ _ _ _ (by show w.heap.size≠nb;omega)).trans ((L7.block _ hz).trans R.out.2.2.2.2.1)
    · exact (Below.heap_setCell _ _ _ _ (by show w.heap.size+1≠nb;omega)).trans ((L7.block _ hz2).trans R.out.2.2.2.2.2)
    · show n-ixOf (.int .i64 ((k:Int)+1))<n-ixOf (.int .i64 (k:Int))
      simp only [ixOf];exact zz1
  · have e1:¬ (k:Int)<(n:Int):=by omega
    obtain rfl:k=n:=by omega
    have d6:=fun i=>k00 R.out.2.2.2.2.1 i
    have r6:=fun i=>k00 R.out.2.2.2.2.2 i
    have rf6:=fun i=>k02 R.out.2.2.2.2.2 i
    have zz:=k03 R.out.2.2.2.2.2;go_wp2;have ZF:=k05 (k05 (k05 (k05 (k05 (k05 (k05 (k05 (k05 (k05 (k05 (R.out.2.2.2.2.2) 0 (.int .i64 D.nodes)) 1 (.slice E1 D.edges.length k1)) 2 (.int .i64 D.lanes)) 3 (.int .i64 D.room)) 4 (.int .i64 D.queue)) 5 (.int .i64 D.rounds)) 6 (.int .i64 D.every)) 7 (.int .i64 D.bag)) 8 (.slice E2 D.weights.length k2)) 9 (.int .u16 D.start)) 10 (.slice (some ⟨nb,no,none⟩) D.next.length k3);have oF:=(Only.set (P:=fun b=>b=w.heap.size+1) (Only.set (P:=fun b=>b=w.heap.size+1) (Only.set (P:=fun b=>b=w.heap.size+1) (Only.set (P:=fun b=>b=w.heap.size+1) (Only.set (P:=fun b=>b=w.heap.size+1) (Only.set (P:=fun b=>b=w.heap.size+1) (Only.set (P:=fun b=>b=w.heap.size+1) (Only.set (P:=fun b=>b=w.heap.size+1) (Only.set (P:=fun b=>b=w.heap.size+1) (Only.set (P:=fun b=>b=w.heap.size+1) (Only.set (P:=fun b=>b=w.heap.size+1) (Only.refl _ wr) (p:=⟨w.heap.size+1,0,none⟩) (fun _=>rfl) (.int .i64 D.nodes)) (p:=⟨w.heap.size+1,1,none⟩) (fun _=>rfl) (.slice E1 D.edges.length k1)) (p:=⟨w.heap.size+1,2,none⟩) (fun _=>rfl) (.int .i64 D.lanes)) (p:=⟨w.heap.size+1,3,none⟩) (fun _=>rfl) (.int .i64 D.room)) (p:=⟨w.heap.size+1,4,none⟩) (fun _=>rfl) (.int .i64 D.queue)) (p:=⟨w.heap.size+1,5,none⟩) (fun _=>rfl) (.int .i64 D.rounds)) (p:=⟨w.heap.size+1,6,none⟩) (fun _=>rfl) (.int .i64 D.every)) (p:=⟨w.heap.size+1,7,none⟩) (fun _=>rfl) (.int .i64 D.bag)) (p:=⟨w.heap.size+1,8,none⟩) (fun _=>rfl) (.slice E2 D.weights.length k2)) (p:=⟨w.heap.size+1,9,none⟩) (fun _=>rfl) (.int .u16 D.start)) (p:=⟨w.heap.size+1,10,none⟩) (fun _=>rfl) (.slice (some ⟨nb,no,none⟩) D.next.length k3));obtain ⟨wf,hwf⟩:∃ wf,wf=(((((((((((wr.setCell ⟨w.heap.size+1,0,none⟩ (.int .i64 D.nodes)).setCell ⟨w.heap.size+1,1,none⟩ (.slice E1 D.edges.length k1)).setCell ⟨w.heap.size+1,2,none⟩ (.int .i64 D.lanes)).setCell ⟨w.heap.size+1,3,none⟩ (.int .i64 D.room)).setCell ⟨w.heap.size+1,4,none⟩ (.int .i64 D.queue)).setCell ⟨w.heap.size+1,5,none⟩ (.int .i64 D.rounds)).setCell ⟨w.heap.size+1,6,none⟩ (.int .i64 D.every)).setCell ⟨w.heap.size+1,7,none⟩ (.int .i64 D.bag)).setCell ⟨w.heap.size+1,8,none⟩ (.slice E2 D.weights.length k2)).setCell ⟨w.heap.size+1,9,none⟩ (.int .u16 D.start)).setCell ⟨w.heap.size+1,10,none⟩ (.slice (some ⟨nb,no,none⟩) D.next.length k3)):=⟨_,rfl⟩;rw [<- hwf] at ZF oF ⊢;simp only [List.setIfInBounds_toArray,List.set_cons_zero,List.set_cons_succ] at ZF;refine bodyPost_ret (results_cell_row rfl _ _ (w.heap.size+1) 32 _ (0,0) _ rfl ZF Tryz.underlying32 rfl zz3) rfl ?_;obtain ⟨rs,rvs,hvs⟩:=R.out.1;have hnb:=NN.out.1;have hz:=k03 R.out.2.2.2.2.2;have BF:Below w.heap.size w wf:=by
     rw [hwf];exact (((((((((((R.out.2.1).setCell zz13 _).setCell zz13 _).setCell zz13 _).setCell zz13 _).setCell zz13 _).setCell zz13 _).setCell zz13 _).setCell zz13 _).setCell zz13 _).setCell zz13 _).setCell zz13 _
    obtain ⟨gs',hgs⟩:=k8A (D:=D) (W:=wf) (rs:=rs) (lo:=w.heap.size+2) (fun i r hr=>by
     obtain ⟨u,h1,_,h3⟩:=hvs i r hr;obtain ⟨g,h4,h5⟩:=h3 (by have:=HN.out;have:=(List.getElem?_eq_some_iff.1 hr).1;omega);exact ⟨u,h1,g,h4.only oF (fun b e e2=>by have:=(h5 b e).1;omega),fun b e=>(h5 b e).1⟩)
    have hE:=R.out.2.2.1.only oF (fun b e e2=>by have:=NN.out.2.1 b e;omega);have hW:=R.out.2.2.2.1.only oF (fun b e e2=>by have:=NN.out.2.2 b e;omega);have hR:=rvs.only oF (fun b e e2=>by cases e;omega);clear ZF oF hwf rvs hvs R RR L5;refine ⟨pagg D E1 k1 E2 k2 (some ⟨nb,no,none⟩) k3,rfl,⟨_,_,_,rs,gKA,gKB,some nb,gs',rfl,hE,hW,hR,fun i r hr=>?_,fun b e=>?_,fun b e=>?_,fun b e=>?_⟩,BF⟩
    · obtain ⟨u,h1,h2,h3⟩:=hgs i r hr
      exact ⟨u,h1,h2,fun b e=>by have:=h3 b e;omega⟩
    · have:=NN.out.2.1 b e;omega
    · have:=NN.out.2.2 b e;omega
    · cases e;omega
structure FSt where
 node:Nat->NSt
 link:Nat × Nat->List (List Int)
 ticks:Nat
structure FTab where
 g:Nat
 mb:Nat
 vb:Nat
 vo:Nat
 vc:Nat
 hb:Nat
 ho:Nat
 hc:Nat
 A1:Option Addr
 c1:Nat
 A2:Option Addr
 c2:Nat
 A3:Option Addr
 c3:Nat
 node:Nat->NTab
 link:Nat × Nat->Nat
def lc (a:Nat × Nat):Nat:=a.1*100+a.2
def hopV (a:Nat × Nat):Value:=.agg #[.int .i64 a.1,.int .i64 a.2]
theorem kan {a b:Nat × Nat} (h:hopV a=hopV b):a=b:=by
 obtain ⟨a1,a2⟩:=a;obtain ⟨b1,b2⟩:=b;simp only [hopV,Value.agg.injEq,Array.mk.injEq,List.cons.injEq,Value.int.injEq,true_and,and_true] at h;obtain ⟨h1,h2⟩:=h;have h1:a1=b1:=by omega
 have h2:a2=b2:=by omega
 rw [h1,h2]
theorem kcp (w:World):(zeroValue 60).run Tryz.prog w = .ok (.pointer none) w:=by kernel_rfl
def mapL:k8S (Nat × Nat) where
 κ:=hopV
 good a:=a.1<4611686018427387904/\a.2<4611686018427387904
 t:=84
 k:=90
 e:=60
 z:=.pointer none
 law:=law90
 ht:=Tryz.underlying84
 hz:=kcp
 inj:=kan
 key a h:=key2 a.1 a.2 h.1 h.2
def kbB (D:PlanD) (F:FTab) (a:Nat × Nat):Option Value:=if a∈D.hops then some (.pointer (some ⟨F.link a,0,none⟩)) else none
def kcw (F:FTab) (v:Nat):Value:=.pointer (some ⟨(F.node v).g,0,none⟩)
abbrev fbox (D:PlanD) (F:FTab) (t:Nat):Obj:=.cells #[.int .i64 D.nodes,.slice F.A1 D.edges.length F.c1,.int .i64 D.lanes,.int .i64 D.room,.int .i64 D.queue,.int .i64 D.rounds,.int .i64 D.every,.int .i64 D.bag,.slice F.A2 D.weights.length F.c2,.int .u16 D.start,.slice F.A3 D.next.length F.c3,.slice (some ⟨F.hb,F.ho,none⟩) D.hops.length F.hc,.slice (some ⟨F.vb,F.vo,none⟩) D.nodes F.vc,.map (some F.mb),.int .i64 t] 87 (0,0)
structure FabAt (w:World) (o:Nat->Col) (D:PlanD) (F:FTab) (st:FSt):Prop where
 og:o F.g = .fab
 blk:w.heap[F.g]? = some (fbox D F st.ticks)
 plan:PlanV w (fun b=>o b = .fix) (pagg D F.A1 F.c1 F.A2 F.c2 F.A3 F.c3) D
 hops:Row w (.slice (some ⟨F.hb,F.ho,none⟩) D.hops.length F.hc) 90 2 D.hops.length (k0d D.hops) (some F.hb)
 oh:o F.hb = .fix
 nodes:Row w (.slice (some ⟨F.vb,F.vo,none⟩) D.nodes F.vc) 58 1 D.nodes ((List.range D.nodes).map (kcw F)) (some F.vb)
 on:o F.vb = .fix
 map:MapAt mapL w F.mb (kbB D F)
 om:o F.mb = .fix
 node:∀ v,v<D.nodes->NodeAt w o v D (F.node v) (st.node v)
 link:∀ a,a∈D.hops->LnkAt w o (.lnk (lc a)) (F.link a) (st.link a) D.bag
theorem k0s {D:PlanD} {a:Nat × Nat}:a∈D.hops ↔ a.1<D.nodes/\a.2∈D.bs a.1:=by
 obtain ⟨x,y⟩:=a;unfold PlanD.hops k4x;simp only [List.mem_flatMap,List.mem_range,List.mem_map,Prod.mk.injEq];constructor
 · rintro ⟨v,hv,z,hz,rfl,rfl⟩;exact ⟨hv,hz⟩
 · rintro ⟨h1,h2⟩;exact ⟨x,h1,y,h2,rfl,rfl⟩
theorem k0M {D:PlanD} {a:Nat × Nat} (h:a∈D.hops):a.1<D.nodes/\a.2<D.nodes:=⟨(k0s.1 h).1,k71 (k0s.1 h).2⟩
theorem kc5 {D:PlanD} (G:Good D) {a b:Nat × Nat} (ha:a∈D.hops) (hb:b∈D.hops) (h:lc a=lc b):a=b:=by
 obtain ⟨a1,a2⟩:=a;obtain ⟨b1,b2⟩:=b;have:=k0M ha;have:=k0M hb;have:=G.n1;unfold lc at h;simp only at *;have e1:a1=b1:=by omega
 have e2:a2=b2:=by omega
 rw [e1,e2]
section
variable {S:Col->Prop} {w w':World} {o o':Nat->Col} {D:PlanD} {F:FTab} {st st':FSt}
theorem FabAt.turn (h:FabAt w o D F st) (t:Tr S o w o' w') (hfix:¬ S .fix) (hn:(¬ S .fab/\st'.ticks=st.ticks)\/w'.heap[F.g]? = some (fbox D F st'.ticks))
 (hv:∀ v,v<D.nodes->((∀ c,k0u v c->¬ S c)/\st'.node v=st.node v)\/NodeAt w' o' v D (F.node v) (st'.node v))
 (hl:∀ a,a∈D.hops->(¬ S (.lnk (lc a))/\st'.link a=st.link a)\/LnkAt w' o' (.lnk (lc a)) (F.link a) (st'.link a) D.bag):FabAt w' o' D F st' where
 og:=(t.own _ (k03 h.blk)).trans h.og
 blk:=by
  rcases hn with ⟨h1,h2⟩ | h1
  · rw [h2];exact t.blk h.blk (by rw [h.og];exact h1)
  · exact h1
 plan:=h.plan.tr t hfix
 hops:=h.hops.only t.only (fun b e=>by cases e;rw [h.oh];exact hfix)
 oh:=(t.own _ (h.hops.lt rfl)).trans h.oh
 nodes:=h.nodes.only t.only (fun b e=>by cases e;rw [h.on];exact hfix)
 on:=(t.own _ (h.nodes.lt rfl)).trans h.on
 map:=h.map.of_blk (t.only.same h.map.lt (by rw [h.om];exact hfix))
 om:=(t.own _ h.map.lt).trans h.om
 node:=fun v hv'=>by
  rcases hv v hv' with ⟨h1,h2⟩ | h1
  · rw [h2];exact (h.node v hv').tr t hfix h1
  · exact h1
 link:=fun a ha=>by
  rcases hl a ha with ⟨h1,h2⟩ | h1
  · rw [h2];exact (h.link a ha).tr t h1
  · exact h1
theorem FabAt.tr (h:FabAt w o D F st) (t:Tr S o w o' w') (hfix:¬ S .fix) (hfab:¬ S .fab) (hv:∀ v c,k0u v c->¬ S c) (hl:∀ n,¬ S (.lnk n)):FabAt w' o' D F st:=
 h.turn t hfix (.inl ⟨hfab,rfl⟩) (fun v _=>.inl ⟨hv v,rfl⟩) (fun a _=>.inl ⟨hl _,rfl⟩)
theorem FabAt.blw (h:FabAt w o D F st) (hf:Fresh o w) (b:Below w.heap.size w w'):FabAt w' o D F st:=
 h.tr (Tr.below (S:=fun _=>False) hf b) (fun x=>x) (fun x=>x) (fun _ _ _ x=>x) (fun _ x=>x)
theorem k8f {v u:Nat} {c:Col} (h:k0u v c) (k:k0u u c):v=u:=by
 unfold k0u at h k;rw [h] at k;exact Option.some.inj k
theorem FabAt.nodeTo (h:FabAt w o D F st) {v:Nat} {s:NSt} (t:Tr (k0u v) o w o' w') (k:NodeAt w' o' v D (F.node v) s):FabAt w' o' D F { st with node:=upd st.node v s }:=
 h.turn t (by simp [k0u,Col.nodeOf]) (.inl ⟨by simp [k0u,Col.nodeOf],rfl⟩) (fun u hu=>by
  by_cases e:u=v
  · subst e;right;show NodeAt w' o' u D (F.node u) (upd st.node u s u);rw [k04];exact k
  · left;exact ⟨fun c hc hv=>e (k8f hc hv),k06 _ _ e⟩) (fun a _=>.inl ⟨by simp [k0u,Col.nodeOf],rfl⟩)
def updl (f:Nat × Nat->List (List Int)) (a:Nat × Nat) (r:List (List Int)) (b:Nat × Nat):List (List Int):=if b=a then r else f b
theorem FabAt.linkTo (G:Good D) (h:FabAt w o D F st) {a:Nat × Nat} (ha:a∈D.hops) {r:List (List Int)} (t:Tr (fun c=>c = .lnk (lc a)) o w o' w') (k:LnkAt w' o' (.lnk (lc a)) (F.link a) r D.bag):FabAt w' o' D F { st with link:=updl st.link a r }:=
 h.turn t zz17 (.inl ⟨zz17,rfl⟩) (fun v _=>.inl ⟨fun c hc e=>(by rw [e] at hc;cases hc),rfl⟩) (fun b hb=>by
  by_cases e:b=a
  · subst e;right;show LnkAt w' o' _ _ (updl st.link b r b) _;unfold updl;rw [if_pos rfl];exact k
  · left;exact ⟨fun e2=>e (kc5 G hb ha (Col.lnk.inj e2)),if_neg e⟩)
theorem FabAt.cells (h:FabAt w o D F st) (v:Nat) (hv:v<D.nodes):w.cell? ⟨F.vb,F.vo+v,none⟩=some (.pointer (some ⟨(F.node v).g,0,none⟩)):=by
 obtain ⟨b,off,cap,hg,hA,_,_,hc⟩:=h.nodes.open zz1;simp only [Value.slice.injEq,Option.some.injEq,Addr.mk.injEq,and_true,true_and] at hA;obtain ⟨⟨rfl,rfl⟩,rfl⟩:=hA;rw [hc v zz25];simp [hv,kcw]
theorem FabAt.hop (h:FabAt w o D F st) (i:Nat) (a:Nat × Nat) (ha:D.hops[i]? = some a):w.cell? ⟨F.hb,F.ho+i*2,none⟩=some (.int .i64 a.1)/\w.cell? ⟨F.hb,F.ho+i*2+1,none⟩=some (.int .i64 a.2):=by
 have hi:=(List.getElem?_eq_some_iff.1 ha).1;exact zz46
end
theorem k60 {w W:World} {D:PlanD} {F:FTab} (h:MapAt mapL w F.mb (kbB D F)) (G:Good D) {a:Nat × Nat} (ha:a∈D.hops) (hW:W.heap[F.mb]? = w.heap[F.mb]?):(Instr.lookup 84 (.map (some F.mb)) (.agg #[.int .i64 a.1,.int .i64 a.2]) false).run Tryz.prog W = .ok (.pointer (some ⟨F.link a,0,none⟩)) W:=by
 have hl:=k0M ha;have:=G.n1;have h2:=(h.of_blk hW).look a ⟨zz1,zz1⟩;unfold kbB at h2;rw [if_pos ha] at h2;exact h2
section
variable {w:World} {o:Nat->Col} {D:PlanD} {F:FTab} {st:FSt}
theorem kaI (H:FabAt w o D F st) (G:Good D) (v:Nat) (hv:v<D.nodes) :
 Calls Tryz.prog 43 #[.slice (some ⟨F.vb,F.vo,none⟩) D.nodes F.vc,.int .i64 v] w fun e w'=>e = .returned (.pointer (some ⟨(F.node v).g,0,none⟩))/\w=w':=by
 have e1:=decide_eq_false (show ¬ (v:Int)<0 by omega);have e2:=decide_eq_false (show ¬ (D.nodes:Nat)<=v by omega);have e2':=decide_eq_false (show ¬ ((D.nodes:Nat):Int)<=(v:Int) by omega);have c0:=H.cells v hv;have hn:=G.n1;clear H G;go_enter Tryz.func43,Tryz.ntmps43;exact zz12
theorem k1Z (H:FabAt w o D F st) (G:Good D) (v:Nat) (hv:v<D.nodes) :
 Calls Tryz.prog 16 #[.pointer (some ⟨F.g,0,none⟩),.int .i64 v] w fun e w'=>e = .returned (.pointer (some ⟨(F.node v).g,0,none⟩))/\w=w':=by
 have c:=kaI H G v hv;have c1:=k00 H.blk 12;have hn:=G.n1;clear H G;go_enter Tryz.func16,Tryz.ntmps16
 go_wp2_with (go_at_call 43;refine c.mono ?_;rintro e w1 ⟨rfl,rfl⟩)
 go_ret;exact ⟨rfl,rfl⟩
theorem k3j (H:FabAt w o D F st) (G:Good D) (i:Nat) (a:Nat × Nat) (ha:D.hops[i]? = some a) :
 Calls Tryz.prog 17 #[.pointer (some ⟨F.g,0,none⟩),.int .i64 i] w fun e w'=>e = .returned (.pointer (some ⟨F.link a,0,none⟩))/\Below w.heap.size w w':=by
 obtain ⟨x,y⟩:=a;have hi:=(List.getElem?_eq_some_iff.1 ha).1;obtain ⟨n,hn⟩:∃ n,n=D.hops.length:=⟨_,rfl⟩;have hin:i<n:=by omega
 have hn6:n<=30:=by have:=k0N D G D.nodes (Nat.le_refl _);have:=G.n1;unfold PlanD.hops at hn;omega
 have e1:=decide_eq_false (show ¬ (i:Int)<0 by omega);have e2:=decide_eq_false (show ¬ (n:Nat)<=i by omega);have e2':=decide_eq_false (show ¬ (n:Int)<=(i:Int) by omega);obtain ⟨h0,h1⟩:=H.hop i _ ha;obtain ⟨M0,hM0⟩:∃ M0,M0=w.heap[F.mb]?:=⟨_,rfl⟩;have LK:=Ab (fun (W:World) (hW:W.heap[F.mb]? = M0)=>k60 (W:=W) H.map G (List.mem_of_getElem? ha) (hW.trans hM0));have b0:=fun j=>k00 H.blk j
 have HS:=Ab (show (fun (W:World)=>W.cell? ⟨F.g,13,none⟩=some (.map (some F.mb))/\W.cell? ⟨F.g,11,none⟩=some (.slice (some ⟨F.hb,F.ho,none⟩) n F.hc)/\W.cell? ⟨F.hb,F.ho+i*2,none⟩=some (.int .i64 x)/\W.cell? ⟨F.hb,F.ho+i*2+1,none⟩=some (.int .i64 y)/\W.heap[F.mb]? = M0) w from ⟨(b0 13).trans rfl,by rw [hn];exact (b0 11).trans rfl,h0,h1,hM0.symm⟩);rw [<- hn] at b0;clear H G h0 h1 hn ha hi hM0;go_enter Tryz.func17,Tryz.ntmps17;go_wp2;refine WpL.region (fun (W:World)=>W.cell? ⟨F.g,13,none⟩=some (.map (some F.mb))/\W.cell? ⟨F.g,11,none⟩=some (.slice (some ⟨F.hb,F.ho,none⟩) n F.hc)/\W.cell? ⟨F.hb,F.ho+i*2,none⟩=some (.int .i64 x)/\W.cell? ⟨F.hb,F.ho+i*2+1,none⟩=some (.int .i64 y)/\W.heap[F.mb]? = M0) 99 zz3 ?_;refine WpL.E 0 HS.out ?_;refine WpL.E 1 HS.out ?_;refine WpL.E 2 HS.out ?_;refine WpL.E 3 HS.out ?_;refine WpL.E 4 HS.out ?_;refine WpL.E 5 HS.out ?_;refine WpL.E 6 HS.out ?_;refine WpL.E 7 HS.out ?_;refine WpL.E 8 HS.out ?_;refine WpL.E 9 HS.out ?_;refine WpL.E 10 HS.out ?_;refine WpL.takeE (i:=11) (v:=?vq1_11) (rfl) zz3 zz3 zz3 zz3 zz3 (fun _ _ _ h=>h) ?yq1_11 (HS.out) ?rq1_11
 case yq1_11=>refine Or.inl ⟨?_,?_⟩;rfl;intro w hSw;go_simp;simp only [LK.out _ hSw.2.2.2.2];rfl
 refine Sm ?_;refine WpL.E 12 HS.out ?_;refine WpL.done zz3 ?_ _;go_wp2;go_ret;exact ⟨rfl,(Below.refl _ w).drew⟩
theorem k5O (H:FabAt w o D F st) (G:Good D) :
 Calls Tryz.prog 25 #[.pointer (some ⟨F.g,0,none⟩)] w (k91 D.hops w):=by
 have c1:=k00 H.blk 11;have hn6:D.hops.length<=30:=by have:=k0N D G D.nodes (Nat.le_refl _);have:=G.n1;unfold PlanD.hops;omega
 have HH:=Ab H.hops;clear H G;go_enter Tryz.func25,Tryz.ntmps25
 go_wp2_with (go_at_call 51;refine (k8m _ _ _ _ _ HH.out (k6C _) zz1).mono ?_;rintro e w1 ⟨v1,g1,rfl,hr,hb,hn,_⟩;have K:=Ab (show _/\_/\_ from ⟨hr,hb,hn⟩);clear hr hb hn)
 go_ret;exact ⟨v1,g1,rfl,K.out.1,K.out.2.1,K.out.2.2⟩
end
section
variable {w:World} {o:Nat->Col} {D:PlanD} {F:FTab} {st:FSt}
def FOk (D:PlanD) (M:Int) (C:Nat) (st:FSt):Prop:=∀ v,v<D.nodes->NodeOk D v M C (st.node v)
def FInjd (v d k:Nat) (y:Int) (w:World) (o:Nat->Col) (D:PlanD) (F:FTab) (st:FSt) (e:Ending) (w':World):Prop:=∃ (c:Int) (o':Nat->Col) (s':NSt),e = .returned (.int .u16 c)/\k7k D v d k y (st.node v) c s'/\FabAt w' o' D F { st with node:=upd st.node v s' } /\ Tr (k0u v) o w o' w'
theorem k3o (v d k:Nat) (y:Int) (M:Int) (C:Nat) (H:FabAt w o D F st) (G:Good D) (hf:Fresh o w) (K:FOk D M C st) (hv:v<D.nodes) (hd:d<D.nodes) (hk:k<D.lanes) :
 Calls Tryz.prog 7 #[.pointer (some ⟨F.g,0,none⟩),.agg #[.int .i64 (v:Nat),.int .i64 (d:Nat),.int .i64 (k:Nat),.int .u32 y]] w (FInjd v d k y w o D F st):=by
 have B1:Below w.heap.size w (w.alloc (.cells #[.int .i64 (v:Nat),.int .i64 (d:Nat),.int .i64 (k:Nat),.int .u32 y] 40)):=(Below.refl _ _).alloc (Nat.le_refl _) _;have H1:=H.blw hf B1;have F1:=hf.blw B1;have cn:=k1Z H1 G v hv;have ci:=k6R d k y M C (H1.node v hv) G hv F1 (K v hv) hd hk;have T1:Tr (k0u v) o w o (w.alloc (.cells #[.int .i64 (v:Nat),.int .i64 (d:Nat),.int .i64 (k:Nat),.int .u32 y] 40)):=Tr.below hf B1;have HA:=Ab (show _/\_ from ⟨H1,T1⟩);clear H G K B1 H1 F1 T1;go_enter Tryz.func7,Tryz.ntmps7
 go_wp2_with (first
  | (go_at_call 16;refine cn.mono ?_;rintro e w1 ⟨rfl,rfl⟩)
  | (go_at_call 22;refine ci.mono ?_;rintro e w2 ⟨c,o',s',rfl,hr,hn,ht⟩;have KK:=Ab (show _/\_/\_ from ⟨hr,hn,ht⟩);clear hr hn ht))
 go_ret;exact ⟨c,o',s',rfl,KK.out.1,HA.out.1.nodeTo KK.out.2.2 KK.out.2.1,HA.out.2.trans KK.out.2.2⟩
theorem k7g (v:Nat) (H:FabAt w o D F st) (G:Good D) (hv:v<D.nodes) (hl:((st.node v).waits 3).length<=10000) :
 Calls Tryz.prog 8 #[.pointer (some ⟨F.g,0,none⟩),.int .i64 v] w fun e w'=>∃ v' g',e = .returned v'/\Row w' v' 40 4 ((st.node v).waits 3).length (k0W ((st.node v).waits 3)) g'/\Below w.heap.size w w'/\(∀ b,g'=some b->w.heap.size<=b):=by
 have cn:=k1Z H G v hv;have ch:=k4l (H.node v hv);have cg:=kaB (H.node v hv).host hl;clear H G;go_enter Tryz.func8,Tryz.ntmps8
 go_wp2_with (first
  | (go_at_call 16;refine cn.mono ?_;rintro e w1 ⟨rfl,rfl⟩)
  | (go_at_call 18;refine ch.mono ?_;rintro e w1 ⟨rfl,rfl⟩)
  | (go_at_call 23;refine cg.mono ?_;rintro e w2 ⟨v',g',rfl,hr,hb,hn⟩;have KK:=Ab (show _/\_/\_ from ⟨hr,hb,hn⟩);clear hr hb hn))
 go_ret;exact ⟨v',g',rfl,KK.out.1,KK.out.2.1,KK.out.2.2⟩
end
def LOk (D:PlanD) (st:FSt):Prop:=∀ a,a∈D.hops->∀ r∈st.link a,Wire.Oct r
def k1B (D:PlanD) (a:Nat × Nat) (m:Nat) (st st':FSt):Prop:=
 ∃ row s',(st.link a)[m]? = some row/\TakeRel D a.2 (k07 D a.2 a.1) (st.node a.2) row s'/\st'=⟨upd st.node a.2 s',updl st.link a ((st.link a).eraseIdx m),st.ticks⟩
section
variable {w:World} {o:Nat->Col} {D:PlanD} {F:FTab} {st:FSt}
def kaQ (a:Nat × Nat) (c:Col):Prop:=c = .lnk (lc a)\/k0u a.2 c
def kbV (a:Nat × Nat) (m:Nat) (w:World) (o:Nat->Col) (D:PlanD) (F:FTab) (st:FSt) (e:Ending) (w':World):Prop:=∃ (c:Int) (o':Nat->Col) (st':FSt),e = .returned (.int .u16 c)/\k1B D a m st st'/\FabAt w' o' D F st'/\Tr (kaQ a) o w o' w'
theorem k4n (i m:Nat) (a:Nat × Nat) (M:Int) (C:Nat) (H:FabAt w o D F st) (G:Good D) (hf:Fresh o w) (K:FOk D M C st) (KL:LOk D st) (ha:D.hops[i]? = some a) (hm:m<(st.link a).length) :
 Calls Tryz.prog 27 #[.pointer (some ⟨F.g,0,none⟩),.int .i64 i,.int .i64 m] w (kbV a m w o D F st):=by
 have hmem:=List.mem_of_getElem? ha;have cl:=k3j H G i a ha;have HA:=Ab (show _/\_/\_/\_/\_ from ⟨H,G,hf,K,KL⟩);have HM:=Ab (show _/\_/\_ from ⟨hmem,ha,hm⟩);obtain ⟨x,y⟩:=a;obtain ⟨n,hn⟩:∃ n,n=D.hops.length:=⟨_,rfl⟩;have hin:i<n:=by have:=(List.getElem?_eq_some_iff.1 ha).1;omega
 have hn6:n<=30:=by have:=k0N D G D.nodes (Nat.le_refl _);have:=G.n1;unfold PlanD.hops at hn;omega
 have hy:y<D.nodes:=(k0M hmem).2;have hD6:=G.n1;have HN:=Ab hn;clear H G hf K KL hmem ha hm hn;go_enter Tryz.func27,Tryz.ntmps27
 go_wp2_with (first
  | (go_at_call 30;refine (k99 m (HA.out.2.2.1.blw LB.out) ((HA.out.1.blw HA.out.2.2.1 LB.out).link _ HM.out.1) HM.out.2.2).mono ?_;rintro e w2 ⟨vr,row,gb,rfl,hrow,hr,hl0,hl12,ht,hlnk⟩;obtain ⟨rb,ro,rc,rfl,rfl,_,_,_⟩:=hr.open hl0;have KT:=Ab (show _/\_/\_/\_/\_ from ⟨hrow,hr,hl12,ht,hlnk⟩);clear hrow hr hl0 hl12 ht hlnk)
  | (go_at_call 17;refine cl.mono ?_;rintro e w1 ⟨rfl,hb⟩;have LB:=Ab hb;clear hb))
 have F1:=Ab (HA.out.2.2.1.blw LB.out);have H2:=Ab ((HA.out.1.blw HA.out.2.2.1 LB.out).linkTo HA.out.2.1 HM.out.1 KT.out.2.2.2.1 KT.out.2.2.2.2);have HS:=Ab (show (fun (W:World)=>W.cell? ⟨F.g,12,none⟩=some (.slice (some ⟨F.vb,F.vo,none⟩) D.nodes F.vc)/\W.cell? ⟨F.g,11,none⟩=some (.slice (some ⟨F.hb,F.ho,none⟩) n F.hc)/\W.cell? ⟨F.hb,F.ho+i*2,none⟩=some (.int .i64 x)/\W.cell? ⟨F.hb,F.ho+i*2+1,none⟩=some (.int .i64 y)/\W.cell? ⟨F.vb,F.vo+y,none⟩=some (.pointer (some ⟨(F.node y).g,0,none⟩))) w2 from ⟨(k00 H2.out.blk 12).trans rfl,by rw [HN.out];exact (k00 H2.out.blk 11).trans rfl,(H2.out.hop i _ HM.out.2.1).1,(H2.out.hop i _ HM.out.2.1).2,H2.out.cells y hy⟩);refine WpL.region (fun (W:World)=>W.cell? ⟨F.g,12,none⟩=some (.slice (some ⟨F.vb,F.vo,none⟩) D.nodes F.vc)/\W.cell? ⟨F.g,11,none⟩=some (.slice (some ⟨F.hb,F.ho,none⟩) n F.hc)/\W.cell? ⟨F.hb,F.ho+i*2,none⟩=some (.int .i64 x)/\W.cell? ⟨F.hb,F.ho+i*2+1,none⟩=some (.int .i64 y)/\W.cell? ⟨F.vb,F.vo+y,none⟩=some (.pointer (some ⟨(F.node y).g,0,none⟩))) 99 zz3 ?_;refine WpL.E 0 HS.out ?_;refine WpL.E 1 HS.out ?_;refine WpL.E 2 HS.out ?_;refine WpL.E 3 HS.out ?_;refine WpL.E 4 HS.out ?_;refine WpL.E 5 HS.out ?_;refine WpL.E 6 HS.out ?_;refine WpL.E 7 HS.out ?_;refine WpL.E 8 HS.out ?_;refine WpL.E 9 HS.out ?_;refine WpL.E 10 HS.out ?_;refine WpL.E 11 HS.out ?_;refine WpL.E 12 HS.out ?_;refine WpL.E 13 HS.out ?_;refine WpL.E 14 HS.out ?_;refine WpL.E 15 HS.out ?_;refine WpL.E 16 HS.out ?_;refine WpL.E 17 HS.out ?_;refine WpL.E 18 HS.out ?_;refine WpL.E 19 HS.out ?_;refine WpL.E 20 HS.out ?_;refine WpL.E 21 HS.out ?_;refine WpL.E 22 HS.out ?_;refine WpL.one (i:=23) zz3 rfl (fun K hK=>?_);go_simp;refine (k3l x M C ⟨rb,ro,none⟩ _ _ row (some rb) ((H2.out.node y hy).blw KT.out.2.2.2.1.fresh ((Below.refl _ _).drew)) HA.out.2.1 hy (KT.out.2.2.2.1.fresh.blw ((Below.refl _ _).drew)) (HA.out.2.2.2.1 y hy) (k2U (k0s.1 HM.out.1).2 (k0s.1 HM.out.1).1) KT.out.2.1.drew rfl KT.out.2.2.1 (HA.out.2.2.2.2 _ HM.out.1 row (List.mem_of_getElem? KT.out.1))).mono ?_;rintro e w3 ⟨c,o3,s3,rfl,hrel,hnode,htr⟩;have K3:=Ab (show _/\_/\Tr (k0u y) o w2 o3 w3 from ⟨hrel,hnode,k2V htr⟩);clear hrel hnode htr;have H3:=Ab (H2.out.nodeTo K3.out.2.2 K3.out.2.1);have HS3:=Ab (show (fun (W:World)=>W.cell? ⟨F.g,12,none⟩=some (.slice (some ⟨F.vb,F.vo,none⟩) D.nodes F.vc)/\W.cell? ⟨F.g,11,none⟩=some (.slice (some ⟨F.hb,F.ho,none⟩) n F.hc)/\W.cell? ⟨F.hb,F.ho+i*2,none⟩=some (.int .i64 x)/\W.cell? ⟨F.hb,F.ho+i*2+1,none⟩=some (.int .i64 y)/\W.cell? ⟨F.vb,F.vo+y,none⟩=some (.pointer (some ⟨(F.node y).g,0,none⟩))) w3 from ⟨(k00 H3.out.blk 12).trans rfl,by rw [HN.out];exact (k00 H3.out.blk 11).trans rfl,(H3.out.hop i _ HM.out.2.1).1,(H3.out.hop i _ HM.out.2.1).2,H3.out.cells y hy⟩);simp only [];refine hK.out _ _ (fun _=>HS3.out) ?_;clear hK K
 try refine Sm ?_
 refine WpL.E 24 HS3.out ?_;refine WpL.done zz3 ?_ _;go_wp2;go_ret;exact ⟨c,o3,_,rfl,⟨row,s3,KT.out.1,K3.out.1,rfl⟩,H2.out.nodeTo K3.out.2.2 K3.out.2.1,((Tr.below HA.out.2.2.1 LB.out).trans (KT.out.2.2.2.1.mono (fun c h=>.inl h))).trans (K3.out.2.2.mono (fun c h=>.inr h))⟩
end
section
open Go.Proofs.YtdopmlopafgonaaGreatDoor.Wire
theorem kbn (k l s a b y:Int) (h:Fr.wf ⟨k,l,s,a,b,y⟩):Oct (pre k l s a b y):=by
 obtain ⟨⟨k0,k1⟩,⟨l0,l1⟩,⟨s0,s1⟩,⟨a0,a1⟩,⟨b0,b1⟩,y0,y1⟩:=h;dsimp only at *;unfold pre;refine Oct.append (Oct.append (Oct.two k0 k1 l0 l1) (Oct.two zz1 zz1 zz1 zz1)) ?_;split
 · exact Oct.append (Oct.two a0 a1 b0 b1) (Oct.cons zz1 zz1 (Oct.cons zz1 zz1 (Oct.two zz1 zz1 zz1 zz1)))
 · exact Oct.nil
theorem k9C {F:Fr} (h:F.wf):Oct F.bytes:=by
 have hp:=kbn F.k F.l F.s F.a F.b F.y h;obtain ⟨c0,c1⟩:=k0j hp;exact Oct.append hp (Oct.two zz1 zz1 zz1 zz1)
end
def kaw (D:PlanD) (v:Nat) (p:OutP):Prop:=p.1∈D.bs v/\0<p.2.length/\p.2.length<=12/\Wire.Oct p.2
theorem k5v {D:PlanD} {v i:Nat} {f:Wire.Fr} (hi:1<=i) (hn:i<np D v) (hw:f.wf):kaw D v (k0E D v i,f.bytes):=by
 refine ⟨?_,?_,?_,k9C hw⟩
 · obtain ⟨j,rfl⟩:∃ j,i=j+1:=⟨i-1,zz1⟩
   have hj:j<(D.bs v).length:=by unfold np at hn;omega
   show (v :: D.bs v).getD (j+1) 0∈D.bs v;simp [hj]
 · show 0<f.bytes.length;rw [Wire.bytes_len];split <;> omega
 · show f.bytes.length<=12;rw [Wire.bytes_len];split <;> omega
theorem k96 {D:PlanD} (G:Good D) {v:Nat} {st:NSt}:∀ p∈k19 D v st (np D v),kaw D v p:=by
 intro p hp;obtain ⟨i,hi,hp⟩:=List.mem_flatMap.1 hp;have hi:=List.mem_range.1 hi;split at hp
 · cases hp
 · obtain ⟨k,hk,hp⟩:=List.mem_flatMap.1 hp
   have hk:=List.mem_range.1 hk;have hl:=G.l1;simp only [List.mem_cons,List.not_mem_nil,or_false] at hp;rcases hp with rfl | rfl
   · exact k5v zz1 hi (k1J (.inr rfl) zz1 _).1
   · exact k5v zz1 hi (k1J (.inl rfl) zz1 _).1
theorem k4N {D:PlanD} (G:Good D) {v:Nat} {ms:Nat->Int} {rs:List Nat} (hm:k2H rs (np D v) ms) {M:Int} {C:Nat} {st:NSt} (h:NodeOk D v M C st):∀ {n:Nat} {st':NSt} {os:List OutP},n<=np D v->M+n<=1000000->MovesTo D v ms n st st' os->∀ p∈os,kaw D v p
 | 0,st',os,_,_,hh=>by
   obtain ⟨_,rfl⟩:=hh;intro p hp;cases hp
 | n+1,st',os,hn,hM,hh=>by
   obtain ⟨s1,o1,o2,h1,h2,rfl⟩:=hh;have ih:=k4N G hm h (n:=n) zz1 zz1 h1;have ok:=(MovesTo.ok G hm h (n:=n) zz1 zz1 h1).1;intro p hp;rcases List.mem_append.1 hp with hp | hp
   · exact ih p hp
   · rcases h2 with ⟨h0,hr⟩ | ⟨_,_,rfl⟩
     · rcases hr with ⟨_,_,rfl⟩ | ⟨k,x,r,hk,_,hq,⟨_,_,rfl⟩ | ⟨ht,_,rfl⟩⟩
       · cases hp
       · cases hp
       · obtain rfl:=List.mem_singleton.1 hp
         have htn:(ms n).toNat<np D v:=by
          rcases hm n zz1 with e | ⟨k2,h3,e,_⟩
          · exact zz1
          · exact zz1
         exact k5v zz1 htn (k2W G hk (ok.q n (ms n).toNat k zz1 htn hk x (by rw [hq];exact List.mem_cons_self ..)) _).1
     · cases hp
theorem k6K {D:PlanD} (G:Good D) {v:Nat} (hv:v<D.nodes) {M:Int} {C:Nat} {st st':NSt} {os:List OutP} (h:NodeOk D v M C st) (hM:M+6<=1000000) (t:TickRel D v st st' os):∀ p∈os,kaw D v p:=by
 obtain ⟨s1,ms,s2,o2,hf,hm,_,hmv,_,rfl⟩:=t;have hnp:=k2k G hv;intro p hp;rcases List.mem_append.1 hp with hp | hp
 · exact k4N G hm (hf.ok G h) (Nat.le_refl _) zz1 hmv p hp
 · split at hp
   · exact k96 G p hp
   · cases hp
end Go.Proofs.YtdopmlopafgonaaGreatDoor.Own
