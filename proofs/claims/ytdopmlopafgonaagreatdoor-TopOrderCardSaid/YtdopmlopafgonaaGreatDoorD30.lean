/- TopOrder: of each flow what came is some of what was injected, in its order (a part of the walks and of the plain laws). -/
import Derived.Test.YtdopmlopafgonaaGreatDoorD0
import Derived.Test.YtdopmlopafgonaaGreatDoorD28
import Derived.Test.YtdopmlopafgonaaGreatDoorD29
set_option linter.unusedVariables false
set_option linter.unusedSimpArgs false
set_option maxHeartbeats 4000000
set_option maxRecDepth 100000
namespace Go.Proofs.YtdopmlopafgonaaGreatDoor.Own
open Go.RowKit Go.Proofs.YtdopmlopafgonaaGreatDoorW.PrintWords Go.Proofs.YtdopmlopafgonaaGreatDoorW.PrintLast Go.Proofs.YtdopmlopafgonaaGreatDoorW.PrintMore
def IdxAt{α : Type}(l:List α)(v : α)(r:Int):Prop:=(∃k:Nat,r=(k:Nat)/\l[k]? = some v)\/(r = -1/\v ∉ l)
def k6h{α : Type}(l:List α)(v : α)(w:World)(e:Ending)(w':World):Prop:=∃r:Int,e=.returned (.int .i64 r)/\IdxAt l v r/\Below w.heap.size w w'
theorem kbS(v:Value)(l:List (Nat×Nat))(a b:Nat)(g:Option Nat)(w:World)(R:Row w v 90 2 l.length (k0d l) g)(hn:l.length<=1000) :
 Calls Tryz.prog 138 #[v,.agg #[.int .i64 a,.int .i64 b]] w (k6h l (a,b) w):=by
 obtain⟨A,cap,rfl,_⟩:=R.size;have HR:=Ab R;clear R;go_enter Tryz.func138,Tryz.ntmps138;go_wp2
 go_loopw [8] (fun s8 wr=>∃k:Nat,k<=l.length/\s8=.int .i64 k/\k07 (∀j,j<k->l[j]? ≠ some (a,b))/\k07 (Below w.heap.size w wr/\wr.heap[w.heap.size]? = some (.cells #[.int .i64 a,.int .i64 b] 90 (0,0)))) (fun s8 _=>l.length-ixOf s8)
 case atStart=>exact⟨0,zz1,rfl,⟨fun j h=>by omega⟩,⟨(Below.refl _ w).alloc (Nat.le_refl _) _,heap_alloc_new w _⟩⟩
 case round=>
  obtain⟨k,hk,rfl,HN,HB⟩:=hrel;by_cases hlt:k<l.length
  ·have e1:(k:Int)<(l.length:Int):=by omega
   obtain⟨⟨x,y⟩,hxy⟩:∃p,l[k]? = some p:=⟨_,List.getElem?_eq_getElem hlt⟩;obtain⟨eb,eo,ec,hge,hA,_,_,hcell⟩:=(HR.1.below HB.1.1).open (by omega:0<l.length);simp only[Value.slice.injEq]at hA;obtain⟨rfl,-,rfl⟩:=hA;obtain⟨g0,g1⟩:=k0M _ _ _ hxy;have c0:wr.cell? ⟨eb,eo+k*2,none⟩=some (.int .i64 (x:Nat)):=(hcell _ zz56).trans g0;have c1:wr.cell? ⟨eb,eo+k*2+1,none⟩=some (.int .i64 (y:Nat)):=(hcell (k*2+1) zz56).trans g1;have d0:wr.cell? ⟨w.heap.size,0,none⟩=some (.int .i64 a):=(k00 HB.1.2 0).trans rfl;have d1:wr.cell? ⟨w.heap.size,1,none⟩=some (.int .i64 b):=(k00 HB.1.2 1).trans rfl;clear hcell g0 g1 hge;have HX:=Ab hxy;clear hxy;by_cases hab:(x,y)=(a,b)
   ·cases hab
    have q:∀d W,(Op.equalIn (d+2) 90 (.agg #[.int .i64 a,.int .i64 b]) (.agg #[.int .i64 a,.int .i64 b])).run Tryz.prog W=.ok true W:=fun d W=>by have:=PTopQuick.eqA90 d W a a b b;simpa using this
    go_wp2
    go_quiet (fail)
    go_wp2;exact zz96
   ·have q:∀d W,(Op.equalIn (d+2) 90 (.agg #[.int .i64 a,.int .i64 b]) (.agg #[.int .i64 x,.int .i64 y])).run Tryz.prog W=.ok false W:=fun d W=>by
     have:=PTopQuick.eqA90 d W a x b y;have e:((a:Int) == (x:Int) && ((b:Int) == (y:Int)))=false:=by
      rw[Bool.eq_false_iff];exact zz104
     rw[e]at this;exact this
    have HAB:=Ab hab;clear hab;go_wp2
    go_quiet (fail)
    go_wp2
    go_roundw
    case rel=>
     refine⟨k+1,zz1,rfl,⟨fun j hj=>?_⟩,⟨k0e HB.1.1 _,HB.1.2⟩⟩;rcases Nat.lt_or_ge j k with h|h
     ·exact HN.1 j h
     ·obtain rfl:j=k:=by omega
      rw[HX.1];exact fun e=>HAB.1 (Option.some.inj e)
    case measure=>
     show l.length-ixOf (.int .i64 ((k:Int)+1))<l.length-ixOf (.int .i64 (k:Int));exact zz9
  ·have e1:¬(k:Int)<(l.length:Int):=by omega
   obtain rfl:k=l.length:=by omega
   go_wp2;exact zz105
theorem kbs(v:Value)(l:List (Nat×Nat))(a b:Nat)(g:Option Nat)(w:World)(R:Row w v 131 2 l.length (k0d l) g)(hn:l.length<=1000) :
 Calls Tryz.prog 154 #[v,.agg #[.int .i64 a,.int .i64 b]] w (k6h l (a,b) w):=by
 obtain⟨A,cap,rfl,_⟩:=R.size;have HR:=Ab R;clear R;go_enter Tryz.func154,Tryz.ntmps154;go_wp2
 go_loopw [8] (fun s8 wr=>∃k:Nat,k<=l.length/\s8=.int .i64 k/\k07 (∀j,j<k->l[j]? ≠ some (a,b))/\k07 (Below w.heap.size w wr/\wr.heap[w.heap.size]? = some (.cells #[.int .i64 a,.int .i64 b] 131 (0,0)))) (fun s8 _=>l.length-ixOf s8)
 case atStart=>exact⟨0,zz1,rfl,⟨fun j h=>by omega⟩,⟨(Below.refl _ w).alloc (Nat.le_refl _) _,heap_alloc_new w _⟩⟩
 case round=>
  obtain⟨k,hk,rfl,HN,HB⟩:=hrel;by_cases hlt:k<l.length
  ·have e1:(k:Int)<(l.length:Int):=by omega
   obtain⟨⟨x,y⟩,hxy⟩:∃p,l[k]? = some p:=⟨_,List.getElem?_eq_getElem hlt⟩;obtain⟨eb,eo,ec,hge,hA,_,_,hcell⟩:=(HR.1.below HB.1.1).open (by omega:0<l.length);simp only[Value.slice.injEq]at hA;obtain⟨rfl,-,rfl⟩:=hA;obtain⟨g0,g1⟩:=k0M _ _ _ hxy;have c0:wr.cell? ⟨eb,eo+k*2,none⟩=some (.int .i64 (x:Nat)):=(hcell _ zz56).trans g0;have c1:wr.cell? ⟨eb,eo+k*2+1,none⟩=some (.int .i64 (y:Nat)):=(hcell (k*2+1) zz56).trans g1;have d0:wr.cell? ⟨w.heap.size,0,none⟩=some (.int .i64 a):=(k00 HB.1.2 0).trans rfl;have d1:wr.cell? ⟨w.heap.size,1,none⟩=some (.int .i64 b):=(k00 HB.1.2 1).trans rfl;clear hcell g0 g1 hge;have HX:=Ab hxy;clear hxy;by_cases hab:(x,y)=(a,b)
   ·cases hab
    have q:∀d W,(Op.equalIn (d+2) 131 (.agg #[.int .i64 a,.int .i64 b]) (.agg #[.int .i64 a,.int .i64 b])).run Tryz.prog W=.ok true W:=fun d W=>by have:=PTopQuick.eqA131 d W a a b b;simpa using this
    go_wp2
    go_quiet (fail)
    go_wp2;exact zz96
   ·have q:∀d W,(Op.equalIn (d+2) 131 (.agg #[.int .i64 a,.int .i64 b]) (.agg #[.int .i64 x,.int .i64 y])).run Tryz.prog W=.ok false W:=fun d W=>by
     have:=PTopQuick.eqA131 d W a x b y;have e:((a:Int) == (x:Int) && ((b:Int) == (y:Int)))=false:=by
      rw[Bool.eq_false_iff];exact zz104
     rw[e]at this;exact this
    have HAB:=Ab hab;clear hab;go_wp2
    go_quiet (fail)
    go_wp2
    go_roundw
    case rel=>
     refine⟨k+1,zz1,rfl,⟨fun j hj=>?_⟩,⟨k0e HB.1.1 _,HB.1.2⟩⟩;rcases Nat.lt_or_ge j k with h|h
     ·exact HN.1 j h
     ·obtain rfl:j=k:=by omega
      rw[HX.1];exact fun e=>HAB.1 (Option.some.inj e)
    case measure=>
     show l.length-ixOf (.int .i64 ((k:Int)+1))<l.length-ixOf (.int .i64 (k:Int));exact zz9
  ·have e1:¬(k:Int)<(l.length:Int):=by omega
   obtain rfl:k=l.length:=by omega
   go_wp2;exact zz105
theorem k4V(l:List (Nat×Nat))(k:Nat)(hk:k<=l.length):(k0d l).take (k*2)=k0d (l.take k):=by
 have e:k0d l=k0d (l.take k)++k0d (l.drop k):=by
  unfold k0d;rw[<- List.flatMap_append,List.take_append_drop]
 rw[e,List.take_left' (by rw[k18,List.length_take];omega)]
theorem IdxAt.no{α : Type}{l:List α}{v : α}{r:Int}(h:IdxAt l v r)(hn:v ∉ l):r = -1:=by
 rcases h with⟨k,_,h⟩|⟨h,_⟩
 ·exact absurd (List.mem_of_getElem? h) hn
 ·exact h
theorem k55(v:Value)(l:List (Nat×Nat))(a b:Nat)(g:Option Nat)(w:World)(R:Row w v 131 2 l.length (k0d l) g)(hn:l.length<=1000)(hno:(a,b) ∉ l) :
 Calls Tryz.prog 136 #[v,.agg #[.int .i64 a,.int .i64 b]] w fun e w'=>e=.returned (.bool false)/\Below w.heap.size w w':=by
 have c:=kbs v l a b g _ (R.alloc (.cells #[.int .i64 a,.int .i64 b] 131)) hn;obtain⟨A,cap,rfl,_⟩:=R.size;clear R;have HN:=Ab hno;clear hno;go_enter Tryz.func136,Tryz.ntmps136
 go_wp2_with(go_at_call 154;refine c.mono ?_;rintro e w2 ⟨r,rfl,hr,hb⟩;obtain rfl:=hr.no HN.1)
 go_ret;exact⟨rfl,((Below.refl _ w).alloc (Nat.le_refl _) _).trans (hb.mono zz6)⟩
theorem k57(x a b:Int)(w:World)(h1:a<=x)(h2:x<=b) :
 Calls Tryz.prog 64 #[.int .i64 x,.int .i64 a,.int .i64 b] w fun e w'=>e=.returned (.bool true)/\w=w':=by
 go_enter Tryz.func64,Tryz.ntmps64;exact zz16
abbrev pagg(D:PlanD)(A1:Option Addr)(c1:Nat)(A2:Option Addr)(c2:Nat)(A3:Option Addr)(c3:Nat):Value:=.agg #[.int .i64 D.nodes,.slice A1 D.edges.length c1,.int .i64 D.lanes,.int .i64 D.room,.int .i64 D.queue,.int .i64 D.rounds,.int .i64 D.every,.int .i64 D.bag,.slice A2 D.weights.length c2,.int .u16 D.start,.slice A3 D.next.length c3]
theorem PlanV.shape{w:World}{B:Nat->Prop}{v:Value}{D:PlanD}(h:PlanV w B v D):∃A1 c1 A2 c2 A3 c3,v=pagg D A1 c1 A2 c2 A3 c3:=by
 obtain⟨ev,wv,nv,rows,ge,gw,gn,gs,rfl,r1,r2,r3,r4,b1,b2,b3⟩:=h;obtain⟨A,cap,rfl,_⟩:=r1.size;obtain⟨A2,cap2,rfl,_⟩:=r2.size;obtain⟨A3,cap3,rfl,_⟩:=r3.size;exact⟨_,_,_,_,_,_,rfl⟩
theorem Good.ints{D:PlanD}(G:Good D):(2:Int)<=(D.nodes:Nat)/\((D.nodes:Nat):Int)<=6/\(1:Int)<=(D.lanes:Nat)/\((D.lanes:Nat):Int)<=3/\(1:Int)<=(D.room:Nat)/\((D.room:Nat):Int)<=8/\(1:Int)<=(D.queue:Nat)/\((D.queue:Nat):Int)<=8/\(1:Int)<=(D.rounds:Nat)/\((D.rounds:Nat):Int)<=4/\(1:Int)<=(D.every:Nat)/\((D.every:Nat):Int)<=8/\(1:Int)<=(D.bag:Nat)/\((D.bag:Nat):Int)<=64:=by
 have:=G.n0;have:=G.n1;have:=G.l0;have:=G.l1;have:=G.r0;have:=G.r1;have:=G.q0;have:=G.q1;have:=G.i0;have:=G.i1;have:=G.e0;have:=G.e1;have:=G.b0;exact zz1
theorem k6b(B:Nat->Prop)(v:Value)(D:PlanD)(w:World)(hP:PlanV w B v D)(G:Good D) :
 Calls Tryz.prog 102 #[v] w fun e w'=>e=.returned (.bool true)/\Below w.heap.size w w':=by
 obtain⟨A1,c1,A2,c2,A3,c3,rfl⟩:=hP.shape;obtain⟨x1,x2,x3,x4,x5,x6,x7,x8,x9,x10,x11,x12,x13,x14⟩:=G.ints;clear hP G;go_enter Tryz.func102,Tryz.ntmps102
 go_wp2_with(go_at_call 64;refine(k57 _ _ _ _ zz1 zz1).mono ?_;rintro e w2 ⟨rfl,rfl⟩)
 go_ret;exact⟨rfl,(Below.refl _ w).alloc (Nat.le_refl _) _⟩
theorem k7x(B:Nat->Prop)(v:Value)(D:PlanD)(w:World)(hP:PlanV w B v D)(G:Good D) :
 Calls Tryz.prog 103 #[v] w fun e w'=>e=.returned (.bool true)/\Below w.heap.size w w':=by
 obtain⟨ev,wv,nv,rows,ge,gw,gn,gs,rfl,r1,r2,r3,r4,b1,b2,b3⟩:=hP;obtain⟨A,cap,rfl,_⟩:=r1.size;obtain⟨A2,cap2,rfl,_⟩:=r2.size;obtain⟨A3,cap3,rfl,_⟩:=r3.size;have he:(D.edges.length:Int)<=15:=by have:=G.el;omega
 have HR:=Ab r1;have HG:=Ab G;clear r1 r2 r3 r4 b1 b2 b3 G;go_enter Tryz.func103,Tryz.ntmps103;go_wp2
 go_loopw [8] (fun s8 wr=>∃k:Nat,k<=D.edges.length/\s8=.int .i64 k/\k07 (Below w.heap.size w wr/\wr.heap[w.heap.size]? = some (.cells #[.int .i64 D.nodes,.slice A D.edges.length cap,.int .i64 D.lanes,.int .i64 D.room,.int .i64 D.queue,.int .i64 D.rounds,.int .i64 D.every,.int .i64 D.bag,.slice A2 D.weights.length cap2,.int .u16 D.start,.slice A3 D.next.length cap3] 32 (0,0)))) (fun s8 _=>D.edges.length-ixOf s8)
 case atStart=>exact⟨0,zz1,rfl,⟨(Below.refl _ w).alloc (Nat.le_refl _) _,heap_alloc_new w _⟩⟩
 case round=>
  obtain⟨k,hk,rfl,HB⟩:=hrel;obtain⟨_,hbox⟩:=id HB.1;by_cases hlt:k<D.edges.length
  ·have e1:(k:Int)<(D.edges.length:Int):=by omega
   obtain⟨⟨x,y⟩,hxy⟩:∃p,D.edges[k]? = some p:=⟨_,List.getElem?_eq_getElem hlt⟩;obtain⟨hx1,hx2⟩:=HG.1.eb _ (List.mem_of_getElem? hxy);have hx1:x<y:=hx1;have hx2:y<D.nodes:=hx2;obtain⟨eb,eo,ec,hge,hA,_,_,hcell⟩:=(HR.1.below HB.1.1).open (by omega:0<D.edges.length);simp only[Value.slice.injEq]at hA;obtain⟨rfl,-,rfl⟩:=hA;obtain⟨g0,g1⟩:=k0M _ _ _ hxy;have c0:wr.cell? ⟨eb,eo+k*2,none⟩=some (.int .i64 (x:Nat)):=(hcell _ zz56).trans g0;have c1:wr.cell? ⟨eb,eo+k*2+1,none⟩=some (.int .i64 (y:Nat)):=(hcell (k*2+1) zz56).trans g1;have d0:wr.cell? ⟨w.heap.size,0,none⟩=some (.int .i64 D.nodes):=(k00 hbox 0).trans rfl;have d1:wr.cell? ⟨w.heap.size,1,none⟩=some (.slice (some ⟨eb,eo,none⟩) D.edges.length cap):=(k00 hbox 1).trans rfl;have hcut:Row (wr.alloc (.cells #[.int .i64 (x:Nat),.int .i64 (y:Nat)] 131)) (.slice (some ⟨eb,eo,none⟩) k cap) 131 2 (D.edges.take k).length (k0d (D.edges.take k)) ge:=by
    have h:=((HR.1.below HB.1.1).alloc (.cells #[.int .i64 (x:Nat),.int .i64 (y:Nat)] 131)).first hk;have e2:(k0d D.edges).take (k*2)=k0d (D.edges.take k):=by
     exact k4V _ _ hk
    rw[e2]at h;rw[List.length_take,Nat.min_eq_left hk];exact h
   have hno:(x,y) ∉ D.edges.take k:=fun h=>by
    obtain⟨j,hj⟩:=List.mem_iff_getElem?.1 h;have hjk:j<k:=by have:=(List.getElem?_eq_some_iff.1 hj).1;rw[List.length_take]at this;omega
    rw[List.getElem?_take_of_lt hjk]at hj;have hn:=HG.1.en;rw[List.nodup_iff_pairwise_ne,List.pairwise_iff_getElem]at hn;have:=hn j k zz1 hlt hjk;obtain⟨_,a1⟩:=List.getElem?_eq_some_iff.1 hj;obtain⟨_,a2⟩:=List.getElem?_eq_some_iff.1 hxy;exact this (a1.trans a2.symm)
   have HCUT:=Ac (_/\_) (⟨hcut,hno⟩);obtain⟨z,hz⟩:∃z,z=wr.heap.size:=⟨_,rfl⟩;have HS:=Sat.mk (S:=fun(W:World)=>W.cell? ⟨wr.heap.size,0,none⟩=some (.int .i64 (x:Nat))/\W.cell? ⟨wr.heap.size,1,none⟩=some (.int .i64 (y:Nat))/\W.cell? ⟨w.heap.size,0,none⟩=some (.int .i64 D.nodes)/\W.cell? ⟨w.heap.size,1,none⟩=some (.slice (some ⟨eb,eo,none⟩) D.edges.length cap)) (w:=(wr.alloc (.cells #[.int .i64 (x:Nat),.int .i64 (y:Nat)] 131))) (by
    have hn:=heap_alloc_new wr (.cells #[.int .i64 (x:Nat),.int .i64 (y:Nat)] 131);have ha:=(Below.refl wr.heap.size wr).alloc (Nat.le_refl _) (.cells #[.int .i64 (x:Nat),.int .i64 (y:Nat)] 131);exact⟨(k00 hn 0).trans rfl,(k00 hn 1).trans rfl,k01 ha d0,k01 ha d1⟩)
   have g1':=decide_eq_false (show ¬((x:Nat):Int)<0 by omega);have g2':=decide_eq_false (show ¬((y:Nat):Int)<=((x:Nat):Int) by omega);have g3':=decide_eq_false (show ¬((D.nodes:Nat):Int)<=((y:Nat):Int) by omega);have g5':=decide_eq_false (show ¬y<=x by omega);have g6':=decide_eq_false (show ¬D.nodes<=y by omega);have g4':(k:Int)<=(cap:Int):=by have:=HR.1.size;obtain⟨_,_,h1,h2⟩:=this;cases h1;omega
   clear hcell g0 g1 hge hxy hcut hno hx1 hx2 hbox d0 d1;go_wp2;refine WpL.rg HS 24 zz2 ?_;refine WpL.T 0 [17,10,3,2,1] HS.1 ?_;refine WpL.T 1 [17,10,3,2] HS.1 ?_;refine WpL.T 2 [17,10,3] HS.1 ?_;refine WpL.T 3 [17,10] HS.1 ?_;refine WpL.T 4 [17,10,9,8,5] HS.1 ?_;refine WpL.T 5 [17,10,9,8] HS.1 ?_;refine WpL.T 6 [17,10,9,8,7] HS.1 ?_;refine WpL.T 7 [17,10,9,8] HS.1 ?_;refine WpL.T 8 [17,10,9] HS.1 ?_;refine WpL.T 9 [17,10] HS.1 ?_;refine WpL.T 10 [17] HS.1 ?_;refine WpL.T 11 [17,16,15,12] HS.1 ?_;refine WpL.T 12 [17,16,15] HS.1 ?_;refine WpL.T 13 [17,16,15,14] HS.1 ?_;refine WpL.T 14 [17,16,15] HS.1 ?_;refine WpL.T 15 [17,16] HS.1 ?_;refine WpL.T 16 [17] HS.1 ?_;refine WpL.T 17 [] HS.1 ?_;refine WpL.T 18 [23,21,19] HS.1 ?_;refine WpL.T 19 [23,21] HS.1 ?_;refine WpL.T 20 [23,21] HS.1 ?_;refine WpL.T 21 [23] HS.1 ?_;refine WpL.T 22 [23] HS.1 ?_;refine WpL.one (i:=23) zz2 rfl (fun K hK=>?_);go_simp;refine(k55 _ _ x y _ _ HCUT.1.1.drew zz51 HCUT.1.2).mono ?_;rintro e w3 ⟨rfl,hb⟩;have B3:=Ab (undrew hb);have HS3:=HS.to w3 zz36;clear hb;simp only[];refine hK.out _ _ (fun _=>HS3.1) ?_;clear hK K
   try refine Sm ?_
   refine WpL.one (i:=24) zz2 rfl (fun K hK=>?_);go_simp;refine hK.out _ _ (fun h=>absurd rfl h) ?_;clear hK K
   try refine Sm ?_
   refine WpL.done zz2 ?_ _;go_wp2;have L:=Ab ((HB.1.1.alloc HB.1.1.size (.cells #[.int .i64 (x:Nat),.int .i64 (y:Nat)] 131)).trans (B3.1.mono (Nat.le_trans HB.1.1.size zz6)));refine⟨⟨k+1,zz1,rfl,⟨⟨L.1,?_⟩⟩⟩,?_⟩
   ·have h:=k03 HB.1.2
    exact(B3.1.block _ zz20).trans ((Below.heap_alloc _ _ _ h).trans HB.1.2)
   ·show D.edges.length-ixOf (.int .i64 ((k:Int)+1))<D.edges.length-ixOf (.int .i64 (k:Int))
    simp only[ixOf];exact zz1
  ·have e1:¬(k:Int)<(D.edges.length:Int):=by omega
   have d1:wr.cell? ⟨w.heap.size,1,none⟩=some (.slice A D.edges.length cap):=(k00 hbox 1).trans rfl;go_wp2;go_ret;exact⟨rfl,HB.1.1⟩
theorem kc7(A:Option Addr)(n c b:Nat)(w:World)(h:w.cell? ⟨b,0,none⟩=some (.int .i64 n)) :
 Calls Tryz.prog 101 #[.slice A n c,.pointer (some ⟨b,0,none⟩)] w fun e w'=>e=.returned (.bool false)/\w'=w:=by
 go_enter Tryz.func101,Tryz.ntmps101;exact zz16
theorem k5M(v:Value)(n b:Nat)(rows:List Value)(g:Option Nat)(w:World)(hn0:0<n)(R:Row w v 29 1 n rows g)(hn:n<=100)(h:w.cell? ⟨b,0,none⟩=some (.int .i64 n))(hr:∀i,i<n->∃A c,rows[i]? = some (.slice A n c)) :
 Calls Tryz.prog 137 #[v,.func (.func 101) #[] #[.pointer (some ⟨b,0,none⟩)]] w fun e w'=>e=.returned (.int .i64 (-1))/\w'=w:=by
 obtain⟨rb,off,cap,hg,rfl,hcap,hfz,hcell⟩:=R.open hn0;have hl:rows.length=n:=by have:=R.1;simpa using this
 have HR:=Ab hr;clear R hr;go_enter Tryz.func137,Tryz.ntmps137;go_wp2
 go_loopw [8] (fun s8 wr=>∃k:Nat,k<=n/\s8=.int .i64 k/\wr=w) (fun s8 _=>n-ixOf s8)
 case atStart=>exact⟨0,zz1,rfl,rfl⟩
 case round=>
  obtain⟨k,hk,rfl,rfl⟩:=hrel;by_cases hlt:k<n
  ·have e1:(k:Int)<(n:Int):=by omega
   obtain⟨A,c,hx⟩:=HR.1 k hlt;have hc:wr.cell? ⟨rb,off+k,none⟩=some (.slice A n c):=(hcell k zz1).trans hx;clear hcell hx
   go_wp2_with(go_at_call 101;refine(kc7 A n c b _ h).mono ?_;rintro e w4 ⟨rfl,rfl⟩)
   go_roundw
   case rel=>exact⟨k+1,zz1,rfl,trivial⟩
   case measure=>
    show n-ixOf (.int .i64 ((k:Int)+1))<n-ixOf (.int .i64 (k:Int));exact zz9
  ·have e1:¬(k:Int)<(n:Int):=by omega
   obtain rfl:k=n:=by omega
   go_wp2;go_ret;exact⟨rfl,rfl⟩
theorem k44(v:Value)(n b:Nat)(rows:List Value)(g:Option Nat)(w:World)(hn0:0<n)(R:Row w v 29 1 n rows g)(hn:n<=100)(h:w.cell? ⟨b,0,none⟩=some (.int .i64 n))(hr:∀i,i<n->∃A c,rows[i]? = some (.slice A n c)) :
 Calls Tryz.prog 104 #[v,.func (.func 101) #[] #[.pointer (some ⟨b,0,none⟩)]] w fun e w'=>e=.returned (.bool false)/\w'=w:=by
 have c:=k5M v n b rows g w hn0 R hn h hr;obtain⟨A,cap,rfl,_⟩:=R.size;clear R h hr;go_enter Tryz.func104,Tryz.ntmps104
 go_wp2_with(go_at_call 137;refine c.mono ?_;rintro e w4 ⟨rfl,rfl⟩)
 go_ret;exact⟨rfl,rfl⟩
theorem PlanV.rows{w:World}{B:Nat->Prop}{D:PlanD}{A1 c1 A2 c2 A3 c3}(h:PlanV w B (pagg D A1 c1 A2 c2 A3 c3) D)(G:Good D):∃ge gw rows gn,Row w (.slice A1 D.edges.length c1) 131 2 D.edges.length (k0d D.edges) ge/\Row w (.slice A2 D.weights.length c2) 3 1 D.weights.length (i64s D.weights) gw/\Row w (.slice A3 D.next.length c3) 29 1 D.next.length rows gn/\(∀i,i<D.nodes->∃A c,rows[i]? = some (.slice A D.nodes c)):=by
 obtain⟨ev,wv,nv,rows,ge,gw,gn,gs,hv,r1,r2,r3,r4,b1,b2,b3⟩:=h;simp only[pagg,Value.agg.injEq,Array.mk.injEq,List.cons.injEq,true_and,and_true]at hv;obtain⟨rfl,rfl,rfl⟩:=hv;refine⟨ge,gw,rows,gn,r1,r2,r3,fun i hi=>?_⟩;obtain⟨r,hr⟩:∃r,D.next[i]? = some r:=⟨_,List.getElem?_eq_getElem (by have:=G.nl;omega)⟩;obtain⟨u,hu,ru,_⟩:=r4 i r hr;obtain⟨A,c,rfl,_⟩:=ru.size;rw[G.nr r (List.mem_of_getElem? hr)]at hu;exact⟨A,c,hu⟩
theorem k5g(B:Nat->Prop)(v:Value)(D:PlanD)(w:World)(hP:PlanV w B v D)(G:Good D) :
 Calls Tryz.prog 56 #[v] w fun e w'=>e=.returned (.int .u16 0)/\Below w.heap.size w w':=by
 obtain⟨A1,c1,A2,c2,A3,c3,rfl⟩:=hP.shape;have P1:=Ab hP;have hnl:=Ab G.nl;have hwl:=Ab G.wl;have t1:((D.weights.length:Int) != (D.lanes:Nat))=false:=by rw[hwl.1];simp
 have t2:((D.next.length:Int) != (D.nodes:Nat))=false:=by rw[hnl.1];simp
 have HG:=Ab G;have L1:=Ab ((Below.refl w.heap.size w).alloc (Nat.le_refl _) (.cells #[.int .i64 D.nodes,.slice A1 D.edges.length c1,.int .i64 D.lanes,.int .i64 D.room,.int .i64 D.queue,.int .i64 D.rounds,.int .i64 D.every,.int .i64 D.bag,.slice A2 D.weights.length c2,.int .u16 D.start,.slice A3 D.next.length c3] 32));have Z1:=Ab (heap_alloc_new w (.cells #[.int .i64 D.nodes,.slice A1 D.edges.length c1,.int .i64 D.lanes,.int .i64 D.room,.int .i64 D.queue,.int .i64 D.rounds,.int .i64 D.every,.int .i64 D.bag,.slice A2 D.weights.length c2,.int .u16 D.start,.slice A3 D.next.length c3] 32));clear hP G;have step:∀{W W':World},Below w.heap.size w W->Below W.heap.size W W'->Below w.heap.size w W':=fun h k=>h.trans (k.mono h.size)
 go_enter Tryz.func56,Tryz.ntmps56
 go_wp2_with(first
  |(go_at_call 102;refine(k6b B _ D _ (P1.1.below L1.1) HG.1).mono ?_;rintro e w2 ⟨rfl,hb⟩;have L2:=Ac (_/\_) (⟨step L1.1 hb,(hb.block _ zz6).trans Z1.1⟩);have b0:=fun i=>k00 L2.1.2 i;clear hb)
  |(go_at_call 103;refine(k7x B _ D _ (P1.1.below L2.1.1) HG.1).mono ?_;rintro e w3 ⟨rfl,hb⟩;have L3:=Ac (_/\_) (⟨step L2.1.1 hb,(hb.block _ (k03 L2.1.2)).trans L2.1.2⟩);have b0:=fun i=>k00 L3.1.2 i;clear hb)
  |(go_at_call 66;obtain⟨_,gw,_,_,_,rw,_⟩:=(P1.1.below L3.1.1).rows HG.1;refine(k4t _ D.weights.length D.weights gw _ (by have:=HG.1.l0;have:=HG.1.wl;omega) rw HG.1.wb (by have:=HG.1.l1;have:=HG.1.wl;omega)).mono ?_;rintro e w4 ⟨gx,_,_,_,_,rfl,hb,_⟩;have L4:=Ac (_/\_) (⟨step L3.1.1 hb,(hb.block _ (k03 L3.1.2)).trans L3.1.2⟩);have b0:=fun i=>k00 L4.1.2 i;clear hb rw)
  |(go_at_call 104;obtain⟨_,_,rows,gn,_,_,rw,hro⟩:=(P1.1.below L4.1.1).rows HG.1;rw[hnl.1]at rw;rw[hnl.1];refine(k44 _ D.nodes w.heap.size rows gn _ (by have:=HG.1.n0;omega) rw (by have:=HG.1.n1;omega) ((k00 L4.1.2 0).trans rfl) hro).mono ?_;rintro e w5 ⟨rfl,rfl⟩))
 go_ret;exact⟨rfl,L4.1.1⟩
theorem kbC(v:Value)(l:List Nat)(x:Nat)(g:Option Nat)(w:World)(R:Row w v 3 1 l.length (i64s l) g)(hn:l.length<=1000) :
 Calls Tryz.prog 113 #[v,.int .i64 x] w fun e w'=>(∃r:Int,e=.returned (.int .i64 r)/\IdxAt l x r)/\w=w':=by
 obtain⟨A,cap,rfl,_⟩:=R.size;have HR:=Ab R;clear R;go_enter Tryz.func113,Tryz.ntmps113;go_wp2
 go_loopw [8] (fun s8 wr=>∃k:Nat,k<=l.length/\s8=.int .i64 k/\k07 (∀j,j<k->l[j]? ≠ some x)/\wr=w) (fun s8 _=>l.length-ixOf s8)
 case atStart=>exact⟨0,zz1,rfl,⟨fun j h=>by omega⟩,rfl⟩
 case round=>
  obtain⟨k,hk,rfl,HN,rfl⟩:=hrel;by_cases hlt:k<l.length
  ·have e1:(k:Int)<(l.length:Int):=by omega
   obtain⟨y,hy⟩:∃p,l[k]? = some p:=⟨_,List.getElem?_eq_getElem hlt⟩;obtain⟨eb,eo,ec,hge,hA,_,_,hcell⟩:=HR.1.open (by omega:0<l.length);simp only[Value.slice.injEq]at hA;obtain⟨rfl,-,rfl⟩:=hA;have c0:wr.cell? ⟨eb,eo+k,none⟩=some (.int .i64 (y:Nat)):=by rw[hcell k zz55];simp[i64s,hy]
   clear hcell hge;have HX:=Ab hy;clear hy;by_cases hab:x=y
   ·subst hab
    go_wp2;go_ret;exact⟨⟨(k:Nat),eset _ _ rfl,.inl ⟨k,rfl,HX.1⟩⟩,rfl⟩
   ·have e2:((x:Int) == (y:Int))=false:=beq_eq_false_iff_ne.mpr zz1
    have HAB:=Ab hab;clear hab;go_wp2
    go_roundw
    case rel=>
     refine⟨k+1,zz1,rfl,⟨fun j hj=>?_⟩,trivial⟩;rcases Nat.lt_or_ge j k with h|h
     ·exact HN.1 j h
     ·obtain rfl:j=k:=by omega
      rw[HX.1];exact fun e=>HAB.1 (Option.some.inj e).symm
    case measure=>
     show l.length-ixOf (.int .i64 ((k:Int)+1))<l.length-ixOf (.int .i64 (k:Int));exact zz9
  ·have e1:¬(k:Int)<(l.length:Int):=by omega
   obtain rfl:k=l.length:=by omega
   go_wp2;go_ret;refine⟨⟨-1,eset _ _ rfl,.inr ⟨rfl,fun h=>?_⟩⟩,rfl⟩;exact zz45
theorem IdxAt.yes{α : Type}{l:List α}{v : α}{r:Int}(h:IdxAt l v r)(hn:v∈l):∃k:Nat,r=(k:Nat):=by
 rcases h with⟨k,h,_⟩|⟨_,h⟩
 ·exact⟨k,h⟩
 ·exact absurd hn h
theorem k5P(v:Value)(l:List Nat)(x:Nat)(g:Option Nat)(w:World)(R:Row w v 3 1 l.length (i64s l) g)(hn:l.length<=1000)(hx:x∈l) :
 Calls Tryz.prog 105 #[v,.int .i64 x] w fun e w'=>e=.returned (.bool true)/\w=w':=by
 have c:=kbC v l x g w R hn;obtain⟨A,cap,rfl,_⟩:=R.size;clear R;have HN:=Ab hx;clear hx;go_enter Tryz.func105,Tryz.ntmps105
 go_wp2_with(go_at_call 113;refine c.mono ?_;rintro e w2 ⟨⟨r,rfl,hr⟩,rfl⟩;obtain⟨k,rfl⟩:=hr.yes HN.1)
 go_ret;exact⟨rfl,rfl⟩
abbrev pbox(D:PlanD)(A1:Option Addr)(c1:Nat)(A2:Option Addr)(c2:Nat)(A3:Option Addr)(c3:Nat):Obj:=(.cells #[.int .i64 D.nodes,.slice A1 D.edges.length c1,.int .i64 D.lanes,.int .i64 D.room,.int .i64 D.queue,.int .i64 D.rounds,.int .i64 D.every,.int .i64 D.bag,.slice A2 D.weights.length c2,.int .u16 D.start,.slice A3 D.next.length c3] 32 (0,0))
def k51(D:PlanD)(k:Nat):List (Nat×Nat):=(List.range k).flatMap fun v=>(D.bs v).map fun w=>(v,w)
def PlanD.hops(D:PlanD):List (Nat×Nat):=k51 D D.nodes
theorem k3E(D:PlanD)(k:Nat):k51 D (k+1)=k51 D k++(D.bs k).map fun w=>(k,w):=by simp[k51,List.range_succ]
theorem k1E(D:PlanD)(G:Good D):∀k,k<=D.nodes->(k51 D k).length<=k*5
 |0,_=>by simp[k51]
 |k+1,h=>by
  have:=k1E D G k zz1;have:=G.bl k zz1;rw[k3E];exact zz84
theorem k3Z(l m:List (Nat×Nat)):k0d (l++m)=k0d l++k0d m:=by simp[k0d]
def k9b(l:List (Nat×Nat))(w:World)(e:Ending)(w':World):Prop:=∃v g,e=.returned v/\Row w' v 90 2 l.length (k0d l) g/\Below w.heap.size w w'/\∀b,g=some b->w.heap.size<=b
theorem k2x(B:Nat->Prop)(v:Value)(D:PlanD)(w:World)(hP:PlanV w B v D)(G:Good D) :
 Calls Tryz.prog 37 #[v] w (k9b D.hops w):=by
 obtain⟨A1,c1,A2,c2,A3,c3,rfl⟩:=hP.shape;have m1:∀W:World,(Builtin.max_ #[3,3] 3 #[.int .i64 D.nodes,.int .i64 0]).run Tryz.prog W=.ok (.int .i64 D.nodes) W:=fun W=>by
  simp only[k1u,k1c];rw[if_neg zz1];simp[Sem.run_bind]
 have m2:∀W:World,(Builtin.min_ #[3,3] 3 #[.int .i64 D.nodes,.int .i64 6]).run Tryz.prog W=.ok (.int .i64 D.nodes) W:=fun W=>by
  simp only[k1N,k1j];rw[if_neg (by have:=G.n1;omega)];simp[Sem.run_bind]
 have P1:=Ab hP;have HG:=Ab G;have hn6:=G.n1;clear hP G;go_enter Tryz.func37,Tryz.ntmps37;go_wp2;clear m1 m2
 go_loopw [3,11] (fun s3 s11 wr=>∃(k c L:Nat)(l5:List (Nat×Nat))(A5:Option Addr)(g5:Option Nat),k<=D.nodes/\s11=.int .i64 k/\s3=.slice A5 L c/\k07 (l5=k51 D k/\L=l5.length)/\k07 (Row wr (.slice A5 L c) 90 2 L (k0d l5) g5/\Below w.heap.size w wr/\(∀b,g5=some b->w.heap.size<=b)/\wr.heap[w.heap.size]? = some (pbox D A1 c1 A2 c2 A3 c3))) (fun _ s11 _=>D.nodes-ixOf s11)
 case atStart=>exact⟨0,0,0,[],none,none,zz1,rfl,rfl,⟨rfl,rfl⟩,⟨Row.nil _ _ _,(Below.refl _ w).alloc (Nat.le_refl _) _,zz6,heap_alloc_new w _⟩⟩
 case round=>
  obtain⟨k,c,L,l5,A5,g5,hk,rfl,rfl,HL,R⟩:=hrel;by_cases hlt:k<D.nodes
  ·have e1:(k:Int)<(D.nodes:Int):=by omega
   have b0:=fun i=>k00 R.1.2.2.2 i
   have hlen:=k1E D HG.1 k hk;rw[<- HL.1.1,<- HL.1.2]at hlen;have hbl:=HG.1.bl k hlt
   go_wp2_with(go_at_call 63;refine(k1r B _ D k _ (P1.1.below R.1.2.1) HG.1 hlt).mono ?_;rintro e w2 ⟨pb,po,pc,rfl,hr,hpb,hb⟩;have K:=Ac (_/\_/\_) (⟨hr,hpb,hb⟩);clear hr hpb hb)
   clear b0
   go_loopw [3,18] (fun s3 s18 W=>∃(j c' L':Nat)(l6:List (Nat×Nat))(A6:Option Addr)(g6:Option Nat),j<=(D.bs k).length/\s18=.int .i64 j/\s3=.slice A6 L' c'/\k07 (l6=l5++((D.bs k).take j).map fun w=>(k,w))/\k07 (L'=L+j)/\k07 (L'=l6.length)/\k07 (Row W (.slice A6 L' c') 90 2 L' (k0d l6) g6/\Below w.heap.size w W/\(∀b,g6=some b->w.heap.size<=b/\b≠pb)/\W.heap[w.heap.size]? = some (pbox D A1 c1 A2 c2 A3 c3)/\W.heap[pb]? = w2.heap[pb]? /\ w2.heap.size<=W.heap.size)) (fun _ s18 _=>(D.bs k).length-ixOf s18)
   case atStart=>
    refine⟨0,c,L,l5,A5,g5,zz1,rfl,rfl,⟨zz6⟩,⟨zz1⟩,⟨HL.1.2⟩,⟨R.1.1.below K.1.2.2,R.1.2.1.trans (K.1.2.2.mono R.1.2.1.size),fun b hb=>⟨R.1.2.2.1 b hb,?_⟩,(K.1.2.2.block _ (k03 R.1.2.2.2)).trans R.1.2.2.2,rfl,Nat.le_refl _⟩⟩;have h1:=R.1.1.lt hb;have h2:=K.1.2.1;exact zz1
   case round=>
    obtain⟨j,c',L',l6,A6,g6,hj,rfl,rfl,HL6,HL5,HLl,R6⟩:=hrel;by_cases hlj:j<(D.bs k).length
    ·have e2:(j:Int)<((D.bs k).length:Int):=by omega
     obtain⟨x,hx⟩:∃x,(D.bs k)[j]? = some x:=⟨_,List.getElem?_eq_getElem hlj⟩;have hxn:=k8C (List.mem_of_getElem? hx);have hcx:wr.cell? ⟨pb,po+j,none⟩=some (.int .i64 (x:Nat)):=by
      obtain⟨_,_,_,hg,hA,_,_,hcell⟩:=(K.1.1.of_blk (W:=wr) (fun b e=>by cases e;exact R6.1.2.2.2.2.1)).open (by omega:0<(D.bs k).length);simp only[Value.slice.injEq,Option.some.injEq,Addr.mk.injEq,and_true,true_and]at hA;obtain⟨⟨rfl,rfl⟩,rfl⟩:=hA;rw[hcell j zz55];simp[i64s,hx]
     have HX:=Ab hx;clear hx;have hll:L'<=100:=by have:=HL5.1;omega
     go_wp2_with(first
      |(go_at_call 64;refine(k57 _ _ _ _ zz1 (by have:=hxn;omega)).mono ?_;rintro e w3 ⟨rfl,rfl⟩)
      |(at_builtin;refine k0z rfl _ _ 68 90 (.agg #[.int .i64 0,.int .i64 0]) 2 16 rfl Tryz.underlying68 kbI rfl zz7 zz7 (.slice A6 L' c') L' (k0d l6) [.int .i64 (k:Nat),.int .i64 (x:Nat)] g6 R6.1.1 rfl rfl rfl rfl zz59 zz1 ?_;intro v1 w1 g1 R1p O1 G1;have K1:=Ac (_/\_/\_) (⟨R1p,O1,G1⟩);obtain⟨A1',k1,rfl,_⟩:=R1p.size;clear R1p O1 G1))
     have hn6:∀b,g6=some b->w.heap.size≠b:=fun b hb e=>by
      obtain⟨cur,hc⟩:=(hb▸R6.1.1:Row wr (.slice A6 L' c') 90 2 L' (k0d l6) (some b)).blk_ty;have:=R6.1.2.2.2.1;rw[e,hc]at this;cases this
     refine⟨⟨j+1,k1,L' + 1,l6++[(k,x)],A1',g1,zz1,rfl,rfl,⟨?_⟩,⟨by have:=HL5.1;omega⟩,⟨by simp;exact HLl.1⟩,⟨?_,?_,?_,?_,?_,Nat.le_trans R6.1.2.2.2.2.2 K1.1.2.1.size⟩⟩,?_⟩
     ·rw[List.take_add_one,HX.1]
      simp[HL6.1]
     ·rw[k3Z];exact K1.1.1
     ·exact((Only.of_below (P:=fun b=>w.heap.size<=b) R6.1.2.1).then K1.1.2.1 (fun b _ hq=>(R6.1.2.2.1 b hq).1)).toBelow (fun b hb hq=>by omega)
     ·intro b hb
      rcases K1.1.2.2 with h|⟨b2,h,hb2⟩
      ·exact R6.1.2.2.1 b (h▸hb)
      ·rw[h]at hb;cases hb
       have h1:=R6.1.2.1.size;have h2:=K.1.1.lt rfl;have h3:=R6.1.2.2.2.2.2;exact⟨zz1,zz1⟩
     ·exact(K1.1.2.1.keep _ (k03 R6.1.2.2.2.1) (fun h=>hn6 _ h rfl)).trans R6.1.2.2.2.1
     ·refine(K1.1.2.1.keep pb ?_ (fun h=>(R6.1.2.2.1 _ h).2 rfl)).trans R6.1.2.2.2.2.1
      have h2:=K.1.1.lt rfl;have h3:=R6.1.2.2.2.2.2;exact zz1
     ·show(D.bs k).length-ixOf (.int .i64 ((j:Int)+1))<(D.bs k).length-ixOf (.int .i64 (j:Int))
      simp only[ixOf];exact zz1
    ·have e2:¬(j:Int)<((D.bs k).length:Int):=by omega
     obtain rfl:j=(D.bs k).length:=by omega
     go_wp2;refine⟨⟨k+1,c',L',l6,A6,g6,zz1,rfl,rfl,⟨?_,HLl.1⟩,⟨R6.1.1,R6.1.2.1,fun b hb=>(R6.1.2.2.1 b hb).1,R6.1.2.2.2.1⟩⟩,?_⟩
     ·rw[k3E,<- HL.1.1,HL6.1,List.take_length]
     ·show D.nodes-ixOf (.int .i64 ((k:Int)+1))<D.nodes-ixOf (.int .i64 (k:Int))
      simp only[ixOf];exact zz1
  ·have e1:¬(k:Int)<(D.nodes:Int):=by omega
   obtain rfl:k=D.nodes:=by omega
   go_wp2;go_ret;obtain⟨rfl,rfl⟩:=HL.1;exact⟨_,g5,eset _ _ rfl,R.1.1,R.1.2.1,R.1.2.2.1⟩
def lenS(v:Value):Nat:=match v with|.slice _ n _=>n|_=>0
theorem PlanV.way{w:World}{B:Nat->Prop}{D:PlanD}{A1 c1 A2 c2 A3 c3}(h:PlanV w B (pagg D A1 c1 A2 c2 A3 c3) D)(G:Good D)(x y:Nat)(hx:x<D.nodes)(hy:y<D.nodes) :
 ∃nb no rb ro rc,A3=some ⟨nb,no,none⟩/\w.cell? ⟨nb,no+x,none⟩=some (.slice (some ⟨rb,ro,none⟩) D.nodes rc)/\w.cell? ⟨rb,ro+y,none⟩=some (.int .i64 (D.nxt x y:Nat)):=by
 obtain⟨ev,wv,nv,rows,ge,gw,gn,gs,hv,r1,r2,r3,r4,b1,b2,b3⟩:=h;simp only[pagg,Value.agg.injEq,Array.mk.injEq,List.cons.injEq,true_and,and_true]at hv;obtain⟨rfl,rfl,rfl⟩:=hv;obtain⟨r,hr⟩:∃r,D.next[x]? = some r:=⟨_,List.getElem?_eq_getElem (by have:=G.nl;omega)⟩;obtain⟨u,hu,ru,_⟩:=r4 x r hr;have hrl:=G.nr r (List.mem_of_getElem? hr);obtain⟨nb,no,nc,_,hA,_,_,hc1⟩:=r3.open (by have:=G.nl;omega);obtain⟨rb,ro,rc,_,rfl,_,_,hc2⟩:=ru.open zz1;simp only[Value.slice.injEq]at hA;have hxl:=(List.getElem?_eq_some_iff.1 hu).1;refine⟨nb,no,rb,ro,rc,hA.1,?_,?_⟩
 ·rw[hc1 x hxl,hu,hrl]
 ·rw[hc2 y zz55]
  obtain⟨z,hz⟩:∃z,r[y]? = some z:=⟨_,List.getElem?_eq_getElem zz1⟩;have e:D.nxt x y=z:=by
   unfold PlanD.nxt nxtL;rw[List.getD_eq_getElem?_getD,List.getD_eq_getElem?_getD,hr];simp[hz]
  simp[i64s,hz,e]
theorem k8G(B:Nat->Prop)(v:Value)(D:PlanD)(x y:Nat)(l:List Nat)(w:World)(hP:PlanV w B v D)(G:Good D)(hx:x<D.nodes)(hy:y<D.nodes)(hl:IsPath D x y l) :
 Calls Tryz.prog 57 #[v,.int .i64 x,.int .i64 y] w fun e w'=>(∃u,e=.returned (.tuple #[u,.bool true]))/\Below w.heap.size w w':=by
 obtain⟨A1,c1,A2,c2,A3,c3,rfl⟩:=hP.shape;have P1:=Ab hP;have HG:=Ab G;have HL:=Ab hl;have hn6:=G.n1;have hlp:=hl.pos;have hlen:=hl.len;have R0:=fun(W:World)=>Row.nil W 3 1
 clear hP G hl;go_enter Tryz.func57,Tryz.ntmps57;go_wp2
 go_loopw [1,8] (fun s1 s8 wr=>∃(k c a:Nat)(cs:List Value)(A5:Option Addr)(g5:Option Nat),k<l.length/\s1=.int .i64 a/\s8=.slice A5 (k+1) c/\a<D.nodes/\k07 (l[k]? = some a)/\k07 (Row wr (.slice A5 (k+1) c) 3 1 (k+1) cs g5/\Below w.heap.size w wr/\(∀b,g5=some b->w.heap.size<b)/\wr.heap[w.heap.size]? = some (pbox D A1 c1 A2 c2 A3 c3))) (fun s1 s8 _=>l.length-lenS s8)
 case atStart=>
  have hn:=heap_alloc_new (w.alloc (pbox D A1 c1 A2 c2 A3 c3)) (.cells #[.int .i64 x] 3);rw[World.size_alloc]at hn;refine⟨0,1,x,[.int .i64 x],_,some (w.heap.size+1),hlp,rfl,rfl,hx,⟨HL.1.first⟩,⟨⟨rfl,.inr ⟨w.heap.size+1,0,1,_,rfl,rfl,hn,zz1,zz6,fun j hj=>by simp⟩⟩,((Below.refl _ w).alloc (Nat.le_refl _) _).alloc zz6 _,fun b hb=>by cases hb;omega,(Below.heap_alloc _ _ _ zz6).trans (heap_alloc_new w _)⟩⟩
 case round=>
  obtain⟨k,c,a,cs,A5,g5,hk,rfl,rfl,ha,HK,R⟩:=hrel;by_cases hay:a=y
  ·subst hay
   go_wp2
   go_ret2
   exact⟨⟨_,rfl⟩,R.1.2.1⟩
  ·have e1:((a:Int) != (y:Int))=true:=by simp;omega
   have hk1:k+1<l.length:=by
    rcases Nat.lt_or_ge (k+1) l.length with h|h
    ·exact h
    ·exfalso
     have h1:=HL.1.last;rw[show l.length-1=k by omega,HK.1]at h1;exact hay (Option.some.inj h1)
   obtain⟨b,hb⟩:∃b,l[k+1]? = some b:=⟨_,List.getElem?_eq_getElem hk1⟩;obtain⟨hbs,hnx,_⟩:=HL.1.step k a b HK.1 hb;have hbn:=k8C hbs;obtain⟨nb,no,rb,ro,rc,rfl,k1,k2⟩:=(P1.1.below R.1.2.1).way HG.1 a y ha hy;rw[hnx]at k2;have b0:wr.cell? ⟨w.heap.size,10,none⟩=some (.slice (some ⟨nb,no,none⟩) D.next.length c3):=(k00 R.1.2.2.2 10).trans rfl;have hnl:(D.next.length:Nat)=D.nodes:=HG.1.nl;have i1:(a:Int)<(D.next.length:Nat):=by omega
   have i2:(y:Int)<(D.nodes:Nat):=zz1
   have HB:=Ac (_/\_/\_) (⟨hbs,hb,hnl⟩);have e3:((k:Int)+1 == (D.nodes:Nat))=false:=zz20
   clear hbs hb hnl hnx;have b1:=fun i=>k00 R.1.2.2.2 i
   go_wp2_with(first
    |(go_at_call 63;refine(k1r B _ D a _ (P1.1.below R.1.2.1) HG.1 ha).mono ?_;rintro e w2 ⟨pb,po,pc,rfl,hr,hpb,hb⟩;have K:=Ac (_/\_/\_) (⟨hr,hpb,hb⟩);clear hr hpb hb)
    |(go_at_call 105;refine(k5P _ _ b _ _ K.1.1 (by have:=HG.1.bl a ha;omega) HB.1.1).mono ?_;rintro e w3 ⟨rfl,rfl⟩)
    |(at_builtin;refine k0z rfl _ _ 29 3 (.int .i64 0) 1 8 rfl Tryz.underlying29 k1o rfl zz7 zz7 (.slice A5 (k+1) c) (k+1) cs [.int .i64 (b:Nat)] g5 (R.1.1.below K.1.2.2) rfl rfl rfl rfl zz34 zz1 ?_;intro v1 w4 g1 R1p O1 G1;have K1:=Ac (_/\_/\_) (⟨R1p,O1,G1⟩);obtain⟨A1',k1,rfl,_⟩:=R1p.size;clear R1p O1 G1))
   have hsz:=R.1.2.1.size;have hlt:=k03 R.1.2.2.2;refine⟨⟨k+1,k1,b,_,A1',g1,zz1,rfl,rfl,hbn,⟨HB.1.2.1⟩,⟨K1.1.1,?_,?_,?_⟩⟩,?_⟩
   ·exact((Only.of_below (P:=fun b=>w.heap.size<=b) (R.1.2.1.trans (K.1.2.2.mono hsz))).then K1.1.2.1 (fun b _ hq=>by have:=R.1.2.2.1 b hq;omega)).toBelow (fun b hb hq=>by omega)
   ·intro b' hb'
    rcases K1.1.2.2 with h|⟨b2,h,hb2⟩
    ·exact R.1.2.2.1 b' (h▸hb')
    ·rw[h]at hb';cases hb';have:=K.1.2.2.size;omega
   ·exact(K1.1.2.1.keep _ (by have:=K.1.2.2.size;omega) (fun h=>by have:=R.1.2.2.1 _ h;omega)).trans ((K.1.2.2.block _ hlt).trans R.1.2.2.2)
   ·show l.length-(k+1+1)<l.length-(k+1)
    omega
end Go.Proofs.YtdopmlopafgonaaGreatDoor.Own
