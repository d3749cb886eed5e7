/- TopOrder: of each flow what came is some of what was injected, in its order (a part of the walks and of the plain laws). -/
import Derived.Test.YtdopmlopafgonaaGreatDoorD0
import Derived.Test.YtdopmlopafgonaaGreatDoorD30
import Derived.Shelf.Slices.In.SortNone
set_option linter.unusedVariables false
set_option linter.unusedSimpArgs false
set_option maxHeartbeats 4000000
set_option maxRecDepth 100000
namespace Go.Proofs.YtdopmlopafgonaaGreatDoor.Own
open Go.RowKit Go.Proofs.YtdopmlopafgonaaGreatDoorW.PrintWords Go.Proofs.YtdopmlopafgonaaGreatDoorW.PrintLast Go.Proofs.YtdopmlopafgonaaGreatDoorW.PrintMore
open Go.Shelf Go.Sort
theorem k9r(p:Option Addr)(cap:Nat)(w:World):Calls Tryz.prog 107 #[.slice p 0 cap] w fun e w'=>e=.returned (.tuple #[])/\w'=w:=Any.slices_Sort_int_none Tryz.sortInts p cap w
def RkOk(D:PlanD)(rk:Nat->Nat->Nat):Prop:=∀u v w,u<D.nodes->v∈D.bs u->w<D.nodes->w≠u->w≠v->D.nxt u w=v->rk v (D.nxt v w)<rk u v
def kd3(D:PlanD)(rk:Nat->Nat->Nat)(m:Nat)(l:List Nat):Prop:=∀i∈l,∃x,D.hops[i]? = some x/\rk x.1 x.2<m
def k7L(D:PlanD)(rk:Nat->Nat->Nat)(m:Nat)(l:List Nat):Prop:=kd3 D rk m l/\l.length<=6
def kbT(D:PlanD)(rk:Nat->Nat->Nat)(m:Nat)(w:World)(e:Ending)(w':World):Prop:=∃V l g,e=.returned V/\Row w' V 3 1 l.length (i64s l) g/\Below w.heap.size w w'/\(∀b,g=some b->w.heap.size<=b)/\k7L D rk m l
theorem k6l(D:PlanD)(p:Nat×Nat):∀k,p∈k51 D k->p.1<k/\p.2∈D.bs p.1
 |0,h=>by simp[k51]at h
 |k+1,h=>by
  rw[k3E]at h;rcases List.mem_append.1 h with h|h
  ·have:=k6l D p k h;exact⟨zz1,this.2⟩
  ·obtain⟨w,hw,rfl⟩:=List.mem_map.1 h
   exact⟨zz6,hw⟩
def Two(w W:World)(D:PlanD)(A1:Option Addr)(c1:Nat)(A2:Option Addr)(c2:Nat)(A3:Option Addr)(c3 u v:Nat):Prop:=W.heap[w.heap.size]? = some (pbox D A1 c1 A2 c2 A3 c3)/\W.heap[w.heap.size+1]? = some (.cells #[.int .i64 u,.int .i64 v] 90 (0,0))
theorem k7j(B:Nat->Prop)(vp vh:Value)(D:PlanD)(u v:Nat)(gh:Option Nat)(rk:Nat->Nat->Nat)(w:World)(hP:PlanV w B vp D)(G:Good D)(hR:Row w vh 90 2 D.hops.length (k0d D.hops) gh)(huv:(u,v)∈D.hops)(hrk:RkOk D rk) :
 Calls Tryz.prog 106 #[vp,.agg #[.int .i64 u,.int .i64 v],vh] w (kbT D rk (rk u v) w):=by
 obtain⟨A1,c1,A2,c2,A3,c3,rfl⟩:=hP.shape;obtain⟨AH,ch,rfl,_⟩:=hR.size;have hlen:D.hops.length<=100:=by have:=k1E D G D.nodes (Nat.le_refl _);have:=G.n1;unfold PlanD.hops;omega
 obtain⟨hu,hvu⟩:=k6l D _ _ huv;have hu:u<D.nodes:=hu;have hvu:v∈D.bs u:=hvu;have hv:v<D.nodes:=k8C hvu;have P1:=Ab hP;have HH:=Ab hR;have HG:=Ab G;have hn6:=G.n1;have HRK:=Ac (_/\_) (⟨hrk,hvu⟩);clear hP hR G hrk huv hvu;go_enter Tryz.func106,Tryz.ntmps106;go_wp2
 go_loopw [7,12] (fun s7 s12 wr=>∃(k L c:Nat)(l:List Nat)(A5:Option Addr)(g5:Option Nat),k<=D.nodes/\s12=.int .i64 k/\s7=.slice A5 L c/\L<=k/\k07 (L=l.length/\kd3 D rk (rk u v) l)/\k07 (Row wr (.slice A5 L c) 3 1 L (i64s l) g5/\Below w.heap.size w wr/\(∀b,g5=some b->w.heap.size+1<b)/\Two w wr D A1 c1 A2 c2 A3 c3 u v)) (fun _ s12 _=>D.nodes-ixOf s12)
 case atStart=>
  have hn:=heap_alloc_new (w.alloc (pbox D A1 c1 A2 c2 A3 c3)) (.cells #[.int .i64 u,.int .i64 v] 90);rw[World.size_alloc]at hn;exact⟨0,0,0,[],none,none,zz1,rfl,rfl,zz1,⟨rfl,fun i hi=>(by cases hi)⟩,⟨Row.nil _ _ _,((Below.refl _ w).alloc (Nat.le_refl _) _).alloc zz6 _,zz6,(Below.heap_alloc _ _ _ zz6).trans (heap_alloc_new w _),hn⟩⟩
 case round=>
  obtain⟨k,L,c,l,A5,g5,hk,rfl,rfl,hLk,HL,R⟩:=hrel;by_cases hlt:k<D.nodes
  ·have e1:(k:Int)<(D.nodes:Int):=by omega
   have x0:wr.cell? ⟨w.heap.size+1,0,none⟩=some (.int .i64 u):=(k00 R.1.2.2.2.2 0).trans rfl;have x1:wr.cell? ⟨w.heap.size+1,1,none⟩=some (.int .i64 v):=(k00 R.1.2.2.2.2 1).trans rfl;by_cases hku:k=u
   ·subst hku
    have e2:((k:Int) == (k:Int))=true:=beq_self_eq_true _;go_wp2
    go_quiet (fail)
    go_wp2;refine⟨⟨k+1,L,c,l,A5,g5,zz1,rfl,rfl,zz1,HL,⟨R.1.1.drewN _,k0e R.1.2.1 _,R.1.2.2.1,R.1.2.2.2⟩⟩,?_⟩;exact zz21
   have e2:((k:Int) == (u:Int))=false:=beq_eq_false_iff_ne.mpr zz1;by_cases hkv:k=v
   ·subst hkv
    have e3:((k:Int) == (k:Int))=true:=beq_self_eq_true _;go_wp2
    go_quiet (fail)
    go_wp2;refine⟨⟨k+1,L,c,l,A5,g5,zz1,rfl,rfl,zz1,HL,⟨R.1.1.drewN _,k0e R.1.2.1 _,R.1.2.2.1,R.1.2.2.2⟩⟩,?_⟩;exact zz21
   have e3:((k:Int) == (v:Int))=false:=beq_eq_false_iff_ne.mpr zz1;obtain⟨nb,no,rb0,ro0,rc0,e9,k1,k2⟩:=(P1.1.below R.1.2.1).way HG.1 u k hu hlt;subst e9;obtain⟨nb',no',rb,ro,rc,e9,k3,k4⟩:=(P1.1.below R.1.2.1).way HG.1 v k hv hlt;simp only[Option.some.injEq,Addr.mk.injEq,and_true]at e9;obtain⟨rfl,rfl⟩:=e9;have hnl:(D.next.length:Nat)=D.nodes:=HG.1.nl;have i1:(u:Int)<(D.next.length:Nat):=zz1
   have i2:(v:Int)<(D.next.length:Nat):=zz1
   have b10:wr.cell? ⟨w.heap.size,10,none⟩=some (.slice (some ⟨nb,no,none⟩) D.next.length c3):=(k00 R.1.2.2.2.1 10).trans rfl;by_cases hx:D.nxt u k=v
   ·rw[hx]at k2
    have HS:=Sat.mk (S:=fun(W:World)=>W.cell? ⟨w.heap.size,10,none⟩=some (.slice (some ⟨nb,no,none⟩) D.next.length c3)/\W.cell? ⟨w.heap.size+1,1,none⟩=some (.int .i64 v)/\W.cell? ⟨nb,no+v,none⟩=some (.slice (some ⟨rb,ro,none⟩) D.nodes rc)/\W.cell? ⟨rb,ro+k,none⟩=some (.int .i64 (D.nxt v k:Nat))) (w:=wr) (⟨b10,x1,k3,k4⟩);have HKK:=Ac (_/\_/\_/\_) (⟨hku,hkv,hx,hnl⟩);have e4:((v:Int) != (v:Int))=false:=zz6
    clear hx hku hkv hnl;go_wp2
    go_quiet (fail)
    go_wp2;refine WpL.rg HS 14 zz2 ?_;refine WpL.T 0 [] HS.1 ?_;refine WpL.T 1 [] HS.1 ?_;refine WpL.T 2 [] HS.1 ?_;refine WpL.T 3 [] HS.1 ?_;refine WpL.T 4 [] HS.1 ?_;refine WpL.T 5 [] HS.1 ?_;refine WpL.T 6 [] HS.1 ?_;refine WpL.T 7 [] HS.1 ?_;refine WpL.T 8 [] HS.1 ?_;refine WpL.T 9 [] HS.1 ?_;refine WpL.T 10 [] HS.1 ?_;refine WpL.T 11 [] HS.1 ?_;refine WpL.T 12 [] HS.1 ?_;refine WpL.one (i:=13) zz2 rfl (fun K hK=>?_);go_simp;refine(kbS _ D.hops v (D.nxt v k) gh _ (((HH.1.below R.1.2.1).drewN _).drew) zz1).mono ?_;rintro e w3 ⟨r,rfl,hr,hb⟩;have B3:=Ac (Below wr.heap.size wr w3) (undrewN (undrew hb));have HS3:=HS.to w3 zz36;have HR:=Ab hr;clear hb hr;simp only[];refine hK.out _ _ (fun _=>HS3.1) ?_;clear hK K
    try refine Sm ?_
    refine WpL.one (i:=14) zz2 rfl (fun K hK=>?_);go_simp;refine hK.out _ _ (fun h=>absurd rfl h) ?_;clear hK K
    try refine Sm ?_
    refine WpL.done zz2 ?_ _;have T3:=Ac (Two w w3 D A1 c1 A2 c2 (some ⟨nb,no,none⟩) c3 u v) (⟨(B3.1.block _ (k03 R.1.2.2.2.1)).trans R.1.2.2.2.1,(B3.1.block _ (k03 R.1.2.2.2.2)).trans R.1.2.2.2.2⟩);have L3:=Ab (R.1.2.1.trans (B3.1.mono R.1.2.1.size));rcases HR.1 with⟨i,rfl,hi⟩|⟨rfl,_⟩
    ·have e5:(0:Int)<=(i:Int):=by omega
     have HI:=Ab hi;have hil:i<D.hops.length:=(List.getElem?_eq_some_iff.1 hi).1;clear hi
     go_wp2_with(at_builtin;refine k0z rfl _ _ 29 3 (.int .i64 0) 1 8 rfl Tryz.underlying29 k1o rfl zz7 zz7 (.slice A5 L c) L (i64s l) [.int .i64 (i:Nat)] g5 (R.1.1.below B3.1) rfl rfl rfl rfl zz34 zz1 ?_;intro v1 w4 g1 R1p O1 G1;have K1:=Ac (_/\_/\_) (⟨R1p,O1,G1⟩);obtain⟨A1',k1,rfl,_⟩:=R1p.size;clear R1p O1 G1)
     refine⟨⟨k+1,L+1,k1,l++[i],A1',g1,zz1,rfl,rfl,zz1,⟨by have:=HL.1.1;simp;omega,fun j hj=>?_⟩,⟨by have h:=K1.1.1;simpa[i64s] using h,?_,?_,?_,?_⟩⟩,?_⟩
     ·rcases List.mem_append.1 hj with hj|hj
      ·exact HL.1.2 j hj
      ·simp at hj;subst hj
       refine⟨_,HI.1,?_⟩;exact HRK.1.1 u v k hu HRK.1.2 hlt HKK.1.1 HKK.1.2.1 HKK.1.2.2.1
     ·exact((Only.of_below (P:=fun b=>w.heap.size<=b) L3.1).then K1.1.2.1 (fun b _ hq=>by have:=R.1.2.2.1 b hq;omega)).toBelow (fun b hb hq=>by omega)
     ·intro b' hb'
      rcases K1.1.2.2 with h|⟨b2,h,hb2⟩
      ·exact R.1.2.2.1 b' (h▸hb')
      ·rw[h]at hb';cases hb';have:=k03 T3.1.2;omega
     ·exact(K1.1.2.1.keep _ (k03 T3.1.1) (fun h=>by have:=R.1.2.2.1 _ h;omega)).trans T3.1.1
     ·exact(K1.1.2.1.keep _ (k03 T3.1.2) (fun h=>by have:=R.1.2.2.1 _ h;omega)).trans T3.1.2
     ·show D.nodes-ixOf (.int .i64 ((k:Int)+1))<D.nodes-ixOf (.int .i64 (k:Int))
      simp only[ixOf];exact zz1
    ·go_wp2
     refine⟨⟨k+1,L,c,l,A5,g5,zz1,rfl,rfl,zz1,HL,⟨R.1.1.below B3.1,L3.1,R.1.2.2.1,T3.1⟩⟩,?_⟩;exact zz21
   ·have e4:((D.nxt u k:Int) != (v:Int))=true:=by simp;omega
    clear hnl;go_wp2
    go_quiet (fail)
    go_wp2;refine⟨⟨k+1,L,c,l,A5,g5,zz1,rfl,rfl,zz1,HL,⟨R.1.1.drewN _,k0e R.1.2.1 _,R.1.2.2.1,R.1.2.2.2⟩⟩,?_⟩;exact zz21
  ·have e1:¬(k:Int)<(D.nodes:Int):=by omega
   rcases Nat.eq_zero_or_pos L with hz|hz
   ·subst hz
    have hl0:l=[]:=List.eq_nil_of_length_eq_zero (by have:=HL.1.1;omega);have Hl0:=Ab hl0;clear hl0
    go_wp2_with(first
     |(go_at_call 107;refine(k9r _ _ _).mono ?_;rintro e w2 ⟨rfl,rfl⟩)
     |(go_at_call 108;refine(k6D _ _ _).mono ?_;rintro e w3 ⟨rfl,rfl⟩))
    go_ret;exact⟨.slice A5 0 c,[],g5,eset _ _ rfl,by have h:=R.1.1;rw[Hl0.1]at h;exact h,R.1.2.1,fun b hb=>by have:=R.1.2.2.1 b hb;omega,fun i hi=>(by cases hi),zz6⟩
   ·obtain⟨pb,po,pc,hg5,hA5,hcap5,hfz,hcell⟩:=R.1.1.open hz
    simp only[Value.slice.injEq]at hA5;obtain⟨rfl,-,rfl⟩:=hA5;have hll:=HL.1.1;have hH:Holds (Value.int .i64) wr pb po (l.map (fun(n:Nat)=>(n:Int))).toArray:=fun j hj=>by
     have hj':j<l.length:=zz83
     refine⟨(hcell j (by simp[i64s];exact hj')).trans ?_,hfz _⟩;simp[i64s,hj']
    have hsort:=k5z pb po c (l.map (fun(n:Nat)=>(n:Int))) wr hH (R.1.1.lt hg5) zz20;rw[List.length_map,<- hll]at hsort;clear hfz hcell hH;obtain⟨S,hS⟩:∃S:List Int,S=(l.map (fun(n:Nat)=>(n:Int))).mergeSort fun x y=>decide (x<=y):=⟨_,rfl⟩
    have hSl:S.length=L:=by rw[hS,List.length_mergeSort,List.length_map,hll]
    rw[<- hS]at hsort;have hSm:∀x∈S,∃i∈l,x=(i:Nat):=fun x hx=>by
     rw[hS]at hx;obtain⟨i,hi,rfl⟩:=List.mem_map.1 (((List.mergeSort_perm _ _).mem_iff).1 hx);exact⟨i,hi,rfl⟩
    have HSm:=Ac (_/\_) (⟨hSm,hSl⟩);have Hll:=Ab hll;clear hS hSm hSl hll;have KR:=Ac (_/\_) (⟨R.1,hg5⟩)
    go_wp2_with(first
     |(go_at_call 107;refine hsort.mono ?_;clear hsort;rintro e w2 ⟨rfl,n2,os,hw2⟩;obtain⟨R2,O2⟩:=k7r (k:=n2) (os:=os) S (hg5▸R.1.1) hz HSm.1.2;rw[<- hw2]at R2 O2;have K2:=Ac (_/\_) (⟨R2,O2⟩);clear R2 O2 hw2)
     |(go_at_call 108;refine(k5f pb po c S w2 K2.1.1 hz HSm.1.2).mono ?_;rintro e w3 ⟨rfl,R3,O3⟩;have K3:=Ac (_/\_) (⟨R3,O3⟩);clear R3 O3))
    go_ret;have hpb:=KR.1.1.2.2.1 pb KR.1.2;have hnn:∀x∈Lib.compact S,∃i∈l,x=(i:Nat):=fun x hx=>HSm.1.1 x (k7H S x hx)
    have hmm:i64s ((Lib.compact S).map Int.toNat)=(Lib.compact S).map (Value.int .i64):=by
     unfold i64s;rw[List.map_map];refine List.map_congr_left fun x hx=>?_
     obtain⟨i,_,rfl⟩:=hnn x hx;exact zz6
    refine⟨.slice (some ⟨pb,po,none⟩) (Lib.compact S).length c,(Lib.compact S).map Int.toNat,some pb,eset _ _ rfl,?_,?_,fun b hb=>by cases hb;omega,fun i hi=>?_,?_⟩
    ·rw[hmm,List.length_map];exact K3.1.1
    ·exact(((Only.of_below (P:=fun b=>b=pb) KR.1.1.2.1).trans K2.1.2).trans K3.1.2).toBelow (fun b hb e=>by omega)
    ·obtain⟨x,hx,rfl⟩:=List.mem_map.1 hi
     obtain⟨j,hj,rfl⟩:=hnn x hx;exact HL.1.2 _ zz83
    ·have h1:=Lib.compact_length_le S
     have h2:=HSm.1.2;rw[List.length_map];exact zz1
end Go.Proofs.YtdopmlopafgonaaGreatDoor.Own
namespace Go.Proofs.YtdopmlopafgonaaGreatDoor.Own
open Go.RowKit Go.Proofs.YtdopmlopafgonaaGreatDoorW.PrintWords Go.Proofs.YtdopmlopafgonaaGreatDoorW.PrintLast Go.Proofs.YtdopmlopafgonaaGreatDoorW.PrintMore
theorem k45{D:PlanD}(G:Good D):0<D.hops.length:=by
 obtain⟨x,hx⟩:=List.exists_mem_of_ne_nil _ (G.bn 0 (by have:=G.n0;omega));have:(0,x)∈D.hops:=List.mem_flatMap.2 ⟨0,by have:=G.n0;simp;omega,List.mem_map.2 ⟨x,hx,rfl⟩⟩;exact List.length_pos_of_mem this
theorem kah{D:PlanD}(G:Good D):D.hops.length<=30:=by
 have:=k1E D G D.nodes (Nat.le_refl _);have:=G.n1;unfold PlanD.hops;exact zz1
theorem k4c(W:World)(z:Value)(T n:Nat)(hz:z.cells=#[z]):Row (W.alloc (.cells (madeCells z.cells (n*1)) T)) (.slice (some ⟨W.heap.size,0,none⟩) n n) T 1 n (List.replicate n z) (some W.heap.size):=by
 refine⟨zz6,.inr ⟨_,0,n,_,rfl,rfl,heap_alloc_new W _,Nat.le_refl _,by rw[hz];simp[size_madeCells],fun j hj=>?_⟩⟩;simp only[List.length_replicate]at hj;rw[hz];unfold madeCells;rw[Array.getElem?_map,Array.getElem?_range,if_pos zz83];simp[Nat.mod_one,hj]
theorem k0j(w:World)(b i:Nat)(v:Value):Only (fun x=>x=b) w (w.setCell ⟨b,i,none⟩ v):=Only.set (P:=fun x=>x=b) (Only.refl _ w) (p:=⟨b,i,none⟩) (fun _=>rfl) v
def WRow(D:PlanD)(rk:Nat->Nat->Nat)(W:World)(lo m:Nat)(V:Value):Prop:=∃l g,Row W V 3 1 l.length (i64s l) g/\(∀x,g=some x->lo<x)/\k7L D rk m l
def kd9(D:PlanD)(rk:Nat->Nat->Nat)(W:World)(wb k:Nat):Prop:=∃vs,Row W (.slice (some ⟨wb,0,none⟩) D.hops.length D.hops.length) 29 1 D.hops.length vs (some wb)/\∀i x,i<k->D.hops[i]? = some x->∃V,vs[i]? = some V/\WRow D rk W wb (rk x.1 x.2) V
theorem WRow.only{D:PlanD}{rk:Nat->Nat->Nat}{W W':World}{lo m:Nat}{V:Value}(h:WRow D rk W lo m V)(k:Only (fun b=>b<=lo) W W'):WRow D rk W' lo m V:=by
 obtain⟨l,g,r,hg,hl⟩:=h;exact⟨l,g,r.only k (fun b e=>by have:=hg b e;omega),hg,hl⟩
theorem k7B(B:Nat->Prop)(v:Value)(D:PlanD)(rk:Nat->Nat->Nat)(w:World)(hP:PlanV w B v D)(G:Good D)(hrk:RkOk D rk) :
 Calls Tryz.prog 58 #[v] w fun e w'=>∃wb,e=.returned (.slice (some ⟨wb,0,none⟩) D.hops.length D.hops.length)/\kd9 D rk w' wb D.hops.length/\Below w.heap.size w w'/\w.heap.size<=wb:=by
 obtain⟨A1,c1,A2,c2,A3,c3,rfl⟩:=hP.shape;obtain⟨i0,hi,hz0,hz1,hz2⟩:=info_parts k7a;obtain⟨n,hn⟩:∃n,n=D.hops.length:=⟨_,rfl⟩;have hn0:0<n:=by rw[hn];exact k45 G
 have hn30:n<=30:=by rw[hn];exact kah G
 have hmk:∀W:World,(Instr.makeSlice 30 (.int .i64 n) (.int .i64 n)).run Tryz.prog W=.ok (.slice (some ⟨W.heap.size,0,none⟩) n n) (W.alloc (.cells (madeCells (Value.slice none 0 0).cells (n*1)) 29)):=fun W=>by
  have:=run_make (P:=Tryz.prog) W 30 29 i0 _ Tryz.underlying30 hi hz0 .i64 .i64 n n zz1 zz1 zz91 zz1;exact zz53
 have P1:=Ab hP;have HG:=Ab G;have HRK:=Ab hrk;have HN:=Ab hn;rw[<- hn];have L1:=Ab ((Below.refl w.heap.size w).alloc (Nat.le_refl _) (pbox D A1 c1 A2 c2 A3 c3));have Z1:=Ab (heap_alloc_new w (pbox D A1 c1 A2 c2 A3 c3));clear hP G hrk hn hi hz0 hz1 hz2;have step:∀{W W':World},Below w.heap.size w W->Below W.heap.size W W'->Below w.heap.size w W':=fun h k=>h.trans (k.mono h.size)
 go_enter Tryz.func58,Tryz.ntmps58
 go_wp2_with(first
  |(go_at_call 56;refine(k5g B _ D _ (P1.1.below L1.1) HG.1).mono ?_;rintro e w2 ⟨rfl,hb⟩;have L2:=Ac (_/\_) (⟨step L1.1 hb,(hb.block _ zz6).trans Z1.1⟩);have b0:=fun i=>k00 L2.1.2 i;clear hb)
  |(go_at_call 37;refine(k2x B _ D _ (P1.1.below L2.1.1) HG.1).mono ?_;rintro e w3 ⟨V,gh,rfl,hr,hb,hgh⟩;have L3:=Ac (_/\_/\_/\_) (⟨step L2.1.1 hb,(hb.block _ (k03 L2.1.2)).trans L2.1.2,hr,hgh⟩);rw[<- HN.1]at hr;obtain⟨AH,cH,rfl,_⟩:=hr.size;clear hb hr hgh b0))
 obtain⟨s3,hs3⟩:∃s,s=w3.heap.size:=⟨_,rfl⟩;clear hmk;rw[<- hs3];have HS3:=Ab hs3;clear hs3
 go_loopw [17] (fun s17 wr=>∃k:Nat,k<=n/\s17=.int .i64 k/\k07 (kd9 D rk wr s3 k/\Below w3.heap.size w3 wr/\wr.heap[w.heap.size]? = some (pbox D A1 c1 A2 c2 A3 c3))) (fun s17 _=>n-ixOf s17)
 case atStart=>
  refine⟨0,zz1,rfl,⟨⟨List.replicate n (.slice none 0 0),?_,fun i x hi=>absurd hi zz1⟩,(Below.refl _ w3).alloc (Nat.le_refl _) _,(Below.heap_alloc _ _ _ (k03 L3.1.2.1)).trans L3.1.2.1⟩⟩;have h:=k4c w3 (.slice none 0 0) 29 n rfl;rw[<- HS3.1]at h;rw[<- HN.1];rw[Nat.mul_one]at h;exact h
 case round=>
  obtain⟨k,hk,rfl,R⟩:=hrel;by_cases hlt:k<n
  ·have e1:(k:Int)<(n:Int):=by omega
   obtain⟨⟨x,y⟩,hxy⟩:∃p,D.hops[k]? = some p:=⟨_,List.getElem?_eq_getElem zz32⟩;have hH:Row wr (.slice AH n cH) 90 2 n (k0d D.hops) gh:=by have h:=L3.1.2.2.1.below R.1.2.1;rw[<- HN.1]at h;exact h
   obtain⟨eb,eo,ec,hge,hA,_,_,hcell⟩:=hH.open hn0;simp only[Value.slice.injEq]at hA;obtain⟨rfl,-,rfl⟩:=hA;obtain⟨g0,g1⟩:=k0M _ _ _ hxy;have hcl:=k18 D.hops;have c0:wr.cell? ⟨eb,eo+k*2,none⟩=some (.int .i64 (x:Nat)):=(hcell _ zz32).trans g0;have c1':wr.cell? ⟨eb,eo+k*2+1,none⟩=some (.int .i64 (y:Nat)):=(hcell (k*2+1) zz32).trans g1;have b0:=fun i=>k00 R.1.2.2 i
   have hz:=k03 R.1.2.2;obtain⟨vs,rvs,hvs⟩:=id R.1.1;rw[<- HN.1]at rvs;obtain⟨ub,hub⟩:∃u,vs[k]? = some u:=⟨_,List.getElem?_eq_getElem (by have:=rvs.1;omega)⟩;obtain⟨_,_,_,hs5,hA5,_,hfz,hcs⟩:=rvs.open hn0;simp only[Value.slice.injEq,Option.some.injEq,Addr.mk.injEq,and_true,true_and]at hA5;obtain⟨⟨rfl,rfl⟩,rfl⟩:=hA5;have hcs:=(hcs k (by have:=rvs.1;omega)).trans hub;rw[Nat.zero_add]at hcs;have hfk:=hfz k;have hs3l:=rvs.lt rfl;have RV:=Ac (_/\_/\_) (⟨rvs,hvs,hub⟩);clear rvs hvs hub hfz hs5;have HX:=Ab hxy;have HH:=Ab hH;clear hcell g0 g1 hge hxy hH hcl;have W1:=Ac (Below wr.heap.size wr (wr.alloc (.cells #[.int .i64 (x:Nat),.int .i64 (y:Nat)] 90))) ((Below.refl _ wr).alloc (Nat.le_refl _) _)
   go_wp2_with fail
   go_at_call 106;refine(k7j B _ _ D x y gh rk _ (P1.1.below ((step L3.1.1 R.1.2.1).alloc (by have:=(step L3.1.1 R.1.2.1).size;omega) _)) HG.1 (by rw[<- HN.1];exact HH.1.below W1.1) (List.mem_of_getElem? HX.1) HRK.1).mono ?_;rintro e w5 ⟨V,l,g,rfl,hr,hb,hg,hl⟩;have KA:=Ac (_/\_/\_/\_) (⟨hr,hb,hg,hl⟩);have ck:=(hb.cell (p:=⟨s3,k,none⟩) zz20).trans ((W1.1.cell (p:=⟨s3,k,none⟩) hs3l).trans hcs);have fk:=(hb.frozen (p:=⟨s3,k,none⟩) zz20).trans ((W1.1.frozen (p:=⟨s3,k,none⟩) hs3l).trans hfk);obtain⟨AV,cV,rfl,_⟩:=hr.size;clear hr hb hg hl;go_wp2;have L5:=Ab (W1.1.trans (KA.1.2.1.mono zz6));have hVb:∀b,g=some b->s3<b:=fun b e=>by have:=KA.1.2.2.1 b e;simp at this;omega
   refine⟨⟨k+1,zz1,rfl,⟨?_,?_,?_⟩⟩,?_⟩
   ·refine⟨vs.set k (.slice AV l.length cV),?_,fun i p hi hp=>?_⟩
    ·have h:=(RV.1.1.below L5.1).set k (by have:=RV.1.1.1;omega) (.slice AV l.length cV)
     rw[Nat.zero_add]at h;rw[<- HN.1];exact h
    ·by_cases e:i=k
     ·rw[e,HX.1]at hp
      cases hp;exact⟨.slice AV l.length cV,by rw[e,List.getElem?_set_self (by have:=RV.1.1.1;omega)],l,g,KA.1.1.only (k0j _ s3 k _) (fun b e'=>by have:=hVb b e';omega),hVb,KA.1.2.2.2⟩
     ·obtain⟨V',hV',hw⟩:=RV.1.2.1 i p zz1 hp
      refine⟨V',by rw[List.getElem?_set_ne (fun h=>e h.symm)];exact hV',(hw.only (Only.of_below L5.1)).only ((k0j _ s3 k _).mono (fun b _ e=>Nat.le_of_eq e))⟩
   ·exact((R.1.2.1.trans (L5.1.mono R.1.2.1.size)).setCell (by have:=HS3.1;simp;omega) _)
   ·have:s3≠w.heap.size:=by have:=HS3.1;have:=k03 L3.1.2.1;omega
    exact(Below.heap_setCell _ _ _ _ (by simpa using Ne.symm this)).trans ((L5.1.block _ hz).trans R.1.2.2)
   ·show n-ixOf (.int .i64 ((k:Int)+1))<n-ixOf (.int .i64 (k:Int))
    simp only[ixOf];exact zz1
  ·have e1:¬(k:Int)<(n:Int):=by omega
   obtain rfl:k=n:=by omega
   go_wp2;go_ret;have:=HS3.1;have:=L3.1.1.size;have h:=R.1.1;exact⟨s3,eset _ _ rfl,by have h:=R.1.1;rw[HN.1]at h;rw[HN.1];exact h,step L3.1.1 R.1.2.1,zz1⟩
def rkOf(D:PlanD)(rk:Nat->Nat->Nat)(i:Nat):Nat:=match D.hops[i]? with|some x=>rk x.1 x.2|none=>0
def Grew(zs ys:List Nat):Prop:=ys.length=zs.length/\∀(j a:Nat),zs[j]? = some a->ys[j]? = some a\/(a=0/\ys[j]? = some 2)
theorem Grew.refl(zs:List Nat):Grew zs zs:=⟨rfl,fun _ _ h=>.inl h⟩
theorem Grew.trans{a b c:List Nat}(h:Grew a b)(k:Grew b c):Grew a c:=⟨k.1.trans h.1,fun j x hx=>by
 rcases h.2 j x hx with h1|⟨h1,h2⟩
 ·exact k.2 j x h1
 ·refine .inr ⟨h1,?_⟩
  rcases k.2 j 2 h2 with h3|⟨h3,_⟩
  ·exact h3
  ·cases h3⟩
theorem Grew.le{zs ys:List Nat}(h:Grew zs ys)(hb:∀(j a:Nat),zs[j]? = some a->a<=2):∀(j a:Nat),ys[j]? = some a->a<=2:=fun j a hj=>by
 have hl:=(List.getElem?_eq_some_iff.1 hj).1;obtain⟨x,hx⟩:∃x,zs[j]? = some x:=⟨_,List.getElem?_eq_getElem (by rw[<- h.1];exact hl)⟩;rcases h.2 j x hx with h1|⟨_,h1⟩
 ·rw[h1]at hj;cases hj;exact hb j _ hx
 ·rw[h1]at hj;cases hj;omega
theorem Grew.one{zs ys:List Nat}(h:Grew zs ys){j:Nat}(hj:ys[j]? = some 1):zs[j]? = some 1:=by
 have hl:=(List.getElem?_eq_some_iff.1 hj).1;obtain⟨x,hx⟩:∃x,zs[j]? = some x:=⟨_,List.getElem?_eq_getElem (by rw[<- h.1];exact hl)⟩;rcases h.2 j x hx with h1|⟨_,h1⟩
 ·rw[h1]at hj;cases hj;exact hx
 ·rw[h1]at hj;cases hj
def WOut(D:PlanD)(rk:Nat->Nat->Nat)(W:World)(wb ab:Nat):Prop:=wb≠ab/\∃vs,Row W (.slice (some ⟨wb,0,none⟩) D.hops.length D.hops.length) 29 1 D.hops.length vs (some wb)/\∀(i:Nat)(x:Nat×Nat),D.hops[i]? = some x->∃V l g,vs[i]? = some V/\Row W V 3 1 l.length (i64s l) g/\g≠some ab/\k7L D rk (rk x.1 x.2) l
theorem WOut.only{D:PlanD}{rk:Nat->Nat->Nat}{W W':World}{wb ab:Nat}(h:WOut D rk W wb ab)(k:Only (fun b=>b=ab) W W'):WOut D rk W' wb ab:=by
 obtain⟨h1,vs,r,hr⟩:=h;refine⟨h1,vs,r.only k (fun b e=>by cases e;exact h1),fun i x hx=>?_⟩;obtain⟨V,l,g,hV,rV,hg,hl⟩:=hr i x hx;exact⟨V,l,g,hV,rV.only k (fun b e e2=>hg (by rw[e,e2])),hg,hl⟩
def MkAt(D:PlanD)(rk:Nat->Nat->Nat)(W:World)(m ab wb:Nat)(zs:List Nat):Prop:=m≠ab/\W.heap[m]? = some (.cells #[.slice (some ⟨ab,0,none⟩) D.hops.length D.hops.length,.slice (some ⟨wb,0,none⟩) D.hops.length D.hops.length] 128 (0,0))/\Row W (.slice (some ⟨ab,0,none⟩) D.hops.length D.hops.length) 3 1 D.hops.length (i64s zs) (some ab)/\WOut D rk W wb ab
theorem kaE(l:List Nat)(i x:Nat):i64s (l.set i x)=(i64s l).set i (.int .i64 (x:Nat)):=by simp[i64s,List.map_set]
theorem MkAt.set{D:PlanD}{rk:Nat->Nat->Nat}{W:World}{m ab wb:Nat}{zs:List Nat}(h:MkAt D rk W m ab wb zs)(i x:Nat)(hi:i<D.hops.length):MkAt D rk (W.setCell ⟨ab,i,none⟩ (.int .i64 (x:Nat))) m ab wb (zs.set i x):=by
 obtain⟨h1,h2,h3,h4⟩:=h;have hl:(i64s zs).length=D.hops.length:=by have:=h3.1;omega
 refine⟨h1,(Below.heap_setCell _ _ _ _ h1).trans h2,?_,h4.only (k0j _ _ _ _)⟩;have h:=h3.set i zz1 (.int .i64 (x:Nat));rw[Nat.zero_add]at h;rw[kaE];exact h
theorem MkAt.len{D:PlanD}{rk:Nat->Nat->Nat}{W:World}{m ab wb:Nat}{zs:List Nat}(h:MkAt D rk W m ab wb zs):zs.length=D.hops.length:=by have:=h.2.2.1.1;simpa[i64s] using this
theorem MkAt.at{D:PlanD}{rk:Nat->Nat->Nat}{W:World}{m ab wb:Nat}{zs:List Nat}(h:MkAt D rk W m ab wb zs)(i a:Nat)(hi:zs[i]? = some a):W.cell? ⟨m,0,none⟩=some (.slice (some ⟨ab,0,none⟩) D.hops.length D.hops.length)/\W.cell? ⟨ab,i,none⟩=some (.int .i64 (a:Nat))/\W.frozen? ⟨ab,i,none⟩=false:=by
 have hlt:i<zs.length:=(List.getElem?_eq_some_iff.1 hi).1;have hl:=h.len;obtain⟨_,_,_,hs,hA,_,hfz,hc⟩:=h.2.2.1.open zz1;simp only[Value.slice.injEq,Option.some.injEq,Addr.mk.injEq,and_true,true_and]at hA;obtain⟨⟨rfl,rfl⟩,rfl⟩:=hA;refine⟨(k00 h.2.1 0).trans rfl,?_,hfz i⟩;have:=hc i zz55;rw[Nat.zero_add]at this;rw[this];simp[i64s,hi]
theorem MkAt.wait{D:PlanD}{rk:Nat->Nat->Nat}{W:World}{m ab wb:Nat}{zs:List Nat}(h:MkAt D rk W m ab wb zs)(i:Nat)(hi:i<D.hops.length):W.cell? ⟨m,1,none⟩=some (.slice (some ⟨wb,0,none⟩) D.hops.length D.hops.length)/\∃A c l g,W.cell? ⟨wb,i,none⟩=some (.slice A l.length c)/\Row W (.slice A l.length c) 3 1 l.length (i64s l) g/\g≠some ab/\k7L D rk (rkOf D rk i) l:=by
 obtain⟨_,h2,_,_,vs,r,hr⟩:=h;obtain⟨x,hx⟩:∃x,D.hops[i]? = some x:=⟨_,List.getElem?_eq_getElem hi⟩;obtain⟨V,l,g,hV,rV,hg,hl⟩:=hr i x hx;obtain⟨A,c,rfl,_⟩:=rV.size;obtain⟨_,_,_,hs,hA,_,hfz,hc⟩:=r.open zz1;simp only[Value.slice.injEq,Option.some.injEq,Addr.mk.injEq,and_true,true_and]at hA;obtain⟨⟨rfl,rfl⟩,rfl⟩:=hA;have:=hc i (by have:=r.1;omega);rw[Nat.zero_add,hV]at this;refine⟨(k00 h2 1).trans rfl,A,c,l,g,this,rV,hg,?_⟩;unfold rkOf;rw[hx];exact hl
def kc4(D:PlanD)(rk:Nat->Nat->Nat)(m ab wb i:Nat)(zs:List Nat)(W:World)(e:Ending)(w':World):Prop:=e=.returned (.bool false)/\∃ys,Grew zs ys/\ys[i]? = some 2/\MkAt D rk w' m ab wb ys/\Only (fun b=>b=ab) W w'
theorem k4D(D:PlanD)(rk:Nat->Nat->Nat)(m ab wb:Nat)(hn30:D.hops.length<=30):∀(r i:Nat)(zs:List Nat)(W:World),rkOf D rk i<r->zs[i]? = some 0->(∀j:Nat,zs[j]? = some 1->rkOf D rk i<rkOf D rk j)->(∀(j a:Nat),zs[j]? = some a->a<=2)->MkAt D rk W m ab wb zs ->
 Calls Tryz.prog 59 #[.pointer (some ⟨m,0,none⟩),.int .i64 i] W (kc4 D rk m ab wb i zs W)
 |0,i,zs,W,h,_,_,_,_=>absurd h zz1
 |r+1,i,zs,W,hr,hi,hone,hle,M=>by
  obtain⟨n,hn⟩:∃n,n=D.hops.length:=⟨_,rfl⟩;have hin:i<n:=by have:=(List.getElem?_eq_some_iff.1 hi).1;have:=M.len;omega
  have i1:(i:Int)<(n:Int):=zz1
  obtain⟨c0,c1,c2⟩:=M.at i 0 hi;have M1:MkAt D rk (W.setCell ⟨ab,i,none⟩ (.int .i64 1)) m ab wb (zs.set i 1):=M.set i 1 zz1;have O1:Only (fun b=>b=ab) W (W.setCell ⟨ab,i,none⟩ (.int .i64 1)):=k0j _ _ _ _;have HM:=Ab M;have IH:=Ab (k4D D rk m ab wb hn30 r);have H:=Ac (_/\_/\_/\_) (⟨hr,hi,hone,hle⟩);have HLA:=Ac (zs.length=n) (by have:=M.len;omega);rw[<- hn]at c0;have HN:=Ab hn;obtain⟨W1,hW1⟩:∃W1,W1=W.setCell ⟨ab,i,none⟩ (.int .i64 1):=⟨_,rfl⟩;rw[<- hW1]at M1 O1;have HW1:=Ab hW1;have M1:=Ab M1;have O1:=Ab O1;clear M hr hi hone hle hn hW1;go_enter Tryz.func59,Tryz.ntmps59;go_wp2;refine wp_scope_straight ?_;go_wp2;refine wp_label ?_;rw[<- HW1.1];clear HW1 c0 c1 c2;obtain⟨d0,A,c,l,g,d1,rl,hg,hlow⟩:=M1.1.wait i zz32;rw[<- HN.1]at d0;obtain⟨L,hL⟩:∃L,L=l.length:=⟨_,rfl⟩;rw[<- hL]at d1 rl;have RL:=Ac (_/\_/\_/\_) (⟨rl,hg,hlow,hL⟩);have hL6:L<=6:=by rw[hL];exact hlow.2
  clear rl hg hlow hL;go_wp2;clear d0 d1
  go_loopw [21] (fun s21 wr=>∃(j:Nat)(ys:List Nat),j<=L/\s21=.int .i64 j/\k07 (Grew (zs.set i 1) ys/\MkAt D rk wr m ab wb ys/\Only (fun b=>b=ab) W1 wr)) (fun s21 _=>L-ixOf s21)
  case atStart=>exact⟨0,_,zz1,rfl,⟨Grew.refl _,M1.1,Only.refl _ _⟩⟩
  case round=>
   obtain⟨j,ys,hj,rfl,R⟩:=hrel;by_cases hlt:j<L
   ·have e1:(j:Int)<(L:Int):=by omega
    obtain⟨k,hk⟩:∃k,l[j]? = some k:=⟨_,List.getElem?_eq_getElem (by have:=RL.1.2.2.2;omega)⟩;obtain⟨x,hx,hrk⟩:=RL.1.2.2.1.1 k (List.mem_of_getElem? hk);have hkn:k<n:=by have:=(List.getElem?_eq_some_iff.1 hx).1;have:=HN.1;omega
    have hrkk:rkOf D rk k<rkOf D rk i:=by
     rw[show rkOf D rk k=rk x.1 x.2 by unfold rkOf;rw[hx]];exact hrk
    have hyl:=R.1.2.1.len;obtain⟨a,ha⟩:∃a,ys[k]? = some a:=⟨_,List.getElem?_eq_getElem zz32⟩;obtain⟨f0,f1,f2⟩:=R.1.2.1.at k a ha;rw[<- HN.1]at f0;have i2:(k:Int)<(n:Int):=zz1
    have rl:=RL.1.1.only R.1.2.2 (fun b e e2=>RL.1.2.1 (by rw[e,e2]));obtain⟨eb,eo,ec,_,hA,_,_,hcell⟩:=rl.open (by omega:0<L);simp only[Value.slice.injEq]at hA;obtain⟨rfl,-,rfl⟩:=hA;have ck:wr.cell? ⟨eb,eo+j,none⟩=some (.int .i64 (k:Nat)):=by rw[hcell j (by have:=RL.1.2.2.2;simp[i64s];omega)];simp[i64s,hk]
    have hne:a≠1:=by
     intro h;subst h;have h1:=R.1.1.one ha;by_cases e:i=k
     ·subst e;omega
     ·rw[List.getElem?_set_ne e]at h1
      have:=H.1.2.2.1 k h1;exact zz1
    have ha2:a<=2:=R.1.1.le (fun j' a' h=>by
     by_cases e:i=j'
     ·subst e;rw[List.getElem?_set_self (by have:=HLA.1;omega)]at h;cases h;omega
     ·rw[List.getElem?_set_ne e]at h;exact H.1.2.2.2 j' a' h) k a ha
    have HK:=Ac (_/\_/\_) (⟨ha,hrkk,hkn⟩);clear rl hcell hk hx hrk ha hrkk;have e2:((a:Int) == 1)=false:=zz20
    rcases(show a=2\/a=0 by omega) with ha|ha
    ·subst ha
     go_wp2;refine⟨⟨j+1,ys,zz1,rfl,R⟩,?_⟩;show L-ixOf (.int .i64 ((j:Int)+1))<L-ixOf (.int .i64 (j:Int));exact zz9
    ·subst ha
     go_wp2_with(go_at_call 59;refine(IH.1 k ys _ (by have:=HK.1.2.1;have:=H.1.1;omega) HK.1.1 ?hone ?hle R.1.2.1).mono ?_;(case hone=>intro j' h';have h1:=R.1.1.one h';by_cases e:i=j';(subst e;exact HK.1.2.1);(rw[List.getElem?_set_ne e]at h1;exact Nat.lt_trans HK.1.2.1 (H.1.2.2.1 j' h1)));(case hle=>exact R.1.1.le (fun j' a' h=>by by_cases e:i=j';(subst e;rw[List.getElem?_set_self (by have:=HLA.1;omega)]at h;cases h;omega);(rw[List.getElem?_set_ne e]at h;exact H.1.2.2.2 j' a' h)));rintro e w5 ⟨rfl,ys',q1,q2,q3,q4⟩;have Q:=Ac (_/\_/\_/\_) (⟨q1,q2,q3,q4⟩);clear q1 q2 q3 q4)
     refine⟨⟨j+1,ys',zz1,rfl,⟨R.1.1.trans Q.1.1,Q.1.2.2.1,R.1.2.2.trans Q.1.2.2.2⟩⟩,?_⟩;show L-ixOf (.int .i64 ((j:Int)+1))<L-ixOf (.int .i64 (j:Int));exact zz9
   ·have e1:¬(j:Int)<(L:Int):=by omega
    have hyl:=R.1.2.1.len;obtain⟨a,ha⟩:∃a,ys[i]? = some a:=⟨_,List.getElem?_eq_getElem zz32⟩;obtain⟨f0,f1,f2⟩:=R.1.2.1.at i a ha;rw[<- HN.1]at f0;have HA:=Ab ha;clear ha;go_wp2;go_ret;have hset:=R.1.2.1.set i 2 zz32;refine⟨rfl,ys.set i 2,⟨by rw[List.length_set,R.1.1.1,List.length_set],fun j' a' h'=>?_⟩,by rw[List.getElem?_set_self (by have:=HLA.1;have:=HN.1;omega)],hset,(O1.1.trans R.1.2.2).trans (k0j _ _ _ _)⟩;by_cases e:i=j'
    ·subst e
     rw[H.1.2.1]at h';cases h';exact .inr ⟨rfl,by rw[List.getElem?_set_self (by have:=HLA.1;have:=HN.1;omega)]⟩
    ·rw[List.getElem?_set_ne e]
     exact R.1.1.2 j' a' (by rw[List.getElem?_set_ne e];exact h')
theorem k4u(B:Nat->Prop)(v:Value)(D:PlanD)(w:World)(hP:PlanV w B v D)(G:Good D) :
 Calls Tryz.prog 35 #[v] w fun e w'=>e=.returned (.int .u16 0)/\Below w.heap.size w w':=by
 obtain⟨A1,c1,A2,c2,A3,c3,rfl⟩:=hP.shape;obtain⟨rk,hrk⟩:=G.rank;obtain⟨i0,hi,hz0,hz1,hz2⟩:=info_parts k1o;obtain⟨n,hn⟩:∃n,n=D.hops.length:=⟨_,rfl⟩;have hn0:0<n:=by rw[hn];exact k45 G
 have hn30:n<=30:=by rw[hn];exact kah G
 have hmk:∀W:World,(Instr.makeSlice 29 (.int .i64 n) (.int .i64 n)).run Tryz.prog W=.ok (.slice (some ⟨W.heap.size,0,none⟩) n n) (W.alloc (.cells (madeCells (Value.int .i64 0).cells (n*1)) 3)):=fun W=>by
  have:=run_make (P:=Tryz.prog) W 29 3 i0 _ Tryz.underlying29 hi hz0 .i64 .i64 n n zz1 zz1 zz91 zz1;exact zz53
 have P1:=Ab hP;have HG:=Ab G;have HRK:=Ab hrk;have HN:=Ab hn;have hn6:=G.n1;have L1:=Ab ((Below.refl w.heap.size w).alloc (Nat.le_refl _) (pbox D A1 c1 A2 c2 A3 c3));have Z1:=Ab (heap_alloc_new w (pbox D A1 c1 A2 c2 A3 c3));clear hP G hrk hn hi hz0 hz1 hz2;have step:∀{W W':World},Below w.heap.size w W->Below W.heap.size W W'->Below w.heap.size w W':=fun h k=>h.trans (k.mono h.size)
 go_enter Tryz.func35,Tryz.ntmps35
 go_wp2_with(go_at_call 56;refine(k5g B _ D _ (P1.1.below L1.1) HG.1).mono ?_;rintro e w2 ⟨rfl,hb⟩;have L2:=Ac (_/\_) (⟨step L1.1 hb,(hb.block _ zz6).trans Z1.1⟩);have b0:=fun i=>k00 L2.1.2 i;clear hb)
 clear b0
 go_loopw [17] (fun s17 wr=>∃k:Nat,k<=D.nodes/\s17=.int .i64 k/\k07 (Below w.heap.size w wr/\wr.heap[w.heap.size]? = some (pbox D A1 c1 A2 c2 A3 c3))) (fun s17 _=>D.nodes-ixOf s17)
 case atStart=>exact⟨0,zz1,rfl,L2⟩
 case round=>
  obtain⟨k,hk,rfl,R⟩:=hrel;by_cases hlt:k<D.nodes
  ·have e1:(k:Int)<(D.nodes:Int):=by omega
   have b0:=fun i=>k00 R.1.2 i
   go_wp2;clear b0
   go_loopw [22] (fun s22 wr=>∃j:Nat,j<=D.nodes/\s22=.int .i64 j/\k07 (Below w.heap.size w wr/\wr.heap[w.heap.size]? = some (pbox D A1 c1 A2 c2 A3 c3))) (fun s22 _=>D.nodes-ixOf s22)
   case atStart=>exact⟨0,zz1,rfl,R⟩
   case round=>
    obtain⟨j,hj,rfl,R⟩:=hrel;by_cases hlj:j<D.nodes
    ·have e2:(j:Int)<(D.nodes:Int):=by omega
     have b0:=fun i=>k00 R.1.2 i
     obtain⟨l,hl⟩:=HG.1.path k j hlt hlj;have HL:=Ab hl;clear hl
     go_wp2_with(go_at_call 57;refine(k8G B _ D k j l _ (P1.1.below R.1.1) HG.1 hlt hlj HL.1).mono ?_;rintro e w3 ⟨⟨u,rfl⟩,hb⟩;have L3:=Ac (_/\_) (⟨step R.1.1 hb,(hb.block _ (k03 R.1.2)).trans R.1.2⟩);clear hb)
     refine⟨⟨j+1,zz1,rfl,L3⟩,?_⟩;show D.nodes-ixOf (.int .i64 ((j:Int)+1))<D.nodes-ixOf (.int .i64 (j:Int));exact zz9
    ·have e2:¬(j:Int)<(D.nodes:Int):=by omega
     go_wp2;refine⟨⟨k+1,zz1,rfl,R⟩,?_⟩;exact zz21
  ·have e1:¬(k:Int)<(D.nodes:Int):=by omega
   have b0:=fun i=>k00 R.1.2 i
   go_wp2_with(go_at_call 58;refine(k7B B _ D rk _ (P1.1.below R.1.1) HG.1 HRK.1).mono ?_;rintro e w3 ⟨wb,rfl,hw,hb,hwb⟩;rw[<- HN.1]at hw;rw[<- HN.1];have K:=Ac (_/\_/\_) (⟨hw,hb,hwb⟩);clear hw hb hwb)
   obtain⟨m,hm⟩:∃m,m=w3.heap.size:=⟨_,rfl⟩;obtain⟨ab,hab⟩:∃ab,ab=w3.heap.size+1:=⟨_,rfl⟩;rw[<- hab,<- hm];have HM:=Ac (_/\_) (⟨hm,hab⟩);have hw4:MkAt D rk ((w3.alloc (.cells #[.slice (some ⟨ab,0,none⟩) n n,.slice (some ⟨wb,0,none⟩) n n] 128)).alloc (.cells (madeCells #[Value.int .i64 0] n) 3)) m ab wb (List.replicate n 0):=by
    have h1:=k4c (w3.alloc (.cells #[.slice (some ⟨ab,0,none⟩) n n,.slice (some ⟨wb,0,none⟩) n n] 128)) (.int .i64 0) 3 n rfl;rw[World.size_alloc,<- hab,Nat.mul_one]at h1;obtain⟨vs,rv,hv⟩:=K.1.1;have B2:Below w3.heap.size w3 ((w3.alloc (.cells #[.slice (some ⟨ab,0,none⟩) n n,.slice (some ⟨wb,0,none⟩) n n] 128)).alloc (.cells (madeCells #[Value.int .i64 0] n) 3)):=((Below.refl _ w3).alloc (Nat.le_refl _) _).alloc zz6 _;rw[hm];unfold MkAt;rw[<- HN.1];refine⟨zz1,?_,?_,?_,vs,by rw[<- HN.1];rw[<- HN.1]at rv;exact rv.below B2,fun i x hx=>?_⟩
    ·rw[<- hm];exact(Below.heap_alloc _ _ _ zz20).trans (by rw[hm];exact heap_alloc_new w3 _)
    ·have e:i64s (List.replicate n 0)=List.replicate n (Value.int .i64 0):=by simp[i64s]
     rw[e];exact h1
    ·have:=rv.lt rfl;omega
    ·obtain⟨V,hV,l,g,r,hg,hl⟩:=hv i x (by have:=HN.1;have:=(List.getElem?_eq_some_iff.1 hx).1;omega) hx
     exact⟨V,l,g,hV,r.below B2,fun e=>by have:=r.lt e;omega,hl⟩
   have L4:=Ac (Below w.heap.size w ((w3.alloc (.cells #[.slice (some ⟨ab,0,none⟩) n n,.slice (some ⟨wb,0,none⟩) n n] 128)).alloc (.cells (madeCells #[Value.int .i64 0] n) 3))) (step (step R.1.1 K.1.2.1) (((Below.refl _ w3).alloc (Nat.le_refl _) _).alloc zz6 _));have M4:=Ab hw4;have hws:w.heap.size<=ab:=by have:=(step R.1.1 K.1.2.1).size;omega
   clear hw4 hm hab hmk b0
   go_loopw [54] (fun s54 wr=>∃(j:Nat)(ys:List Nat),j<=n/\s54=.int .i64 j/\k07 (MkAt D rk wr m ab wb ys/\(∀(i a:Nat),ys[i]? = some a->a=0\/a=2)/\Below w.heap.size w wr)) (fun s54 _=>n-ixOf s54)
   case atStart=>
    refine⟨0,_,zz1,rfl,⟨M4.1,fun i a h=>?_,L4.1⟩⟩;rw[List.getElem?_replicate]at h;split at h
    ·cases h;exact .inl rfl
    ·exact zz52
   case round=>
    obtain⟨j,ys,hj,rfl,S⟩:=hrel;by_cases hlj:j<n
    ·have e2:(j:Int)<(n:Int):=by omega
     have hyl:=S.1.1.len;obtain⟨a,ha⟩:∃a,ys[j]? = some a:=⟨_,List.getElem?_eq_getElem zz32⟩;obtain⟨f0,f1,f2⟩:=S.1.1.at j a ha;rw[<- HN.1]at f0;have ha2:=S.1.2.1 j a ha;have HA:=Ab ha;clear ha hyl f2;rcases ha2 with h|h
     ·subst h
      go_wp2_with(go_at_call 59;refine(k4D D rk m ab wb zz32 (rkOf D rk j+1) j ys _ zz1 HA.1 (fun i h=>by rcases S.1.2.1 i 1 h with h|h<;>cases h) (fun i a h=>by rcases S.1.2.1 i a h with h|h<;>omega) S.1.1).mono ?_;rintro e w5 ⟨rfl,ys',q1,q2,q3,q4⟩;have Q:=Ac (_/\_/\_/\_) (⟨q1,q2,q3,q4⟩);clear q1 q2 q3 q4)
      refine⟨⟨j+1,ys',zz1,rfl,⟨Q.1.2.2.1,fun i a h=>?_,((Only.of_below (P:=fun b=>b=ab) S.1.2.2).trans Q.1.2.2.2).toBelow (fun b hb e=>by omega)⟩⟩,?_⟩
      ·have hl:=(List.getElem?_eq_some_iff.1 h).1
       obtain⟨x,hx⟩:∃x,ys[i]? = some x:=⟨_,List.getElem?_eq_getElem (by rw[<- Q.1.1.1];exact hl)⟩;rcases Q.1.1.2 i x hx with h1|⟨_,h1⟩
       ·rw[h1]at h;cases h;exact S.1.2.1 i _ hx
       ·rw[h1]at h;cases h;exact .inr rfl
      ·show n-ixOf (.int .i64 ((j:Int)+1))<n-ixOf (.int .i64 (j:Int))
       simp only[ixOf];exact zz1
     ·subst h
      have e3:((2:Int) == 0)=false:=rfl;go_wp2;refine⟨⟨j+1,ys,zz1,rfl,S⟩,?_⟩;show n-ixOf (.int .i64 ((j:Int)+1))<n-ixOf (.int .i64 (j:Int));exact zz9
    ·have e2:¬(j:Int)<(n:Int):=by omega
     go_wp2;go_ret;exact⟨rfl,S.1.2.2⟩
structure NSt where
 waits:Nat->List Pk
 q:Way->List Pk
 snd:Nat->Nat->Int×Int
 rcv:Nat->Nat->Int×Int
 ticks:Nat
structure NTab where
 g:Nat
 arb:Nat
 host:Nat
 rings:Nat
 pb:Nat
 po:Nat
 pc:Nat
 whl:Nat->Nat
 lb:Nat->Nat
 lo:Nat->Nat
 lc:Nat->Nat
 snd:Nat->Nat->Nat
 rcv:Nat->Nat->Nat
 A1:Option Addr
 c1:Nat
 A2:Option Addr
 c2:Nat
 A3:Option Addr
 c3:Nat
def Col.nodeOf:Col->Option Nat
 |.node v=>some v
 |.arb v=>some v
 |.host v=>some v
 |.rings v=>some v
 |.pool v=>some v
 |.snd v _ _=>some v
 |.rcv v _ _=>some v
 |.whl v _=>some v
 |_=>none
def k0q(v:Nat)(c:Col):Prop:=c.nodeOf=some v
def np(D:PlanD)(v:Nat):Nat:=(D.bs v).length+1
def k0G(D:PlanD)(v i:Nat):Nat:=(v :: D.bs v).getD i 0
theorem k3h{α : Type}(f:Nat->List α)(m:Nat)(hf:∀i,(f i).length=m):∀n,((List.range n).flatMap f).length=n*m
 |0=>by simp
 |n+1=>by
  have:=k3h f m hf n;rw[List.range_succ,List.flatMap_append,List.length_append,this,Nat.succ_mul];simp[hf]
theorem k6e{α : Type}(f:Nat->List α)(m:Nat)(hf:∀i,(f i).length=m)(i j:Nat)(hj:j<m):∀n,i<n->((List.range n).flatMap f)[i*m+j]? = (f i)[j]?
 |0,h=>by omega
 |n+1,h=>by
  rw[List.range_succ,List.flatMap_append];have hl:=k3h f m hf n;by_cases e:i<n
  ·have h2:i*m+m<=n*m:=by rw[<- Nat.succ_mul];exact Nat.mul_le_mul_right _ e
   rw[List.getElem?_append_left (by rw[hl];omega)];exact k6e f m hf i j hj n e
  ·obtain rfl:i=n:=by omega
   rw[List.getElem?_append_right (by rw[hl];omega),hl];exact zz6
def k1v(D:PlanD)(T:NTab)(i:Nat):Value:=if i=0 then .slice none 0 0 else .slice (some ⟨T.lb i,T.lo i,none⟩) D.lanes (T.lc i)
def k6k(D:PlanD)(T:NTab)(v i:Nat):List Value:=[.int .i64 (k0G D v i:Nat),k1v D T i,.pointer (some ⟨T.whl i,0,none⟩)]
def k77(D:PlanD)(T:NTab)(v:Nat):List Value:=(List.range (np D v)).flatMap (k6k D T v)
def kb8(T:NTab)(i k:Nat):List Value:=[.pointer (some ⟨T.snd i k,0,none⟩),.pointer (some ⟨T.rcv i k,0,none⟩)]
def k1s(D:PlanD)(T:NTab)(i:Nat):List Value:=(List.range D.lanes).flatMap (kb8 T i)
abbrev nbox(D:PlanD)(T:NTab)(v t:Nat):Obj:=.cells #[.pointer (some ⟨T.arb,0,none⟩),.int .i64 D.nodes,.slice T.A1 D.edges.length T.c1,.int .i64 D.lanes,.int .i64 D.room,.int .i64 D.queue,.int .i64 D.rounds,.int .i64 D.every,.int .i64 D.bag,.slice T.A2 D.weights.length T.c2,.int .u16 D.start,.slice T.A3 D.next.length T.c3,.int .i64 v,.slice (some ⟨T.pb,T.po,none⟩) (np D v) T.pc,.pointer (some ⟨T.host,0,none⟩),.pointer (some ⟨T.rings,0,none⟩),.int .i64 t] 100 (0,0)
structure NodeAt(w:World)(o:Nat->Col)(v:Nat)(D:PlanD)(T:NTab)(st:NSt):Prop where
 og:o T.g=.node v
 blk:w.heap[T.g]? = some (nbox D T v st.ticks)
 plan:PlanV w (fun b=>o b=.fix) (pagg D T.A1 T.c1 T.A2 T.c2 T.A3 T.c3) D
 ports:Row w (.slice (some ⟨T.pb,T.po,none⟩) (np D v) T.pc) 141 3 (np D v) (k77 D T v) (some T.pb)
 op:o T.pb=.fix
 lanes:∀i,1<=i->i<np D v->Row w (.slice (some ⟨T.lb i,T.lo i,none⟩) D.lanes (T.lc i)) 148 2 D.lanes (k1s D T i) (some (T.lb i))/\o (T.lb i)=.fix
 arb:ArbAt w o (.arb v) T.arb (np D v)
 host:HostAt w o (.host v) T.host D.lanes D.queue st.waits
 rings:RingsAt w o (.rings v) (.pool v) T.rings (np D v:Nat) D.lanes (np D v*D.lanes*D.room) st.q
 whl:∀i,i<np D v->WheelAt w o (.whl v i) (T.whl i) D.lanes
 snd:∀i k,1<=i->i<np D v->k<D.lanes->o (T.snd i k)=.snd v i k/\w.heap[T.snd i k]? = some (.cells #[.int .u64 (st.snd i k).1,.int .u64 (st.snd i k).2] 191 (0,0))
 rcv:∀i k,1<=i->i<np D v->k<D.lanes->o (T.rcv i k)=.rcv v i k/\w.heap[T.rcv i k]? = some (.cells #[.int .u64 (st.rcv i k).1,.int .i64 (st.rcv i k).2,.int .i64 D.room] 193 (0,0))
theorem PlanV.tr{S:Col->Prop}{w w':World}{o o':Nat->Col}{v:Value}{D:PlanD}(h:PlanV w (fun b=>o b=.fix) v D)(t:Tr S o w o' w')(hS:¬S .fix):PlanV w' (fun b=>o' b=.fix) v D:=by
 obtain⟨ev,wv,nv,rows,ge,gw,gn,gs,hv,r1,r2,r3,r4,b1,b2,b3⟩:=h;have k:∀b,b<w.heap.size->o b=.fix->w'.heap[b]? = w.heap[b]?:=fun b hb e=>t.only.same hb (by rw[e];exact hS)
 refine⟨ev,wv,nv,rows,ge,gw,gn,gs,hv,r1.of_blk (fun b e=>k b (r1.lt e) (b1 b e)),r2.of_blk (fun b e=>k b (r2.lt e) (b2 b e)),r3.of_blk (fun b e=>k b (r3.lt e) (b3 b e)),fun i r hr=>?_,fun b e=>(t.own b (r1.lt e)).trans (b1 b e),fun b e=>(t.own b (r2.lt e)).trans (b2 b e),fun b e=>(t.own b (r3.lt e)).trans (b3 b e)⟩;obtain⟨u,hu,ru,bu⟩:=r4 i r hr;exact⟨u,hu,ru.of_blk (fun b e=>k b (ru.lt e) (bu b e)),fun b e=>(t.own b (ru.lt e)).trans (bu b e)⟩
section
variable{S:Col->Prop}{w w':World}{o o':Nat->Col}{v:Nat}{D:PlanD}{T:NTab}{st st':NSt}
theorem NodeAt.upd(h:NodeAt w o v D T st)(t:Tr S o w o' w')(hfix:¬S .fix)(hn:(¬S (.node v)/\st'.ticks=st.ticks)\/w'.heap[T.g]? = some (nbox D T v st'.ticks))
 (ha:¬S (.arb v)\/ArbAt w' o' (.arb v) T.arb (np D v)) (hh:(¬S (.host v)/\st'.waits=st.waits)\/HostAt w' o' (.host v) T.host D.lanes D.queue st'.waits)
 (hr:((¬S (.rings v)/\¬S (.pool v))/\st'.q=st.q)\/RingsAt w' o' (.rings v) (.pool v) T.rings (np D v:Nat) D.lanes (np D v*D.lanes*D.room) st'.q)
 (hw:∀i,i<np D v->¬S (.whl v i)\/WheelAt w' o' (.whl v i) (T.whl i) D.lanes)
 (hs:∀i k,1<=i->i<np D v->k<D.lanes->(¬S (.snd v i k)/\st'.snd i k=st.snd i k)\/w'.heap[T.snd i k]? = some (.cells #[.int .u64 (st'.snd i k).1,.int .u64 (st'.snd i k).2] 191 (0,0)))
 (hc:∀i k,1<=i->i<np D v->k<D.lanes->(¬S (.rcv v i k)/\st'.rcv i k=st.rcv i k)\/w'.heap[T.rcv i k]? = some (.cells #[.int .u64 (st'.rcv i k).1,.int .i64 (st'.rcv i k).2,.int .i64 D.room] 193 (0,0))) :
 NodeAt w' o' v D T st' where
 og:=(t.own _ (k03 h.blk)).trans h.og
 blk:=by
  rcases hn with⟨h1,h2⟩|h1
  ·rw[h2];exact t.blk h.blk (by rw[h.og];exact h1)
  ·exact h1
 plan:=h.plan.tr t hfix
 ports:=h.ports.only t.only (fun b e=>by cases e;rw[h.op];exact hfix)
 op:=(t.own _ (h.ports.lt rfl)).trans h.op
 lanes:=fun i h1 h2=>by
  obtain⟨a,b⟩:=h.lanes i h1 h2;exact⟨a.only t.only (fun b' e=>by cases e;rw[b];exact hfix),(t.own _ (a.lt rfl)).trans b⟩
 arb:=ha.elim (fun hn=>h.arb.tr t hn) id
 host:=by
  rcases hh with⟨h1,h2⟩|h1
  ·rw[h2];exact h.host.tr t h1
  ·exact h1
 rings:=by
  rcases hr with⟨⟨h1,h2⟩,h3⟩|h1
  ·rw[h3];exact h.rings.tr t h1 h2
  ·exact h1
 whl:=fun i hi=>(hw i hi).elim (fun hn=>(h.whl i hi).tr t hn) id
 snd:=fun i k h1 h2 h3=>by
  obtain⟨a,b⟩:=h.snd i k h1 h2 h3;refine⟨(t.own _ (k03 b)).trans a,?_⟩;rcases hs i k h1 h2 h3 with⟨x,y⟩|x
  ·rw[y];exact t.blk b (by rw[a];exact x)
  ·exact x
 rcv:=fun i k h1 h2 h3=>by
  obtain⟨a,b⟩:=h.rcv i k h1 h2 h3;refine⟨(t.own _ (k03 b)).trans a,?_⟩;rcases hc i k h1 h2 h3 with⟨x,y⟩|x
  ·rw[y];exact t.blk b (by rw[a];exact x)
  ·exact x
theorem NodeAt.tr(h:NodeAt w o v D T st)(t:Tr S o w o' w')(hfix:¬S .fix)(hS:∀c,k0q v c->¬S c):NodeAt w' o' v D T st:=
 h.upd t hfix (.inl ⟨hS _ rfl,rfl⟩) (.inl (hS _ rfl)) (.inl ⟨hS _ rfl,rfl⟩) (.inl ⟨⟨hS _ rfl,hS _ rfl⟩,rfl⟩) (fun i _=>.inl (hS _ rfl)) (fun i k _ _ _=>.inl ⟨hS _ rfl,rfl⟩) (fun i k _ _ _=>.inl ⟨hS _ rfl,rfl⟩)
theorem Tr.same(hf:Fresh o w)(h:Only (fun b=>S (o b)) w w'):Tr S o w o w':=⟨h,fun _ _=>rfl,fun b hb=>hf b (Nat.le_trans h.size hb)⟩
theorem NodeAt.hostTo(h:NodeAt w o v D T st)(t:Tr (fun c=>c=.host v) o w o' w'){r:Nat->List Pk}(k:HostAt w' o' (.host v) T.host D.lanes D.queue r):NodeAt w' o' v D T { st with waits:=r }:=
 h.upd t zz6 (.inl ⟨zz6,rfl⟩) (.inl zz6) (.inr k) (.inl ⟨⟨zz6,zz6⟩,rfl⟩) (fun i _=>.inl zz6) (fun i k _ _ _=>.inl ⟨zz6,rfl⟩) (fun i k _ _ _=>.inl ⟨zz6,rfl⟩)
theorem NodeAt.ringsTo(h:NodeAt w o v D T st)(t:Tr (fun c=>c=.rings v\/c=.pool v) o w o' w'){q:Way->List Pk}(k:RingsAt w' o' (.rings v) (.pool v) T.rings (np D v:Nat) D.lanes (np D v*D.lanes*D.room) q):NodeAt w' o' v D T { st with q:=q }:=
 h.upd t zz6 (.inl ⟨zz6,rfl⟩) (.inl zz6) (.inl ⟨zz6,rfl⟩) (.inr k) (fun i _=>.inl zz6) (fun i k _ _ _=>.inl ⟨zz6,rfl⟩) (fun i k _ _ _=>.inl ⟨zz6,rfl⟩)
theorem NodeAt.arbTo(h:NodeAt w o v D T st)(hf:Fresh o w)(t:Only (fun b=>o b=.arb v) w w')(k:ArbAt w' o (.arb v) T.arb (np D v)):NodeAt w' o v D T st:=
 h.upd (Tr.same (S:=fun c=>c=.arb v) hf t) zz6 (.inl ⟨zz6,rfl⟩) (.inr k) (.inl ⟨zz6,rfl⟩) (.inl ⟨⟨zz6,zz6⟩,rfl⟩) (fun i _=>.inl zz6) (fun i k _ _ _=>.inl ⟨zz6,rfl⟩) (fun i k _ _ _=>.inl ⟨zz6,rfl⟩)
theorem NodeAt.whlTo(h:NodeAt w o v D T st)(hf:Fresh o w){j:Nat}(t:Only (fun b=>o b=.whl v j) w w')(k:WheelAt w' o (.whl v j) (T.whl j) D.lanes):NodeAt w' o v D T st:=
 h.upd (Tr.same (S:=fun c=>c=.whl v j) hf t) zz6 (.inl ⟨zz6,rfl⟩) (.inl zz6) (.inl ⟨zz6,rfl⟩) (.inl ⟨⟨zz6,zz6⟩,rfl⟩) (fun i _=>by
  by_cases e:i=j
  ·subst e;exact .inr k
  ·exact .inl (by simp[e])) (fun i k _ _ _=>.inl ⟨zz6,rfl⟩) (fun i k _ _ _=>.inl ⟨zz6,rfl⟩)
def upd2{α : Type}(f:Nat->Nat -> α)(i k:Nat)(x : α):Nat->Nat -> α:=fun a b=>if a=i/\b=k then x else f a b
theorem k0l{α : Type}(f:Nat->Nat -> α)(i k:Nat)(x : α):upd2 f i k x i k=x:=by simp[upd2]
theorem k0h{α : Type}(f:Nat->Nat -> α)(i k:Nat)(x : α){a b:Nat}(h:¬(a=i/\b=k)):upd2 f i k x a b=f a b:=by simp[upd2,h]
theorem NodeAt.sndTo(h:NodeAt w o v D T st)(hf:Fresh o w){j m:Nat}(j0:1<=j)(j1:j<np D v)(m1:m<D.lanes){a b:Int}(k:SndSt w w' (T.snd j m) a b):NodeAt w' o v D T { st with snd:=upd2 st.snd j m (a,b) }:=
 h.upd (Tr.same (S:=fun c=>c=.snd v j m) hf (k.2.mono (fun b _ e=>by rw[e];exact(h.snd j m j0 j1 m1).1))) zz6 (.inl ⟨zz6,rfl⟩) (.inl zz6) (.inl ⟨zz6,rfl⟩) (.inl ⟨⟨zz6,zz6⟩,rfl⟩) (fun i _=>.inl zz6) (fun i n _ _ _=>by
  by_cases e:i=j/\n=m
  ·obtain⟨rfl,rfl⟩:=e;refine .inr ?_;rw[show(({ st with snd:=upd2 st.snd i n (a,b) }:NSt).snd i n)=(a,b) from k0l _ _ _ _];exact k.1
  ·exact .inl ⟨by simp;exact fun h1 h2=>e ⟨h1,h2⟩,k0h _ _ _ _ e⟩) (fun i k _ _ _=>.inl ⟨zz6,rfl⟩)
theorem NodeAt.rcvTo(h:NodeAt w o v D T st)(hf:Fresh o w){j m:Nat}(j0:1<=j)(j1:j<np D v)(m1:m<D.lanes){a b:Int}(k:RcvSt w w' (T.rcv j m) a b D.room):NodeAt w' o v D T { st with rcv:=upd2 st.rcv j m (a,b) }:=
 h.upd (Tr.same (S:=fun c=>c=.rcv v j m) hf (k.2.mono (fun b _ e=>by rw[e];exact(h.rcv j m j0 j1 m1).1))) zz6 (.inl ⟨zz6,rfl⟩) (.inl zz6) (.inl ⟨zz6,rfl⟩) (.inl ⟨⟨zz6,zz6⟩,rfl⟩) (fun i _=>.inl zz6) (fun i k _ _ _=>.inl ⟨zz6,rfl⟩) (fun i n _ _ _=>by
  by_cases e:i=j/\n=m
  ·obtain⟨rfl,rfl⟩:=e;refine .inr ?_;rw[show(({ st with rcv:=upd2 st.rcv i n (a,b) }:NSt).rcv i n)=(a,b) from k0l _ _ _ _];exact k.1
  ·exact .inl ⟨by simp;exact fun h1 h2=>e ⟨h1,h2⟩,k0h _ _ _ _ e⟩)
theorem NodeAt.blw(h:NodeAt w o v D T st)(hf:Fresh o w)(b:Below w.heap.size w w'):NodeAt w' o v D T st:=
 h.tr (Tr.below (S:=fun _=>False) hf b) (fun x=>x) (fun _ _ x=>x)
theorem NodeAt.port(h:NodeAt w o v D T st)(i:Nat)(hi:i<np D v):w.cell? ⟨T.pb,T.po+i*3,none⟩=some (.int .i64 (k0G D v i:Nat))/\w.cell? ⟨T.pb,T.po+i*3+1,none⟩=some (k1v D T i)/\w.cell? ⟨T.pb,T.po+i*3+2,none⟩=some (.pointer (some ⟨T.whl i,0,none⟩)):=by
 obtain⟨b,off,cap,hg,hA,_,_,hc⟩:=h.ports.open (by unfold np;omega);simp only[Value.slice.injEq,Option.some.injEq,Addr.mk.injEq,and_true,true_and]at hA;obtain⟨⟨rfl,rfl⟩,rfl⟩:=hA;have hl:(k77 D T v).length=np D v*3:=k3h _ 3 (fun _=>rfl) _;have g:=fun j hj=>k6e (k6k D T v) 3 (fun _=>rfl) i j hj (np D v) hi
 refine⟨?_,?_,?_⟩
 ·exact(hc (i*3) zz1).trans (g 0 zz1)
 ·rw[Nat.add_assoc];exact(hc (i*3+1) zz1).trans (g 1 zz1)
 ·rw[Nat.add_assoc];exact(hc (i*3+2) zz1).trans (g 2 zz1)
theorem NodeAt.lane(h:NodeAt w o v D T st)(i k:Nat)(h1:1<=i)(hi:i<np D v)(hk:k<D.lanes):w.cell? ⟨T.lb i,T.lo i+k*2,none⟩=some (.pointer (some ⟨T.snd i k,0,none⟩))/\w.cell? ⟨T.lb i,T.lo i+k*2+1,none⟩=some (.pointer (some ⟨T.rcv i k,0,none⟩)):=by
 obtain⟨b,off,cap,hg,hA,_,_,hc⟩:=(h.lanes i h1 hi).1.open zz1;simp only[Value.slice.injEq,Option.some.injEq,Addr.mk.injEq,and_true,true_and]at hA;obtain⟨⟨rfl,rfl⟩,rfl⟩:=hA;have hl:(k1s D T i).length=D.lanes*2:=k3h _ 2 (fun _=>rfl) _;have g:=fun j hj=>k6e (kb8 T i) 2 (fun _=>rfl) k j hj D.lanes hk
 refine⟨?_,?_⟩
 ·exact(hc (k*2) zz1).trans (g 0 zz1)
 ·rw[Nat.add_assoc];exact(hc (k*2+1) zz1).trans (g 1 zz1)
theorem NodeAt.sndSt(h:NodeAt w o v D T st)(i k:Nat)(h1:1<=i)(hi:i<np D v)(hk:k<D.lanes):SndSt w w (T.snd i k) (st.snd i k).1 (st.snd i k).2:=⟨(h.snd i k h1 hi hk).2,Only.refl _ _⟩
theorem NodeAt.rcvSt(h:NodeAt w o v D T st)(i k:Nat)(h1:1<=i)(hi:i<np D v)(hk:k<D.lanes):RcvSt w w (T.rcv i k) (st.rcv i k).1 (st.rcv i k).2 D.room:=⟨(h.rcv i k h1 hi hk).2,Only.refl _ _⟩
end
theorem kcy{w:World}{g:Nat}{T:TypeId}{fr:Nat×Nat}{a b:Value}(hg:w.heap[g]? = some (.cells #[a,b] T fr)):(loadVar 148 ⟨g,0,none⟩).run Tryz.prog w=.ok (.agg #[a,b]) w:=
 run_loadVar_row w g T 148 _ fr _ hg Tryz.underlying148 rfl zz2
theorem k6A{D:PlanD}(G:Good D){v:Nat}(hv:v<D.nodes):2<=np D v:=by
 have:=List.length_pos_iff.2 (G.bn v hv);unfold np;exact zz1
theorem k2t{D:PlanD}(G:Good D){v:Nat}(hv:v<D.nodes):np D v<=6:=by
 have:=G.bl v hv;unfold np;exact zz1
section
variable{w:World}{o:Nat->Col}{v:Nat}{D:PlanD}{T:NTab}{st:NSt}
theorem k1Q(i k:Nat)(H:NodeAt w o v D T st)(G:Good D)(hv:v<D.nodes)(hf:Fresh o w)(h1:1<=i)(hi:i<np D v)(hk:k<D.lanes) :
 Calls Tryz.prog 97 #[.pointer (some ⟨T.g,0,none⟩),.int .i64 i,.int .i64 k] w fun e w'=>e=.returned (.tuple #[.agg #[.pointer (some ⟨T.snd i k,0,none⟩),.pointer (some ⟨T.rcv i k,0,none⟩)],.bool true])/\Below w.heap.size w w':=by
 have b0:=fun j=>k00 H.blk j
 obtain⟨p0,p1,p2⟩:=H.port i hi;obtain⟨l0,l1⟩:=H.lane i k h1 hi hk;rw[show k1v D T i=.slice (some ⟨T.lb i,T.lo i,none⟩) D.lanes (T.lc i) from if_neg zz1]at p1;have n1:=k03 H.blk;have n2:=H.ports.lt rfl;have n3:=(H.lanes i h1 hi).1.lt rfl;have i1:(1:Int)<=(i:Int):=by omega
 have i2:(i:Int)<(np D v:Nat):=zz1
 have i3:(k:Int)<(D.lanes:Nat):=zz1
 have e1:=decide_eq_false (show ¬(i:Int)<1 by omega);have e2:=decide_eq_false (show ¬(np D v:Nat)<=i by omega);have e3:=decide_eq_false (show ¬(D.lanes:Nat)<=k by omega);exact zz46
theorem kcD(i k:Nat)(H:NodeAt w o v D T st)(hf:Fresh o w)(h1:1<=i)(hi:i<np D v)(hk:D.lanes<=k) :
 Calls Tryz.prog 97 #[.pointer (some ⟨T.g,0,none⟩),.int .i64 i,.int .i64 k] w fun e w'=>e=.returned (.tuple #[.agg #[.pointer none,.pointer none],.bool false])/\Below w.heap.size w w':=by
 have b0:=fun j=>k00 H.blk j
 have n1:=k03 H.blk;have i1:(1:Int)<=(i:Int):=zz1
 have i2:(i:Int)<(np D v:Nat):=zz1
 have i3:(D.lanes:Int)<=(k:Nat):=zz1
 have e1:=decide_eq_false (show ¬(i:Int)<1 by omega);have e2:=decide_eq_false (show ¬(np D v:Nat)<=i by omega);have e3:=decide_eq_true (show(D.lanes:Nat)<=k by omega);have e4:=decide_eq_false (show ¬(k:Int)<0 by omega);exact zz46
theorem kbP(y x:Nat)(A:Option Addr)(n c p b:Nat)(w:World)(h:w.cell? ⟨b,0,none⟩=some (.int .i64 x))(hb:b<w.heap.size) :
 Calls Tryz.prog 95 #[.agg #[.int .i64 y,.slice A n c,.pointer (some ⟨p,0,none⟩)],.pointer (some ⟨b,0,none⟩)] w fun e w'=>e=.returned (.bool (decide (y=x)))/\Below w.heap.size w w':=by
 have q:((y:Int) == (x:Int))=decide (y=x):=by
  by_cases e:y=x
  ·subst e;simp
  ·rw[decide_eq_false e];exact beq_eq_false_iff_ne.mpr zz1
 go_enter Tryz.func95,Tryz.ntmps95;exact zz66
theorem kcb(x b:Nat)(H:NodeAt w o v D T st)(G:Good D)(hv:v<D.nodes)(hf:Fresh o w)(h:w.cell? ⟨b,0,none⟩=some (.int .i64 x)) :
 Calls Tryz.prog 94 #[.slice (some ⟨T.pb,T.po+3,none⟩) ((D.bs v).length:Nat) (T.pc-1),.func (.func 95) #[] #[.pointer (some ⟨b,0,none⟩)]] w (k6h (D.bs v) x w):=by
 have hlen:(D.bs v).length<=5:=G.bl v hv;have H0:=Ab H;have HF:=Ab hf;have HB:=Ab h;obtain⟨L,hL⟩:∃L,L=(D.bs v).length:=⟨_,rfl⟩;have HL:=Ab hL;rw[<- hL];rw[<- hL]at hlen;clear H hf h hL;go_enter Tryz.func94,Tryz.ntmps94;go_wp2
 go_loopw [8] (fun s8 wr=>∃k:Nat,k<=L/\s8=.int .i64 k/\k07 (∀j:Nat,j<k->(D.bs v)[j]? ≠ some x)/\k07 (Below w.heap.size w wr)) (fun s8 _=>L-ixOf s8)
 case atStart=>exact⟨0,zz1,rfl,⟨fun j h=>by omega⟩,⟨Below.refl _ w⟩⟩
 case round=>
  obtain⟨k,hk,rfl,HN,R⟩:=hrel;by_cases hlt:k<L
  ·have e1:(k:Int)<(L:Int):=by omega
   obtain⟨y,hy⟩:∃p,(D.bs v)[k]? = some p:=⟨_,List.getElem?_eq_getElem zz82⟩;have H1:=H0.1.blw HF.1 R.1;obtain⟨p0,p1,p2⟩:=H1.port (k+1) (by have:=HL.1;unfold np;omega);have hpn:k0G D v (k+1)=y:=by unfold k0G;simp[hy]
   rw[hpn]at p0;rw[show k1v D T (k+1)=.slice (some ⟨T.lb (k+1),T.lo (k+1),none⟩) D.lanes (T.lc (k+1)) from if_neg zz1]at p1;rw[show T.po+(k+1)*3=T.po+3+k*3 by omega]at p0 p1 p2;have hb:=k01 R.1 HB.1;have hbl:=World.block_lt_of_cell? _ _ hb;have HY:=Ab hy;clear H1 hpn hy;by_cases hxy:y=x
   ·subst hxy
    have e2:decide (y=y)=true:=decide_eq_true rfl
    go_wp2_with(go_at_call 95;refine(kbP y y _ _ _ _ b _ hb hbl).mono ?_;rw[e2];rintro e w3 ⟨rfl,hb3⟩;have B3:=Ab hb3;clear hb3)
    go_ret;exact⟨(k:Nat),eset _ _ rfl,.inl ⟨k,rfl,HY.1⟩,R.1.trans (B3.1.mono R.1.size)⟩
   ·have e2:decide (y=x)=false:=decide_eq_false hxy
    have HX:=Ab hxy;clear hxy
    go_wp2_with(go_at_call 95;refine(kbP y x _ _ _ _ b _ hb hbl).mono ?_;rw[e2];rintro e w3 ⟨rfl,hb3⟩;have B3:=Ab hb3;clear hb3)
    refine⟨⟨k+1,zz1,rfl,⟨fun j hj=>?_⟩,⟨R.1.trans (B3.1.mono R.1.size)⟩⟩,?_⟩
    ·rcases Nat.lt_or_ge j k with h|h
     ·exact HN.1 j h
     ·obtain rfl:j=k:=by omega
      rw[HY.1];exact fun e=>HX.1 (Option.some.inj e)
    ·show L-ixOf (.int .i64 ((k:Int)+1))<L-ixOf (.int .i64 (k:Int))
     simp only[ixOf];exact zz1
  ·have e1:¬(k:Int)<(L:Int):=by omega
   obtain rfl:k=L:=by omega
   go_wp2;exact zz47
theorem k9U(y x:Nat)(A:Option Addr)(n c p b:Nat)(w:World)(h:w.cell? ⟨b,0,none⟩=some (.int .i64 x))(hb:b<w.heap.size) :
 Calls Tryz.prog 146 #[.agg #[.int .i64 y,.slice A n c,.pointer (some ⟨p,0,none⟩)],.pointer (some ⟨b,0,none⟩)] w fun e w'=>e=.returned (.bool (decide (y=x)))/\Below w.heap.size w w':=by
 have q:((y:Int) == (x:Int))=decide (y=x):=by
  by_cases e:y=x
  ·subst e;simp
  ·rw[decide_eq_false e];exact beq_eq_false_iff_ne.mpr zz1
 go_enter Tryz.func146,Tryz.ntmps146;exact zz66
theorem kbo(x b:Nat)(H:NodeAt w o v D T st)(G:Good D)(hv:v<D.nodes)(hf:Fresh o w)(h:w.cell? ⟨b,0,none⟩=some (.int .i64 x)) :
 Calls Tryz.prog 94 #[.slice (some ⟨T.pb,T.po+3,none⟩) ((D.bs v).length:Nat) (T.pc-1),.func (.func 146) #[] #[.pointer (some ⟨b,0,none⟩)]] w (k6h (D.bs v) x w):=by
 have hlen:(D.bs v).length<=5:=G.bl v hv;have H0:=Ab H;have HF:=Ab hf;have HB:=Ab h;obtain⟨L,hL⟩:∃L,L=(D.bs v).length:=⟨_,rfl⟩;have HL:=Ab hL;rw[<- hL];rw[<- hL]at hlen;clear H hf h hL;go_enter Tryz.func94,Tryz.ntmps94;go_wp2
 go_loopw [8] (fun s8 wr=>∃k:Nat,k<=L/\s8=.int .i64 k/\k07 (∀j:Nat,j<k->(D.bs v)[j]? ≠ some x)/\k07 (Below w.heap.size w wr)) (fun s8 _=>L-ixOf s8)
 case atStart=>exact⟨0,zz1,rfl,⟨fun j h=>by omega⟩,⟨Below.refl _ w⟩⟩
 case round=>
  obtain⟨k,hk,rfl,HN,R⟩:=hrel;by_cases hlt:k<L
  ·have e1:(k:Int)<(L:Int):=by omega
   obtain⟨y,hy⟩:∃p,(D.bs v)[k]? = some p:=⟨_,List.getElem?_eq_getElem zz82⟩;have H1:=H0.1.blw HF.1 R.1;obtain⟨p0,p1,p2⟩:=H1.port (k+1) (by have:=HL.1;unfold np;omega);have hpn:k0G D v (k+1)=y:=by unfold k0G;simp[hy]
   rw[hpn]at p0;rw[show k1v D T (k+1)=.slice (some ⟨T.lb (k+1),T.lo (k+1),none⟩) D.lanes (T.lc (k+1)) from if_neg zz1]at p1;rw[show T.po+(k+1)*3=T.po+3+k*3 by omega]at p0 p1 p2;have hb:=k01 R.1 HB.1;have hbl:=World.block_lt_of_cell? _ _ hb;have HY:=Ab hy;clear H1 hpn hy;by_cases hxy:y=x
   ·subst hxy
    have e2:decide (y=y)=true:=decide_eq_true rfl
    go_wp2_with(go_at_call 146;refine(k9U y y _ _ _ _ b _ hb hbl).mono ?_;rw[e2];rintro e w3 ⟨rfl,hb3⟩;have B3:=Ab hb3;clear hb3)
    go_ret;exact⟨(k:Nat),eset _ _ rfl,.inl ⟨k,rfl,HY.1⟩,R.1.trans (B3.1.mono R.1.size)⟩
   ·have e2:decide (y=x)=false:=decide_eq_false hxy
    have HX:=Ab hxy;clear hxy
    go_wp2_with(go_at_call 146;refine(k9U y x _ _ _ _ b _ hb hbl).mono ?_;rw[e2];rintro e w3 ⟨rfl,hb3⟩;have B3:=Ab hb3;clear hb3)
    refine⟨⟨k+1,zz1,rfl,⟨fun j hj=>?_⟩,⟨R.1.trans (B3.1.mono R.1.size)⟩⟩,?_⟩
    ·rcases Nat.lt_or_ge j k with h|h
     ·exact HN.1 j h
     ·obtain rfl:j=k:=by omega
      rw[HY.1];exact fun e=>HX.1 (Option.some.inj e)
    ·show L-ixOf (.int .i64 ((k:Int)+1))<L-ixOf (.int .i64 (k:Int))
     simp only[ixOf];exact zz1
  ·have e1:¬(k:Int)<(L:Int):=by omega
   obtain rfl:k=L:=by omega
   go_wp2;exact zz47
end
theorem k5L:(Tryz.prog.info? 141).map (fun i=>(i.zero,i.size,i.bytes))=some (some (.agg #[.int .i64 0,.slice none 0 0,.pointer none]),3,40):=by kernel_rfl
theorem kcc:(Tryz.prog.info? 148).map (fun i=>(i.zero,i.size,i.bytes))=some (some (.agg #[.pointer none,.pointer none]),2,16):=by kernel_rfl
def tw(D:PlanD)(v d:Nat):Nat:=if d=v then 0 else(D.bs v).idxOf (D.nxt v d)+1
theorem k2V{l:List Nat}(hn:l.Nodup){x:Nat}(hx:x∈l){r:Int}(h:IdxAt l x r):r=(l.idxOf x:Nat):=by
 rcases h with⟨k,rfl,hk⟩|⟨_,h⟩
 ·have h1:l[l.idxOf x]? = some x:=by rw[List.getElem?_eq_getElem (List.idxOf_lt_length_of_mem hx)];simp
  have:=k94 hn hk h1;exact zz1
 ·exact absurd hx h
theorem kce{D:PlanD}(G:Good D){v d:Nat}(hv:v<D.nodes)(hd:d<D.nodes):tw D v d<np D v:=by
 unfold tw np;split
 ·exact zz1
 ·rename_i h
  have:=List.idxOf_lt_length_of_mem (G.nxt_bs hv hd (Ne.symm h));exact zz1
section
variable{w:World}{o:Nat->Col}{v:Nat}{D:PlanD}{T:NTab}{st:NSt}
theorem k3O(d:Nat)(H:NodeAt w o v D T st)(G:Good D)(hv:v<D.nodes)(hd:d<D.nodes)(hf:Fresh o w) :
 Calls Tryz.prog 122 #[.pointer (some ⟨T.g,0,none⟩),.int .i64 d] w fun e w'=>e=.returned (.int .i64 (tw D v d:Nat))/\Below w.heap.size w w':=by
 by_cases hdv:d=v
 ·subst hdv
  rw[show tw D d d=0 from if_pos rfl];have b0:=fun j=>k00 H.blk j
  have e1:((d:Int) == (d:Int))=true:=beq_self_eq_true _;clear H;go_enter Tryz.func122,Tryz.ntmps122;go_wp2;exact zz63
 ·have htw:tw D v d=(D.bs v).idxOf (D.nxt v d)+1:=if_neg hdv
  have hm:=G.nxt_bs hv hd (Ne.symm hdv);obtain⟨nb,no,rb,ro,rc,hA3,k1,k2⟩:=H.plan.way G v d hv hd;have b12:w.cell? ⟨T.g,12,none⟩=some (.int .i64 v):=(k00 H.blk 12).trans rfl;have HS:=Sat.mk (S:=fun(W:World)=>W.cell? ⟨T.g,11,none⟩=some (.slice (some ⟨nb,no,none⟩) D.next.length T.c3)/\W.cell? ⟨T.g,12,none⟩=some (.int .i64 v)/\W.cell? ⟨nb,no+v,none⟩=some (.slice (some ⟨rb,ro,none⟩) D.nodes rc)/\W.cell? ⟨rb,ro+d,none⟩=some (.int .i64 (D.nxt v d:Nat))) (w:=w) (⟨by rw[<- hA3];exact(k00 H.blk 11).trans rfl,b12,k1,k2⟩);have e1:((d:Int) == (v:Int))=false:=beq_eq_false_iff_ne.mpr zz1;have i1:(v:Int)<(D.next.length:Nat):=by have:=G.nl;omega
  have i2:(d:Int)<(D.nodes:Nat):=zz1
  have hnp:=k6A G hv;have hpc:=H.ports.size;obtain⟨i97,hi97,_,hs97,_⟩:=info_parts k5L;have CT:∀W:World,(Instr.slice 97 (.slice (some ⟨T.pb,T.po,none⟩) (np D v:Nat) T.pc) (some (.int .i64 1)) none none).run Tryz.prog W=.ok (.slice (some ⟨T.pb,T.po+3,none⟩) ((D.bs v).length:Nat) (T.pc-1)) W:=fun W=>by
   obtain⟨_,cp,hcp,hle⟩:=hpc;cases hcp;have h:=k0P 97 141 .i64 Tryz.underlying97 hi97 3 hs97 (some ⟨T.pb,T.po,none⟩) (np D v) T.pc 1 zz1 zz1 W;have e:(if T.pc=1 then some (⟨T.pb,T.po,none⟩:Addr) else(some (⟨T.pb,T.po,none⟩:Addr)).map (·.add (1*3)))=some ⟨T.pb,T.po+3,none⟩:=by
    rw[if_neg zz1,Option.map_some,Addr.add_lit]
   rw[<- e,show(D.bs v).length=np D v-1 from rfl];exact h
  have HH:=Ac (_/\_/\_/\_/\_) (⟨H,hf,hm,htw,G⟩);clear H hf k1 k2 hm htw hA3 hpc hi97 hs97 hdv;go_enter Tryz.func122,Tryz.ntmps122;go_wp2;refine WpL.rg HS 15 zz2 ?_;refine WpL.T 0 [] HS.1 ?_;refine WpL.T 1 [] HS.1 ?_;refine WpL.T 2 [] HS.1 ?_;refine WpL.T 3 [] HS.1 ?_;refine WpL.T 4 [] HS.1 ?_;refine WpL.T 5 [] HS.1 ?_;refine WpL.T 6 [] HS.1 ?_;refine WpL.T 7 [] HS.1 ?_;refine WpL.T 8 [] HS.1 ?_;refine WpL.T 9 [] HS.1 ?_;refine WpL.T 10 [] HS.1 ?_;refine WpL.T 11 [] HS.1 ?_;refine WpL.T 12 [] HS.1 ?_;refine WpL.T 13 [] HS.1 ?_;refine WpL.one (i:=14) zz2 rfl (fun K hK=>?_);go_simp;have B3:=Ac (Below w.heap.size w (w.drew.alloc (.cells #[.int .i64 0] 3))) (((Below.refl _ w).drew).alloc (Nat.le_refl _) _);have HS3:=HS.to (w.drew.alloc (.cells #[.int .i64 0] 3)) zz36;refine hK.out _ _ (fun _=>HS3.1) ?_;clear hK K
  try refine Sm ?_
  refine WpL.one (i:=15) zz2 rfl (fun K hK=>?_);go_simp;refine hK.out _ _ (fun h=>absurd rfl h) ?_;clear hK K
  try refine Sm ?_
  refine WpL.done zz2 ?_ _;have B4:=Ac (Below w.heap.size w (w.alloc (.cells #[.int .i64 (D.nxt v d:Nat)] 3)).drew) ((((Below.refl _ w)).alloc (Nat.le_refl _) _).drew);have Z4:=Ac ((w.alloc (.cells #[.int .i64 (D.nxt v d:Nat)] 3)).drew.cell? ⟨w.heap.size,0,none⟩=some (.int .i64 (D.nxt v d:Nat))) ((k00 (heap_alloc_new w _) 0).trans rfl);have H4:=Ab (HH.1.1.blw HH.1.2.1 B4.1);have b0:=fun j=>k00 H4.1.blk j
  have hx5:(D.bs v).idxOf (D.nxt v d)<6:=by have:=List.idxOf_lt_length_of_mem HH.1.2.2.1;have:=HH.1.2.2.2.2.bl v hv;omega
  go_wp2_with(go_at_call 94;refine(kbo (D.nxt v d) w.heap.size H4.1 HH.1.2.2.2.2 hv (HH.1.2.1.blw B4.1) Z4.1).mono ?_;rintro e w5 ⟨r,rfl,hr,hb⟩;obtain rfl:=k2V (k48 D v) HH.1.2.2.1 hr;have B5:=Ab hb;clear hb hr)
  go_ret;refine⟨eset _ _ ?_,B4.1.trans (B5.1.mono B4.1.size)⟩;rw[HH.1.2.2.2.1];rfl
end
theorem kck:(Tryz.prog.info? 115).map (fun i=>(i.zero,i.size,i.bytes))=some (some (.agg #[.int .i64 0,.slice none 0 0]),2,32):=by kernel_rfl
theorem Wire.Enc.row{w w':World}{l:List Int}{e:Ending}(h:Wire.Enc w l e w')(hl:l≠[]):∃b c,e=.returned (.tuple #[.slice (some ⟨b,0,none⟩) l.length c,.int .u16 0])/\Own.Row w' (.slice (some ⟨b,0,none⟩) l.length c) 5 1 l.length (u8s l) (some b)/\w.heap.size<=b/\Below w.heap.size w w':=by
 obtain⟨base,v,rfl,ho,hb,hs,_,_⟩:=h;have R:=Own.Row.of_owns ho;obtain⟨_,⟨_,h0⟩|⟨b,cap,cur,rfl,hbb,_⟩⟩:=ho
 ·exact absurd (List.eq_nil_of_length_eq_zero h0) hl
 ·exact⟨b,cap,rfl,R,Nat.le_trans hs hbb,hb⟩
abbrev OutP:=Nat×List Int
def k0S:List OutP->List Value->List Value
 |p :: l,u :: us=>.int .i64 (p.1:Nat) :: u :: k0S l us
 |_,_=>[]
theorem k3X:∀(l:List OutP)(us:List Value),us.length=l.length->(k0S l us).length=l.length*2
 |[],_,_=>by simp[k0S]
 |p :: l,[],h=>by simp at h
 |p :: l,u :: us,h=>by
  have:=k3X l us zz74;simp[k0S,this];exact zz1
theorem k2g:∀(l:List OutP)(us:List Value)(p:OutP)(u:Value),us.length=l.length->k0S (l++[p]) (us++[u])=k0S l us++[.int .i64 (p.1:Nat),u]
 |[],us,p,u,h=>by
  obtain rfl:us=[]:=List.eq_nil_of_length_eq_zero zz74;rfl
 |q :: l,[],p,u,h=>by simp at h
 |q :: l,x :: us,p,u,h=>by
  have:=k2g l us p u zz74;simp[k0S,this]
theorem k3N:∀(l:List OutP)(us:List Value)(i:Nat)(p:OutP)(u:Value),l[i]? = some p->us[i]? = some u->(k0S l us)[i*2]? = some (.int .i64 (p.1:Nat))/\(k0S l us)[i*2+1]? = some u
 |[],_,i,p,u,h,_=>by simp at h
 |q :: l,[],i,p,u,_,h=>by simp at h
 |q :: l,x :: us,0,p,u,h1,h2=>by simp at h1 h2;subst h1;subst h2;exact⟨rfl,rfl⟩
 |q :: l,x :: us,i+1,p,u,h1,h2=>by
  have:=k3N l us i p u (by simpa using h1) (by simpa using h2);rw[show(i+1)*2=i*2+1+1 by omega,show i*2+1+1+1=(i*2+1)+1+1 by omega];simpa[k0S] using this
def OutsAt(w:World)(o:Nat->Col)(lo:Nat)(V:Value)(outs:List OutP):Prop:=∃us g,us.length=outs.length/\Row w V 115 2 outs.length (k0S outs us) g/\(∀b,g=some b->lo<=b/\o b=.junk)/\∀(i:Nat)(p:OutP)(u:Value),outs[i]? = some p->us[i]? = some u->∃gb,Row w u 5 1 p.2.length (u8s p.2) (some gb)/\lo<=gb/\o gb=.junk
theorem OutsAt.nil(w:World)(o:Nat->Col)(lo:Nat):OutsAt w o lo (.slice none 0 0) []:=⟨[],none,rfl,Row.nil _ _ _,zz6,fun i p u h=>by simp at h⟩
theorem OutsAt.tr{S:Col->Prop}{w w':World}{o o':Nat->Col}{lo:Nat}{V:Value}{outs:List OutP}(h:OutsAt w o lo V outs)(t:Tr S o w o' w')(hS:¬S .junk):OutsAt w' o' lo V outs:=by
 obtain⟨us,g,hl,r,hg,hr⟩:=h;refine⟨us,g,hl,r.only t.only (fun b e=>by rw[(hg b e).2];exact hS),fun b e=>⟨(hg b e).1,(t.own b (r.lt e)).trans (hg b e).2⟩,fun i p u hp hu=>?_⟩;obtain⟨gb,rb,hb,ob⟩:=hr i p u hp hu;exact⟨gb,rb.only t.only (fun b e=>by cases e;rw[ob];exact hS),hb,(t.own _ (rb.lt rfl)).trans ob⟩
theorem OutsAt.blw{w w':World}{o:Nat->Col}{lo:Nat}{V:Value}{outs:List OutP}(h:OutsAt w o lo V outs)(hf:Fresh o w)(b:Below w.heap.size w w'):OutsAt w' o lo V outs:=h.tr (Tr.below (S:=fun _=>False) hf b) (fun x=>x)
structure SayAt(w:World)(o:Nat->Col)(lo ob nb g:Nat)(outs:List OutP):Prop where
 out:∃V,w.heap[ob]? = some (.cells #[V] 113 (0,0))/\OutsAt w o lo V outs
 node:w.heap[nb]? = some (.cells #[.pointer (some ⟨g,0,none⟩)] 58 (0,0))
 lo1:lo<=ob
 lo2:lo<=nb
 j1:o ob=.junk
 j2:o nb=.junk
theorem SayAt.tr{S:Col->Prop}{w w':World}{o o':Nat->Col}{lo ob nb g:Nat}{outs:List OutP}(h:SayAt w o lo ob nb g outs)(t:Tr S o w o' w')(hS:¬S .junk):SayAt w' o' lo ob nb g outs:=by
 obtain⟨⟨V,h1,h2⟩,h3,h4,h5,h6,h7⟩:=h;exact⟨⟨V,t.blk h1 (by rw[h6];exact hS),h2.tr t hS⟩,t.blk h3 (by rw[h7];exact hS),h4,h5,(t.own _ (k03 h1)).trans h6,(t.own _ (k03 h3)).trans h7⟩
theorem SayAt.blw{w w':World}{o:Nat->Col}{lo ob nb g:Nat}{outs:List OutP}(h:SayAt w o lo ob nb g outs)(hf:Fresh o w)(b:Below w.heap.size w w'):SayAt w' o lo ob nb g outs:=h.tr (Tr.below (S:=fun _=>False) hf b) (fun x=>x)
def OutTy(w:World)(b:Nat):Prop:=∃(cur:Array Value)(T:TypeId),w.heap[b]? = some (Obj.cells cur T (0,0))/\(T=113\/T=115)
def SayP(w:World)(o:Nat->Col)(lo b:Nat):Prop:=lo<=b/\o b=.junk/\OutTy w b
section
variable{w:World}{o:Nat->Col}{v:Nat}{D:PlanD}{T:NTab}{st:NSt}{lo ob nb:Nat}{outs:List OutP}
def Said(w:World)(o:Nat->Col)(lo ob nb g:Nat)(outs:List OutP)(e:Ending)(w':World):Prop:=e=.returned (.tuple #[])/\Only (SayP w o lo) w w'/\SayAt w' o lo ob nb g outs
theorem k3i(i:Nat)(F:Wire.Fr)(H:NodeAt w o v D T st)(hf:Fresh o w)(Y:SayAt w o lo ob nb T.g outs)(hlo:lo<=w.heap.size)(hi:i<np D v)(hw:F.wf)(hs:F.sound=true)(hlen:outs.length<=10000) :
 Calls Tryz.prog 87 #[.int .i64 i,.agg #[.int .u8 F.k,.int .u8 F.l,.int .u16 F.s,.int .u8 F.a,.int .u8 F.b,.int .u32 F.y],.pointer (some ⟨ob,0,none⟩),.pointer (some ⟨nb,0,none⟩)] w (Said w o lo ob nb T.g (outs++[(k0G D v i,F.bytes)])):=by
 have hbl:F.bytes≠[]:=fun h=>by
  have:=Wire.bytes_len F;rw[h]at this;simp at this;split at this<;>omega
 have BX:Below w.heap.size w (w.alloc (.cells #[.int .u8 F.k,.int .u8 F.l,.int .u16 F.s,.int .u8 F.a,.int .u8 F.b,.int .u32 F.y] 163)):=(Below.refl _ w).alloc (Nat.le_refl _) _;have HE:=Ab (Wire.enc_fr F (w.alloc (.cells #[.int .u8 F.k,.int .u8 F.l,.int .u16 F.s,.int .u8 F.a,.int .u8 F.b,.int .u32 F.y] 163)) hw hs);have HX:=Ab BX;have HH:=Ac (_/\_/\_/\_) (⟨H,hf,Y,hlo⟩);have HBL:=Ab hbl;have i1:(i:Int)<(np D v:Nat):=zz1
 clear H hf Y hlo hw hs hbl BX;go_enter Tryz.func87,Tryz.ntmps87
 go_wp2_with(go_at_call 88;refine HE.1.mono ?_;intro e w2 he;obtain⟨bb,bc,rfl,hr,hb,hB⟩:=Wire.Enc.row he HBL.1;have K:=Ac (_/\_/\_) (⟨hr,hb,HX.1.trans (hB.mono HX.1.size)⟩);clear hr hb hB he)
 obtain⟨H,hf,Y,hlo⟩:=HH.1;have H2:=H.blw hf K.1.2.2;have Y2:=Y.blw hf K.1.2.2;have F2:=Ab (hf.blw K.1.2.2);obtain⟨⟨V,y1,us,g,y2,y3,y4,y5⟩,y6,y7,y8,y9,y10⟩:=id Y2;obtain⟨n,hn⟩:∃n,n=outs.length:=⟨_,rfl⟩;rw[<- hn]at y3;obtain⟨A,c,rfl,_⟩:=y3.size;have HN:=Ab hn;have hn1:n<=10000:=by rw[hn];exact hlen
 have hob:=k03 y1;have HS:=Sat.mk (S:=fun(W:World)=>W.cell? ⟨ob,0,none⟩=some (.slice A n c)/\W.cell? ⟨nb,0,none⟩=some (.pointer (some ⟨T.g,0,none⟩))/\W.cell? ⟨T.g,13,none⟩=some (.slice (some ⟨T.pb,T.po,none⟩) (np D v:Nat) T.pc)/\W.cell? ⟨T.pb,T.po+i*3,none⟩=some (.int .i64 (k0G D v i:Nat))) (w:=w2) (⟨(k00 y1 0).trans rfl,(k00 y6 0).trans rfl,(k00 H2.blk 13).trans rfl,(H2.port i hi).1⟩);have G:=Ac ((∀u∈[Value.int .i64 (k0G D v i:Nat),.slice (some ⟨bb,0,none⟩) F.bytes.length bc],u.oneCell'=true)) zz59;have YY:=Ac (_/\_/\_/\_/\_/\_/\_/\_/\_/\_) (⟨y1,y2,y3,y4,y5,y6,y7,y8,y9,y10⟩);have H2:=Ab H2;have hgo:∀b,g=some b->b≠ob/\b≠nb/\b≠T.g/\b≠T.pb:=fun b e=>by
  obtain⟨cur,hc⟩:=(e▸y3:Row w2 (.slice A n c) 115 2 n (k0S outs us) (some b)).blk_ty;obtain⟨cur4,hc4⟩:=H2.1.ports.blk_ty;exact⟨k0u hc y1 zz7,k0u hc y6 zz7,k0u hc H2.1.blk zz7,k0u hc hc4 zz7⟩
 have HGO:=Ab hgo;clear H hf Y hlo y1 y2 y3 y4 y5 y6 y7 y8 y9 y10 hn Y2 hgo hlen;have S1:=Ac ((fun(W:World)=>W.cell? ⟨ob,0,none⟩=some (.slice A n c)/\W.cell? ⟨nb,0,none⟩=some (.pointer (some ⟨T.g,0,none⟩))/\W.cell? ⟨T.g,13,none⟩=some (.slice (some ⟨T.pb,T.po,none⟩) (np D v:Nat) T.pc)/\W.cell? ⟨T.pb,T.po+i*3,none⟩=some (.int .i64 (k0G D v i:Nat))) (w2.alloc (.cells #[.int .i64 (k0G D v i:Nat),.slice (some ⟨bb,0,none⟩) F.bytes.length bc] 115)).drew) (by
  have hb:Below w2.heap.size w2 (w2.alloc (.cells #[.int .i64 (k0G D v i:Nat),.slice (some ⟨bb,0,none⟩) F.bytes.length bc] 115)).drew:=((Below.refl _ w2).alloc (Nat.le_refl _) _).drew;obtain⟨k0,k1,k2,k3⟩:=HS.1;exact⟨k01 hb k0,k01 hb k1,k01 hb k2,k01 hb k3⟩)
 go_wp2;refine WpL.rg HS 13 zz2 ?_;refine WpL.T 0 [] HS.1 ?_;refine WpL.T 1 [] HS.1 ?_;refine WpL.T 2 [] HS.1 ?_;refine WpL.T 3 [] HS.1 ?_;refine WpL.T 4 [] HS.1 ?_;refine WpL.T 5 [] HS.1 ?_;refine WpL.T 6 [] HS.1 ?_;refine WpL.T 7 [] HS.1 ?_;refine WpL.T 8 [] HS.1 ?_;refine WpL.T 9 [] HS.1 ?_;refine WpL.T 10 [] HS.1 ?_;refine WpL.one (i:=11) zz2 rfl (fun K hK=>?_);go_simp;refine hK.out _ _ (fun _=>S1.1) ?_;clear hK K
 try refine Sm ?_
 refine WpL.one (i:=12) zz2 rfl (fun K hK=>?_);refine k0w rfl _ _ 113 115 (.agg #[.int .i64 0,.slice none 0 0]) 2 32 rfl Tryz.underlying113 kck rfl zz7 zz7 (.slice A n c) n (k0S outs us) [.int .i64 (k0G D v i:Nat),.slice (some ⟨bb,0,none⟩) F.bytes.length bc] g YY.1.2.2.1.drew rfl rfl rfl rfl G.1 zz1 ?_;intro v3 w3 g3 R3 O3' G3;obtain⟨A3,c3,rfl,_⟩:=R3.size;have O3:=Ab (Only.undrew O3');have HS3:=HS.to w3 (by obtain⟨k0,k1,k2,k3⟩:=HS.1;exact⟨O3.1.cell k0 (fun h=>(HGO.1 _ h).1 rfl),O3.1.cell k1 (fun h=>(HGO.1 _ h).2.1 rfl),O3.1.cell k2 (fun h=>(HGO.1 _ h).2.2.1 rfl),O3.1.cell k3 (fun h=>(HGO.1 _ h).2.2.2 rfl)⟩);have Z3:=Ab (O3.1.blk YY.1.1 (fun h=>(HGO.1 _ h).1 rfl));have f3:=k02 Z3.1 0;have c3':=HS3.1.1;have HR3:=Ab R3;have HG3:=Ab G3;clear R3 O3' G3;refine hK.out _ _ (fun _=>HS3.1) ?_;clear hK K
 try refine Sm ?_
 refine WpL.one (i:=13) zz2 rfl (fun K hK=>?_);go_simp;refine hK.out _ _ (fun h=>absurd rfl h) ?_;clear hK K
 try refine Sm ?_
 refine WpL.done zz2 ?_ _;go_wp2;go_end0;obtain⟨z1,z2,z3,z4,z5,z6,z7,z8,z9,z10⟩:=YY.1;have hf0:Fresh o w:=HH.1.2.1;have OS:=k0j w3 ob 0 (.slice A3 (n+1) c3);have hob3:=k03 Z3.1;have hbb:=K.1.1.lt rfl;have hbl3:bb<w3.heap.size:=Nat.lt_of_lt_of_le hbb O3.1.size;obtain⟨curb,hcb⟩:=K.1.1.blk_ty;have hbob:bb≠ob:=k0u hcb z1 zz7;have keep:∀(b:Nat)(cur:Array Value),w2.heap[b]? = some (Obj.cells cur 5 (0,0))->(w3.setCell ⟨ob,0,none⟩ (.slice A3 (n+1) c3)).heap[b]? = w2.heap[b]?:=fun b cur hc=>by
  have h1:b≠ob:=k0u hc z1 zz7;refine(OS.keep b (Nat.lt_of_lt_of_le (k03 hc) O3.1.size) h1).trans (O3.1.keep b (k03 hc) (fun e=>?_));obtain⟨cur',hc'⟩:=(e▸z3:Row w2 (.slice A n c) 115 2 n (k0S outs us) (some b)).blk_ty;exact k0u hc hc' zz7 rfl
 refine⟨rfl,?_,⟨⟨_,(k05 Z3.1 0 (.slice A3 (n+1) c3)),us++[.slice (some ⟨bb,0,none⟩) F.bytes.length bc],g3,by simp[z2],?_,?_,?_⟩,?_,z7,z8,z9,z10⟩⟩
 ·refine(((Only.of_below K.1.2.2).then O3.1 (fun b hb h=>?_)).then OS (fun b hb e=>?_))
  ·obtain⟨cur',hc'⟩:=(h▸z3:Row w2 (.slice A n c) 115 2 n (k0S outs us) (some b)).blk_ty
   exact⟨(z4 b h).1,(z4 b h).2,cur',115,(K.1.2.2.block b hb).symm.trans hc',.inr rfl⟩
  ·rw[e]at hb ⊢
   exact⟨z7,z9,_,113,(K.1.2.2.block ob hb).symm.trans z1,.inl rfl⟩
 ·have h:=HR3.1.only OS (fun b e e2=>?_)
  ·rw[k2g _ _ _ _ z2,List.length_append,List.length_singleton,<- HN.1]
   exact h
  ·obtain⟨cur,hc⟩:=(e▸HR3.1:Row w3 (.slice A3 (n+1) c3) 115 2 (n+1) _ (some b)).blk_ty
   exact k0u hc Z3.1 zz7 e2
 ·intro b hb
  rcases HG3.1 with h|⟨b2,h,hb2⟩
  ·exact z4 b (h▸hb)
  ·rw[h]at hb
   cases hb;have h1:=K.1.2.2.size;have h2:w2.heap.size<=b:=hb2;exact⟨by have:=HH.1.2.2.2;omega,hf0 b zz1⟩
 ·intro j p u hp hu
  by_cases e:j<outs.length
  ·rw[List.getElem?_append_left e]at hp
   rw[List.getElem?_append_left zz1]at hu;obtain⟨gb,rb,h1,h2⟩:=z5 j p u hp hu;obtain⟨cur,hc⟩:=rb.blk_ty;exact⟨gb,rb.of_blk (fun b e'=>by cases e';exact keep _ _ hc),h1,h2⟩
  ·have hj:j=outs.length:=by have:=(List.getElem?_eq_some_iff.1 hp).1;simp at this;omega
   subst hj;rw[List.getElem?_append_right (Nat.le_refl _)]at hp;rw[<- z2,List.getElem?_append_right (Nat.le_refl _)]at hu;simp at hp hu;subst hp;subst hu;refine⟨bb,K.1.1.of_blk (fun b e'=>by cases e';exact keep _ _ hcb),?_,hf0 bb ?_⟩
   ·have:=K.1.2.1;have:=HX.1.size;have:=HH.1.2.2.2;omega
   ·have:=K.1.2.1;have:=HX.1.size;omega
 ·exact(OS.keep nb (Nat.lt_of_lt_of_le (k03 z6) O3.1.size) (k0u z6 z1 zz7)).trans ((O3.1.keep nb (k03 z6) (fun h=>(HGO.1 _ h).2.1 rfl)).trans z6)
end
end Go.Proofs.YtdopmlopafgonaaGreatDoor.Own
