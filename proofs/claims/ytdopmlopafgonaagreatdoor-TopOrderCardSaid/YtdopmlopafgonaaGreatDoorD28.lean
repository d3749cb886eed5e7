/- TopOrder: of each flow what came is some of what was injected, in its order (a part of the walks and of the plain laws). -/
import Derived.Test.YtdopmlopafgonaaGreatDoorD0
import Derived.Test.YtdopmlopafgonaaGreatDoorD26
import Derived.Test.YtdopmlopafgonaaGreatDoorD27
import Derived.Lib.RowBridge
set_option linter.unusedVariables false
set_option linter.unusedSimpArgs false
set_option maxHeartbeats 4000000
set_option maxRecDepth 100000
namespace Go.Proofs.YtdopmlopafgonaaGreatDoor.Own
open Go.RowKit Go.Proofs.YtdopmlopafgonaaGreatDoorW.PrintWords Go.Proofs.YtdopmlopafgonaaGreatDoorW.PrintLast Go.Proofs.YtdopmlopafgonaaGreatDoorW.PrintMore
open Go.Shelf Go.Sort
def k0d(l:List (Nat×Nat)):List Value:=l.flatMap fun e=>[Value.int .i64 (e.1:Nat),Value.int .i64 (e.2:Nat)]
theorem k18(l:List (Nat×Nat)):(k0d l).length=l.length*2:=by
 induction l with
 |nil=>rfl
 |cons e l ih=>simp[k0d]at ih ⊢;omega
theorem k0M(l:List (Nat×Nat))(k:Nat)(e:Nat×Nat)(h:l[k]? = some e):(k0d l)[k*2]? = some (.int .i64 (e.1:Nat))/\(k0d l)[k*2+1]? = some (.int .i64 (e.2:Nat)):=by
 induction l generalizing k with
 |nil=>simp at h
 |cons a l ih=>
  have hc:k0d (a :: l)=.int .i64 (a.1:Nat) :: .int .i64 (a.2:Nat) :: k0d l:=by simp[k0d]
  rw[hc];cases k with
  |zero=>simp at h;subst h;exact⟨rfl,rfl⟩
  |succ k=>
   have:=ih k zz74;rw[show(k+1)*2=k*2+1+1 by omega,show(k*2+1+1+1)=(k*2+1)+1+1 by omega];exact zz39
def PlanV(w:World)(B:Nat->Prop)(v:Value)(D:PlanD):Prop:=
 ∃(ev wv nv:Value)(rows:List Value)(ge gw gn:Option Nat)(gs:Nat->Option Nat),v=.agg #[.int .i64 D.nodes,ev,.int .i64 D.lanes,.int .i64 D.room,.int .i64 D.queue,.int .i64 D.rounds,.int .i64 D.every,.int .i64 D.bag,wv,.int .u16 D.start,nv] /\
  Row w ev 131 2 D.edges.length (k0d D.edges) ge/\Row w wv 3 1 D.weights.length (i64s D.weights) gw/\Row w nv 29 1 D.next.length rows gn /\
  (∀i r,D.next[i]? = some r->∃u,rows[i]? = some u/\Row w u 3 1 r.length (i64s r) (gs i)/\∀b,gs i=some b->B b)/\(∀b,ge=some b->B b)/\(∀b,gw=some b->B b)/\(∀b,gn=some b->B b)
theorem PlanV.keep{w w':World}{B:Nat->Prop}{v:Value}{D:PlanD}(h:PlanV w B v D)(k:∀b,b<w.heap.size->B b->w'.heap[b]? = w.heap[b]?):PlanV w' B v D:=by
 obtain⟨ev,wv,nv,rows,ge,gw,gn,gs,hv,r1,r2,r3,r4,b1,b2,b3⟩:=h;refine⟨ev,wv,nv,rows,ge,gw,gn,gs,hv,r1.of_blk (fun b e=>k b (r1.lt e) (b1 b e)),r2.of_blk (fun b e=>k b (r2.lt e) (b2 b e)),r3.of_blk (fun b e=>k b (r3.lt e) (b3 b e)),fun i r hr=>?_,b1,b2,b3⟩;obtain⟨u,hu,ru,bu⟩:=r4 i r hr;exact⟨u,hu,ru.of_blk (fun b e=>k b (ru.lt e) (bu b e)),bu⟩
theorem PlanV.below{w w':World}{B:Nat->Prop}{v:Value}{D:PlanD}(h:PlanV w B v D)(k:Below w.heap.size w w'):PlanV w' B v D:=h.keep fun b hb _=>k.block b hb
def k0k(D:PlanD)(v:Nat):Nat->List Nat
 |0=>[]
 |k+1=>match D.edges[k]? with
  |some (a,b)=>if a=b then k0k D v k else if a=v then k0k D v k++[b] else if b=v then k0k D v k++[a] else k0k D v k
  |none=>k0k D v k
theorem k2T(D:PlanD)(v:Nat):∀k,(k0k D v k).length<=k
 |0=>Nat.le_refl _
 |k+1=>by
  have:=k2T D v k;unfold k0k;split
  ·split
   ·exact zz1
   ·split
    ·exact zz20
    ·split
     ·exact zz20
     ·exact zz1
  ·exact zz1
theorem k5l(D:PlanD)(v:Nat):∀k,k0k D v k=besL (D.edges.take k) v
 |0=>by simp[k0k,besL]
 |k+1=>by
  have ih:=k5l D v k;unfold k0k;rw[List.take_add_one];cases h:D.edges[k]? with
  |none=>simpa using ih
  |some p=>
   obtain⟨a,b⟩:=p;have e:besL (D.edges.take k++[(a,b)]) v=besL (D.edges.take k) v++(if a=b then[] else if a=v then[b] else if b=v then[a] else[]):=by simp[besL]
   simp only[Option.toList];rw[e,<- ih];split
   ·exact zz6
   ·split
    ·rfl
    ·split
     ·rfl
     ·exact zz6
theorem ka4(l:List Nat):(l.map fun(n:Nat)=>(n:Int)).map (Value.int .i64)=i64s l:=by simp[i64s]
def kaA(D:PlanD)(x:Nat)(w:World)(e:Ending)(w':World):Prop:=∃pb po c,e=.returned (.slice (some ⟨pb,po,none⟩) (D.bs x).length c)/\Row w' (.slice (some ⟨pb,po,none⟩) (D.bs x).length c) 3 1 (D.bs x).length (i64s (D.bs x)) (some pb)/\w.heap.size<=pb/\Below w.heap.size w w'
theorem eset(V:Value)(Y:Value)(h:V=Y):Ending.returned V=.returned Y:=by rw[h]
theorem k5f(pb po c:Nat){n:Nat}(S:List Int)(w:World)(h:Row w (.slice (some ⟨pb,po,none⟩) n c) 3 1 n (S.map (Value.int .i64)) (some pb))(hn0:0<n)(hS:S.length=n)(hn:n<1000:=by omega) :
 Calls Tryz.prog 108 #[.slice (some ⟨pb,po,none⟩) n c] w fun e w'=>e=.returned (.slice (some ⟨pb,po,none⟩) (Lib.compact S).length c)/\Row w' (.slice (some ⟨pb,po,none⟩) (Lib.compact S).length c) 3 1 (Lib.compact S).length ((Lib.compact S).map (Value.int .i64)) (some pb)/\Only (fun b=>b=pb) w w':=by
 obtain⟨_,_,_,e,hA,hc,hfz,hcell⟩:=h.open hn0;simp only[Value.slice.injEq,Option.some.injEq,Addr.mk.injEq,and_true,true_and]at hA;obtain⟨⟨rfl,rfl⟩,rfl⟩:=hA;have hH:Holds (Value.int .i64) w pb po S.toArray:=fun j hj=>by
  have hj':j<S.length:=zz83
  refine⟨(hcell j (by simp;exact hj')).trans ?_,hfz _⟩;simp[hj']
 subst hS;refine(k5Z pb po c S w hH hn hc).mono ?_;rintro e w' ⟨rfl,q,rfl⟩;have hle:(Lib.compact S).length<=S.length:=by first|exact Lib.compact_length_le S|exact compact_length_le S|exact Go.Lib.compact_length_le S
 obtain⟨R2,O2⟩:=k7r (k:=q) (os:=#[]) (Lib.compact S++List.replicate (S.length-(Lib.compact S).length) 0) h hn0 zz20;rw[grow_empty]at R2 O2;have R3:=R2.first hle;refine⟨rfl,?_,O2⟩;simpa using R3
theorem k1r(B:Nat->Prop)(v:Value)(D:PlanD)(x:Nat)(w:World)(hP:PlanV w B v D)(G:Good D)(hxn:x<D.nodes) :
 Calls Tryz.prog 63 #[v,.int .i64 x] w (kaA D x w):=by
 have he:=G.el;have hx:x<100:=by have:=G.n1;omega
 have hb:∀p∈D.edges,p.1<100/\p.2<100:=fun p hp=>by have:=G.eb p hp;have:=G.n1;omega
 have hall:k0k D x D.edges.length=besL D.edges x:=by rw[k5l,List.take_length]
 have hne:k0k D x D.edges.length≠[]:=by
  rw[hall];intro h;have hp:=G.bp x hxn;rw[h]at hp;exact G.bn x hxn (List.nil_perm.1 hp)
 have hso:=Ab (k63 G hxn);have HAL:=Ab hall;clear hall G hxn;have hb':=hb;obtain⟨ev,wv,nv,rows,ge,gw,gn,gs,rfl,r1,r2,r3,r4,b1,b2,b3⟩:=hP;obtain⟨A,cap,rfl,_⟩:=r1.size;obtain⟨A2,cap2,rfl,_⟩:=r2.size;obtain⟨A3,cap3,rfl,_⟩:=r3.size;have R1:=Ab r1;clear r1 r2 r3 r4;go_enter Tryz.func63,Tryz.ntmps63;go_wp2;clear b1 b2 b3 hb;have HB:=Ab hb';clear hb'
 go_loopw [5,11] (fun s5 s11 wr=>∃(k c:Nat)(A5:Option Addr)(g5:Option Nat),k<=D.edges.length/\s11=.int .i64 k/\s5=.slice A5 (k0k D x k).length c /\
  k07 (Row wr (.slice A5 (k0k D x k).length c) 3 1 (k0k D x k).length (i64s (k0k D x k)) g5/\Below w.heap.size w wr/\∀b,g5=some b->w.heap.size<=b)) (fun _ s11 _=>D.edges.length-ixOf s11)
 case atStart=>exact⟨0,0,none,none,zz1,rfl,rfl,⟨⟨Row.nil _ _ _,(Below.refl _ w).alloc (Nat.le_refl _) _,zz6⟩⟩⟩
 case round=>
  obtain⟨k,c,A5,g5,hk,rfl,rfl,R⟩:=hrel;by_cases hlt:k<D.edges.length
  ·have e1:(k:Int)<(D.edges.length:Int):=by omega
   obtain⟨⟨a,b⟩,hab⟩:∃p,D.edges[k]? = some p:=⟨_,List.getElem?_eq_getElem hlt⟩;obtain⟨ha,hbb⟩:=HB.1 _ (List.mem_of_getElem? hab);obtain⟨eb,eo,ec,hge,hA,_,_,hcell⟩:=(R1.1.below R.1.2.1).open (by omega:0<D.edges.length);simp only[Value.slice.injEq]at hA;obtain⟨rfl,-,rfl⟩:=hA;obtain⟨g0,g1⟩:=k0M _ _ _ hab;have c0:wr.cell? ⟨eb,eo+k*2,none⟩=some (.int .i64 (a:Nat)):=(hcell _ zz56).trans g0;have c1:wr.cell? ⟨eb,eo+k*2+1,none⟩=some (.int .i64 (b:Nat)):=(hcell (k*2+1) zz56).trans g1;clear hcell g0 g1 hge;have hlen:=k2T D x k;by_cases hab':a=b
   ·have e2:((a:Int) == (b:Int))=true:=by rw[hab'];exact beq_self_eq_true _
    have hL:k0k D x (k+1)=k0k D x k:=by show(match D.edges[k]? with|some (a,b)=>_|none=>_)=_;rw[hab];simp[hab']
    have HL:=Ab hL;clear hL hab;exact zz38
   ·have e2:((a:Int) == (b:Int))=false:=beq_eq_false_iff_ne.mpr zz1
    by_cases hax:a=x
    ·have e3:((a:Int) == (x:Int))=true:=by rw[hax];exact beq_self_eq_true _
     have hL:k0k D x (k+1)=k0k D x k++[b]:=by show(match D.edges[k]? with|some (a,b)=>_|none=>_)=_;rw[hab];simp[hab',hax];omega
     have HL:=Ab hL;clear hL hab
     go_wp2_with(at_builtin;refine k0z rfl _ _ 29 3 (.int .i64 0) 1 8 rfl Tryz.underlying29 k1o rfl zz7 zz7 (.slice A5 (k0k D x k).length c) (k0k D x k).length (i64s (k0k D x k)) [.int .i64 (b:Nat)] g5 (R.1.1.alloc _) rfl rfl (World.size_alloc _ _).symm rfl zz34 zz1 ?_;intro v1 w1 g1 R1p O1 G1;have K1:=Ac (_/\_/\_) (⟨R1p,O1,G1⟩);obtain⟨A1,k1,rfl,_⟩:=R1p.size;clear R1p O1 G1)
     have hl1:(k0k D x k).length+1=(k0k D x (k+1)).length:=by rw[HL.1];simp
     have hl2:i64s (k0k D x k)++[.int .i64 (b:Nat)]=i64s (k0k D x (k+1)):=by rw[HL.1];simp[i64s]
     refine⟨⟨k+1,k1,A1,g1,zz1,rfl,by rw[hl1],⟨⟨by rw[<- hl1,<- hl2];exact K1.1.1,?_,?_⟩⟩⟩,?_⟩
     ·exact((Only.of_below (P:=fun b=>w.heap.size<=b) (R.1.2.1.alloc R.1.2.1.size _)).then K1.1.2.1 (fun b _ hq=>R.1.2.2 b hq)).toBelow (fun b hb hq=>by omega)
     ·intro b' hb'
      rcases K1.1.2.2 with h|⟨b2,h,hb2⟩
      ·exact R.1.2.2 b' (h▸hb')
      ·rw[h]at hb';cases hb';have:=R.1.2.1.size;simp at hb2;omega
     ·show D.edges.length-ixOf (.int .i64 ((k:Int)+1))<D.edges.length-ixOf (.int .i64 (k:Int))
      simp only[ixOf];exact zz1
    ·have e3:((a:Int) == (x:Int))=false:=beq_eq_false_iff_ne.mpr zz1
     by_cases hbx:b=x
     ·have e4:((b:Int) == (x:Int))=true:=by rw[hbx];exact beq_self_eq_true _
      have hL:k0k D x (k+1)=k0k D x k++[a]:=zz102
      have HL:=Ab hL;clear hL hab
      go_wp2_with(at_builtin;refine k0z rfl _ _ 29 3 (.int .i64 0) 1 8 rfl Tryz.underlying29 k1o rfl zz7 zz7 (.slice A5 (k0k D x k).length c) (k0k D x k).length (i64s (k0k D x k)) [.int .i64 (a:Nat)] g5 (R.1.1.alloc _) rfl rfl (World.size_alloc _ _).symm rfl zz34 zz1 ?_;intro v1 w1 g1 R1p O1 G1;have K1:=Ac (_/\_/\_) (⟨R1p,O1,G1⟩);obtain⟨A1,k1,rfl,_⟩:=R1p.size;clear R1p O1 G1)
      have hl1:(k0k D x k).length+1=(k0k D x (k+1)).length:=by rw[HL.1];simp
      have hl2:i64s (k0k D x k)++[.int .i64 (a:Nat)]=i64s (k0k D x (k+1)):=by rw[HL.1];simp[i64s]
      refine⟨⟨k+1,k1,A1,g1,zz1,rfl,by rw[hl1],⟨⟨by rw[<- hl1,<- hl2];exact K1.1.1,?_,?_⟩⟩⟩,?_⟩
      ·exact((Only.of_below (P:=fun b=>w.heap.size<=b) (R.1.2.1.alloc R.1.2.1.size _)).then K1.1.2.1 (fun b _ hq=>R.1.2.2 b hq)).toBelow (fun b hb hq=>by omega)
      ·intro b' hb'
       rcases K1.1.2.2 with h|⟨b2,h,hb2⟩
       ·exact R.1.2.2 b' (h▸hb')
       ·rw[h]at hb';cases hb';have:=R.1.2.1.size;simp at hb2;omega
      ·show D.edges.length-ixOf (.int .i64 ((k:Int)+1))<D.edges.length-ixOf (.int .i64 (k:Int))
       simp only[ixOf];exact zz1
     ·have e4:((b:Int) == (x:Int))=false:=beq_eq_false_iff_ne.mpr zz1
      have hL:k0k D x (k+1)=k0k D x k:=zz102
      have HL:=Ab hL;clear hL hab;exact zz38
  ·have e1:¬(k:Int)<(D.edges.length:Int):=by omega
   obtain rfl:k=D.edges.length:=by omega
   obtain⟨L,hL⟩:∃L,L=k0k D x D.edges.length:=⟨_,rfl⟩;have hlen:=k2T D x D.edges.length;rw[<- hL]at R hlen hne;rw[<- hL];have HL:=Ab hL;clear hL;have hL0:0<L.length:=List.length_pos_iff.2 hne;obtain⟨pb,po,pc,hg5,hA5,hcap5,hfz,hcell⟩:=R.1.1.open hL0;simp only[Value.slice.injEq]at hA5;obtain⟨rfl,-,rfl⟩:=hA5;have hH:Holds (Value.int .i64) wr pb po (L.map (fun(n:Nat)=>(n:Int))).toArray:=fun j hj=>by
    have hj':j<L.length:=zz83
    refine⟨(hcell j (by simp[i64s];exact hj')).trans ?_,hfz _⟩;simp[i64s,hj']
   have hsort:=k5z pb po c (L.map (fun(n:Nat)=>(n:Int))) wr hH (R.1.1.lt hg5) zz20;rw[List.length_map]at hsort;clear hfz hcell hH;have hzl:(L.map (fun(n:Nat)=>(n:Int))).length=L.length:=List.length_map ..;obtain⟨S,hS⟩:∃S:List Int,S=(L.map (fun(n:Nat)=>(n:Int))).mergeSort fun x y=>decide (x<=y):=⟨_,rfl⟩
   have hSl:S.length=L.length:=by rw[hS,List.length_mergeSort,hzl]
   rw[<- hS]at hsort;have hbo:Lib.compact S=(D.bs x).map fun(n:Nat)=>(n:Int):=by rw[hS,HL.1,HAL.1];exact hso.1
   clear hS;have HBO:=Ab hbo;clear hbo;have KR:=Ac (_/\_) (⟨R.1,hg5⟩)
   go_wp2_with(first
    |(go_at_call 107;refine hsort.mono ?_;clear hsort;rintro e w2 ⟨rfl,n2,os,hw2⟩;obtain⟨R2,O2⟩:=k7r (k:=n2) (os:=os) S (hg5▸R.1.1) hL0 hSl;rw[<- hw2]at R2 O2;have K2:=Ac (_/\_) (⟨R2,O2⟩);clear R2 O2 hw2)
    |(go_at_call 108;refine(k5f pb po c S w2 K2.1.1 hL0 hSl).mono ?_;rintro e w3 ⟨rfl,R3,O3⟩;have K3:=Ac (_/\_) (⟨R3,O3⟩);clear R3 O3))
   go_ret;have hpb:=KR.1.1.2.2 pb KR.1.2;have hbl:(Lib.compact S).length=(D.bs x).length:=by rw[HBO.1,List.length_map]
   refine⟨pb,po,c,?_,?_,hpb,?_⟩
   ·refine eset _ _ ?_
    rw[<- hbl];rfl
   ·have h:=K3.1.1
    rw[hbl,HBO.1,ka4]at h;exact h
   ·exact(((Only.of_below (P:=fun b=>b=pb) KR.1.1.2.1).trans K2.1.2).trans K3.1.2).toBelow (fun b hb e=>by omega)
end Go.Proofs.YtdopmlopafgonaaGreatDoor.Own
