/- TopQuick: one packet alone is brought from host to host (a part of the walks and of the plain laws). -/
import Derived.Test.YtdopmlopafgonaaGreatDoorC0
import Derived.Test.YtdopmlopafgonaaGreatDoorC32
import Derived.Shelf.Slices.In.SortNone
set_option linter.unusedVariables false
set_option linter.unusedSimpArgs false
set_option maxHeartbeats 4000000
set_option maxRecDepth 100000
namespace Go.Proofs.YtdopmlopafgonaaGreatDoor.Own
open Go.RowKit Go.Proofs.YtdopmlopafgonaaGreatDoorW.PrintWords Go.Proofs.YtdopmlopafgonaaGreatDoorW.PrintLast Go.Proofs.YtdopmlopafgonaaGreatDoorW.PrintMore
open Go.Shelf Go.Sort
theorem k9q (p:Option Addr) (cap:Nat) (w:World):Calls Tryz.prog 107 #[.slice p 0 cap] w fun e w'=>e = .returned (.tuple #[])/\w'=w:=Any.slices_Sort_int_none Tryz.sortInts p cap w
def RkOk (D:PlanD) (rk:Nat->Nat->Nat):Prop:=∀ u v w,u<D.nodes->v∈D.bs u->w<D.nodes->w≠u->w≠v->D.nxt u w=v->rk v (D.nxt v w)<rk u v
def kc0 (D:PlanD) (rk:Nat->Nat->Nat) (m:Nat) (l:List Nat):Prop:=∀ i∈l,∃ x,D.hops[i]? = some x/\rk x.1 x.2<m
def k7j (D:PlanD) (rk:Nat->Nat->Nat) (m:Nat) (l:List Nat):Prop:=kc0 D rk m l/\l.length<=6
def kb4 (D:PlanD) (rk:Nat->Nat->Nat) (m:Nat) (w:World) (e:Ending) (w':World):Prop:=∃ V l g,e = .returned V/\Row w' V 3 1 l.length (i64s l) g/\Below w.heap.size w w'/\(∀ b,g=some b->w.heap.size<=b)/\k7j D rk m l
theorem k6b (D:PlanD) (p:Nat × Nat):∀ k,p∈k4x D k->p.1<k/\p.2∈D.bs p.1
 | 0,h=>by simp [k4x] at h
 | k+1,h=>by
   rw [k3w] at h;rcases List.mem_append.1 h with h | h
   · have:=k6b D p k h;exact ⟨zz1,this.2⟩
   · obtain ⟨w,hw,rfl⟩:=List.mem_map.1 h
     exact ⟨zz17,hw⟩
def Two (w W:World) (D:PlanD) (A1:Option Addr) (c1:Nat) (A2:Option Addr) (c2:Nat) (A3:Option Addr) (c3 u v:Nat):Prop:=W.heap[w.heap.size]? = some (pbox D A1 c1 A2 c2 A3 c3)/\W.heap[w.heap.size+1]? = some (.cells #[.int .i64 u,.int .i64 v] 90 (0,0))
theorem k6V (B:Nat->Prop) (vp vh:Value) (D:PlanD) (u v:Nat) (gh:Option Nat) (rk:Nat->Nat->Nat) (w:World) (hP:PlanV w B vp D) (G:Good D) (hR:Row w vh 90 2 D.hops.length (k0d D.hops) gh) (huv:(u,v)∈D.hops) (hrk:RkOk D rk) :
 Calls Tryz.prog 106 #[vp,.agg #[.int .i64 u,.int .i64 v],vh] w (kb4 D rk (rk u v) w):=by
 obtain ⟨A1,c1,A2,c2,A3,c3,rfl⟩:=hP.shape;obtain ⟨AH,ch,rfl,_⟩:=hR.size;have hlen:D.hops.length<=100:=by have:=k0N D G D.nodes (Nat.le_refl _);have:=G.n1;unfold PlanD.hops;omega
 obtain ⟨hu,hvu⟩:=k6b D _ _ huv;have hu:u<D.nodes:=hu;have hvu:v∈D.bs u:=hvu;have hv:v<D.nodes:=k71 hvu;have P1:=Ab hP;have HH:=Ab hR;have HG:=Ab G;have hn6:=G.n1;have HRK:=Ab (show _/\_ from ⟨hrk,hvu⟩);clear hP hR G hrk huv hvu;go_enter Tryz.func106,Tryz.ntmps106;go_wp2
 go_loopw [7,12] (fun s7 s12 wr=>∃ (k L c:Nat) (l:List Nat) (A5:Option Addr) (g5:Option Nat),k<=D.nodes/\s12 = .int .i64 k/\s7 = .slice A5 L c/\L<=k/\k08 (L=l.length/\kc0 D rk (rk u v) l)/\k08 (Row wr (.slice A5 L c) 3 1 L (i64s l) g5/\Below w.heap.size w wr/\(∀ b,g5=some b->w.heap.size+1<b)/\Two w wr D A1 c1 A2 c2 A3 c3 u v)) (fun _ s12 _=>D.nodes-ixOf s12)
 case atStart=>
  have hn:=heap_alloc_new (w.alloc (pbox D A1 c1 A2 c2 A3 c3)) (.cells #[.int .i64 u,.int .i64 v] 90);rw [World.size_alloc] at hn;exact ⟨0,0,0,[],none,none,zz1,rfl,rfl,zz1,⟨rfl,fun i hi=>(by cases hi)⟩,⟨Row.nil _ _ _,((Below.refl _ w).alloc (Nat.le_refl _) _).alloc zz17 _,zz17,(Below.heap_alloc _ _ _ zz17).trans (heap_alloc_new w _),hn⟩⟩
 case round=>
  obtain ⟨k,L,c,l,A5,g5,hk,rfl,rfl,hLk,HL,R⟩:=hrel;by_cases hlt:k<D.nodes
  · have e1:(k:Int)<(D.nodes:Int):=by omega
    have x0:wr.cell? ⟨w.heap.size+1,0,none⟩=some (.int .i64 u):=(k00 R.out.2.2.2.2 0).trans rfl;have x1:wr.cell? ⟨w.heap.size+1,1,none⟩=some (.int .i64 v):=(k00 R.out.2.2.2.2 1).trans rfl;by_cases hku:k=u
    · subst hku
      have e2:((k:Int) == (k:Int))=true:=beq_self_eq_true _;go_wp2
      go_quiet (fail)
      go_wp2;refine ⟨⟨k+1,L,c,l,A5,g5,zz1,rfl,rfl,zz1,HL,⟨R.out.1.drewN _,k0e R.out.2.1 _,R.out.2.2.1,R.out.2.2.2⟩⟩,?_⟩;exact zz19
    have e2:((k:Int) == (u:Int))=false:=beq_eq_false_iff_ne.mpr zz1;by_cases hkv:k=v
    · subst hkv
      have e3:((k:Int) == (k:Int))=true:=beq_self_eq_true _;go_wp2
      go_quiet (fail)
      go_wp2;refine ⟨⟨k+1,L,c,l,A5,g5,zz1,rfl,rfl,zz1,HL,⟨R.out.1.drewN _,k0e R.out.2.1 _,R.out.2.2.1,R.out.2.2.2⟩⟩,?_⟩;exact zz19
    have e3:((k:Int) == (v:Int))=false:=beq_eq_false_iff_ne.mpr zz1;obtain ⟨nb,no,rb0,ro0,rc0,e9,k1,k2⟩:=(P1.out.below R.out.2.1).way HG.out u k hu hlt;subst e9;obtain ⟨nb',no',rb,ro,rc,e9,k3,k4⟩:=(P1.out.below R.out.2.1).way HG.out v k hv hlt;simp only [Option.some.injEq,Addr.mk.injEq,and_true] at e9;obtain ⟨rfl,rfl⟩:=e9;have hnl:(D.next.length:Nat)=D.nodes:=HG.out.nl;have i1:(u:Int)<(D.next.length:Nat):=by omega
    have i2:(v:Int)<(D.next.length:Nat):=by omega
    have b10:wr.cell? ⟨w.heap.size,10,none⟩=some (.slice (some ⟨nb,no,none⟩) D.next.length c3):=(k00 R.out.2.2.2.1 10).trans rfl;by_cases hx:D.nxt u k=v
    · rw [hx] at k2
      have HS:=Ab (show (fun (W:World)=>W.cell? ⟨w.heap.size,10,none⟩=some (.slice (some ⟨nb,no,none⟩) D.next.length c3)/\W.cell? ⟨w.heap.size+1,1,none⟩=some (.int .i64 v)/\W.cell? ⟨nb,no+v,none⟩=some (.slice (some ⟨rb,ro,none⟩) D.nodes rc)/\W.cell? ⟨rb,ro+k,none⟩=some (.int .i64 (D.nxt v k:Nat))) wr from ⟨b10,x1,k3,k4⟩);have HKK:=Ab (show _/\_/\_/\_ from ⟨hku,hkv,hx,hnl⟩);have e4:((v:Int) != (v:Int))=false:=by simp
      clear hx hku hkv hnl;go_wp2
      go_quiet (fail)
      go_wp2;refine WpL.region (fun (W:World)=>W.cell? ⟨w.heap.size,10,none⟩=some (.slice (some ⟨nb,no,none⟩) D.next.length c3)/\W.cell? ⟨w.heap.size+1,1,none⟩=some (.int .i64 v)/\W.cell? ⟨nb,no+v,none⟩=some (.slice (some ⟨rb,ro,none⟩) D.nodes rc)/\W.cell? ⟨rb,ro+k,none⟩=some (.int .i64 (D.nxt v k:Nat))) 14 zz3 ?_;refine WpL.T 0 [] HS.out ?_;refine WpL.T 1 [] HS.out ?_;refine WpL.T 2 [] HS.out ?_;refine WpL.T 3 [] HS.out ?_;refine WpL.T 4 [] HS.out ?_;refine WpL.T 5 [] HS.out ?_;refine WpL.T 6 [] HS.out ?_;refine WpL.T 7 [] HS.out ?_;refine WpL.T 8 [] HS.out ?_;refine WpL.T 9 [] HS.out ?_;refine WpL.T 10 [] HS.out ?_;refine WpL.T 11 [] HS.out ?_;refine WpL.T 12 [] HS.out ?_;refine WpL.one (i:=13) zz3 rfl (fun K hK=>?_);go_simp;refine (kbb _ D.hops v (D.nxt v k) gh _ (((HH.out.below R.out.2.1).drewN _).drew) zz1).mono ?_;rintro e w3 ⟨r,rfl,hr,hb⟩;have B3:=Ab (show Below wr.heap.size wr w3 from undrewN (undrew hb));have HS3:=Ab (show (fun (W:World)=>W.cell? ⟨w.heap.size,10,none⟩=some (.slice (some ⟨nb,no,none⟩) D.next.length c3)/\W.cell? ⟨w.heap.size+1,1,none⟩=some (.int .i64 v)/\W.cell? ⟨nb,no+v,none⟩=some (.slice (some ⟨rb,ro,none⟩) D.nodes rc)/\W.cell? ⟨rb,ro+k,none⟩=some (.int .i64 (D.nxt v k:Nat))) w3 from by obtain ⟨k0,k1,k2,k3⟩:=HS.out;exact ⟨k01 B3.out k0,k01 B3.out k1,k01 B3.out k2,k01 B3.out k3⟩);have HR:=Ab hr;clear hb hr;simp only [];refine hK.out _ _ (fun _=>HS3.out) ?_;clear hK K
      try refine Sm ?_
      refine WpL.one (i:=14) zz3 rfl (fun K hK=>?_);go_simp;refine hK.out _ _ (fun h=>absurd rfl h) ?_;clear hK K
      try refine Sm ?_
      refine WpL.done zz3 ?_ _;have T3:=Ab (show Two w w3 D A1 c1 A2 c2 (some ⟨nb,no,none⟩) c3 u v from ⟨(B3.out.block _ (k03 R.out.2.2.2.1)).trans R.out.2.2.2.1,(B3.out.block _ (k03 R.out.2.2.2.2)).trans R.out.2.2.2.2⟩);have L3:=Ab (R.out.2.1.trans (B3.out.mono R.out.2.1.size));rcases HR.out with ⟨i,rfl,hi⟩ | ⟨rfl,_⟩
      · have e5:(0:Int)<=(i:Int):=by omega
        have HI:=Ab hi;have hil:i<D.hops.length:=(List.getElem?_eq_some_iff.1 hi).1;clear hi
        go_wp2_with (at_builtin;refine k0P rfl _ _ 29 3 (.int .i64 0) 1 8 rfl Tryz.underlying29 k1k rfl zz8 zz8 (.slice A5 L c) L (i64s l) [.int .i64 (i:Nat)] g5 (R.out.1.below B3.out) rfl rfl rfl rfl zz27 zz1 ?_;intro v1 w4 g1 R1p O1 G1;have K1:=Ab (show _/\_/\_ from ⟨R1p,O1,G1⟩);obtain ⟨A1',k1,rfl,_⟩:=R1p.size;clear R1p O1 G1)
        refine ⟨⟨k+1,L+1,k1,l++[i],A1',g1,zz1,rfl,rfl,zz1,⟨by have:=HL.out.1;simp;omega,fun j hj=>?_⟩,⟨by have h:=K1.out.1;simpa [i64s] using h,?_,?_,?_,?_⟩⟩,?_⟩
        · rcases List.mem_append.1 hj with hj | hj
          · exact HL.out.2 j hj
          · simp at hj;subst hj
            refine ⟨_,HI.out,?_⟩;exact HRK.out.1 u v k hu HRK.out.2 hlt HKK.out.1 HKK.out.2.1 HKK.out.2.2.1
        · exact ((Only.of_below (P:=fun b=>w.heap.size<=b) L3.out).then K1.out.2.1 (fun b _ hq=>by have:=R.out.2.2.1 b hq;omega)).toBelow (fun b hb hq=>by omega)
        · intro b' hb'
          rcases K1.out.2.2 with h | ⟨b2,h,hb2⟩
          · exact R.out.2.2.1 b' (h ▸ hb')
          · rw [h] at hb';cases hb';have:=k03 T3.out.2;omega
        · exact (K1.out.2.1.keep _ (k03 T3.out.1) (fun h=>by have:=R.out.2.2.1 _ h;omega)).trans T3.out.1
        · exact (K1.out.2.1.keep _ (k03 T3.out.2) (fun h=>by have:=R.out.2.2.1 _ h;omega)).trans T3.out.2
        · show D.nodes-ixOf (.int .i64 ((k:Int)+1))<D.nodes-ixOf (.int .i64 (k:Int))
          simp only [ixOf];exact zz1
      · go_wp2
        refine ⟨⟨k+1,L,c,l,A5,g5,zz1,rfl,rfl,zz1,HL,⟨R.out.1.below B3.out,L3.out,R.out.2.2.1,T3.out⟩⟩,?_⟩;exact zz19
    · have e4:((D.nxt u k:Int) != (v:Int))=true:=by simp;omega
      clear hnl;go_wp2
      go_quiet (fail)
      go_wp2;refine ⟨⟨k+1,L,c,l,A5,g5,zz1,rfl,rfl,zz1,HL,⟨R.out.1.drewN _,k0e R.out.2.1 _,R.out.2.2.1,R.out.2.2.2⟩⟩,?_⟩;exact zz19
  · have e1:¬ (k:Int)<(D.nodes:Int):=by omega
    rcases Nat.eq_zero_or_pos L with hz | hz
    · subst hz
      have hl0:l=[]:=List.eq_nil_of_length_eq_zero (by have:=HL.out.1;omega);have Hl0:=Ab hl0;clear hl0
      go_wp2_with (first
       | (go_at_call 107;refine (k9q _ _ _).mono ?_;rintro e w2 ⟨rfl,rfl⟩)
       | (go_at_call 108;refine (k6p _ _ _).mono ?_;rintro e w3 ⟨rfl,rfl⟩))
      go_ret;exact ⟨.slice A5 0 c,[],g5,eset _ _ rfl,by have h:=R.out.1;rw [Hl0.out] at h;exact h,R.out.2.1,fun b hb=>by have:=R.out.2.2.1 b hb;omega,fun i hi=>(by cases hi),zz17⟩
    · obtain ⟨pb,po,pc,hg5,hA5,hcap5,hfz,hcell⟩:=R.out.1.open hz
      simp only [Value.slice.injEq] at hA5;obtain ⟨rfl,-,rfl⟩:=hA5;have hll:=HL.out.1;have hH:Holds (Value.int .i64) wr pb po (l.map (fun (n:Nat)=>(n:Int))).toArray:=fun j hj=>by
       have hj':j<l.length:=by simpa using hj
       refine ⟨(hcell j (by simp [i64s];exact hj')).trans ?_,hfz _⟩;simp [i64s,hj']
      have hsort:=k4M pb po c (l.map (fun (n:Nat)=>(n:Int))) wr hH (R.out.1.lt hg5) zz25;rw [List.length_map,<- hll] at hsort;clear hfz hcell hH;obtain ⟨S,hS⟩:∃ S:List Int,S=(l.map (fun (n:Nat)=>(n:Int))).mergeSort fun x y=>decide (x<=y):=⟨_,rfl⟩
      have hSl:S.length=L:=by rw [hS,List.length_mergeSort,List.length_map,hll]
      rw [<- hS] at hsort;have hSm:∀ x∈S,∃ i∈l,x=(i:Nat):=fun x hx=>by
       rw [hS] at hx;obtain ⟨i,hi,rfl⟩:=List.mem_map.1 (((List.mergeSort_perm _ _).mem_iff).1 hx);exact ⟨i,hi,rfl⟩
      have HSm:=Ab (show _/\_ from ⟨hSm,hSl⟩);have Hll:=Ab hll;clear hS hSm hSl hll;have KR:=Ab (show _/\_ from ⟨R.out,hg5⟩)
      go_wp2_with (first
       | (go_at_call 107;refine hsort.mono ?_;clear hsort;rintro e w2 ⟨rfl,n2,os,hw2⟩;obtain ⟨R2,O2⟩:=k6T (k:=n2) (os:=os) S (hg5 ▸ R.out.1) hz HSm.out.2;rw [<- hw2] at R2 O2;have K2:=Ab (show _/\_ from ⟨R2,O2⟩);clear R2 O2 hw2)
       | (go_at_call 108;refine (k4V pb po c S w2 K2.out.1 hz HSm.out.2).mono ?_;rintro e w3 ⟨rfl,R3,O3⟩;have K3:=Ab (show _/\_ from ⟨R3,O3⟩);clear R3 O3))
      go_ret;have hpb:=KR.out.1.2.2.1 pb KR.out.2;have hnn:∀ x∈Lib.compact S,∃ i∈l,x=(i:Nat):=fun x hx=>HSm.out.1 x (k6O S x hx)
      have hmm:i64s ((Lib.compact S).map Int.toNat)=(Lib.compact S).map (Value.int .i64):=by
       unfold i64s;rw [List.map_map];refine List.map_congr_left fun x hx=>?_
       obtain ⟨i,_,rfl⟩:=hnn x hx;exact zz17
      refine ⟨.slice (some ⟨pb,po,none⟩) (Lib.compact S).length c,(Lib.compact S).map Int.toNat,some pb,eset _ _ rfl,?_,?_,fun b hb=>by cases hb;omega,fun i hi=>?_,?_⟩
      · rw [hmm,List.length_map];exact K3.out.1
      · exact (((Only.of_below (P:=fun b=>b=pb) KR.out.1.2.1).trans K2.out.2).trans K3.out.2).toBelow (fun b hb e=>by omega)
      · obtain ⟨x,hx,rfl⟩:=List.mem_map.1 hi
        obtain ⟨j,hj,rfl⟩:=hnn x hx;exact HL.out.2 _ (by simpa using hj)
      · have h1:=Lib.compact_length_le S
        have h2:=HSm.out.2;rw [List.length_map];exact zz1
end Go.Proofs.YtdopmlopafgonaaGreatDoor.Own
namespace Go.Proofs.YtdopmlopafgonaaGreatDoor.Own
open Go.RowKit Go.Proofs.YtdopmlopafgonaaGreatDoorW.PrintWords Go.Proofs.YtdopmlopafgonaaGreatDoorW.PrintLast Go.Proofs.YtdopmlopafgonaaGreatDoorW.PrintMore
theorem k5M {D:PlanD} (G:Good D):0<D.hops.length:=by
 obtain ⟨x,hx⟩:=List.exists_mem_of_ne_nil _ (G.bn 0 (by have:=G.n0;omega));have:(0,x)∈D.hops:=List.mem_flatMap.2 ⟨0,by have:=G.n0;simp;omega,List.mem_map.2 ⟨x,hx,rfl⟩⟩;exact List.length_pos_of_mem this
theorem k8H {D:PlanD} (G:Good D):D.hops.length<=30:=by
 have:=k0N D G D.nodes (Nat.le_refl _);have:=G.n1;unfold PlanD.hops;exact zz1
theorem k3X (W:World) (z:Value) (T n:Nat) (hz:z.cells = #[z]):Row (W.alloc (.cells (madeCells z.cells (n*1)) T)) (.slice (some ⟨W.heap.size,0,none⟩) n n) T 1 n (List.replicate n z) (some W.heap.size):=by
 refine ⟨zz17,.inr ⟨_,0,n,_,rfl,rfl,heap_alloc_new W _,Nat.le_refl _,by rw [hz];simp [size_madeCells],fun j hj=>?_⟩⟩;simp only [List.length_replicate] at hj;rw [hz];unfold madeCells;rw [Array.getElem?_map,Array.getElem?_range,if_pos (by simpa using hj)];simp [Nat.mod_one,hj]
theorem k0k (w:World) (b i:Nat) (v:Value):Only (fun x=>x=b) w (w.setCell ⟨b,i,none⟩ v):=Only.set (P:=fun x=>x=b) (Only.refl _ w) (p:=⟨b,i,none⟩) (fun _=>rfl) v
def WRow (D:PlanD) (rk:Nat->Nat->Nat) (W:World) (lo m:Nat) (V:Value):Prop:=∃ l g,Row W V 3 1 l.length (i64s l) g/\(∀ x,g=some x->lo<x)/\k7j D rk m l
def kbX (D:PlanD) (rk:Nat->Nat->Nat) (W:World) (wb k:Nat):Prop:=∃ vs,Row W (.slice (some ⟨wb,0,none⟩) D.hops.length D.hops.length) 29 1 D.hops.length vs (some wb)/\∀ i x,i<k->D.hops[i]? = some x->∃ V,vs[i]? = some V/\WRow D rk W wb (rk x.1 x.2) V
theorem WRow.only {D:PlanD} {rk:Nat->Nat->Nat} {W W':World} {lo m:Nat} {V:Value} (h:WRow D rk W lo m V) (k:Only (fun b=>b<=lo) W W'):WRow D rk W' lo m V:=by
 obtain ⟨l,g,r,hg,hl⟩:=h;exact ⟨l,g,r.only k (fun b e=>by have:=hg b e;omega),hg,hl⟩
theorem k72 (B:Nat->Prop) (v:Value) (D:PlanD) (rk:Nat->Nat->Nat) (w:World) (hP:PlanV w B v D) (G:Good D) (hrk:RkOk D rk) :
 Calls Tryz.prog 58 #[v] w fun e w'=>∃ wb,e = .returned (.slice (some ⟨wb,0,none⟩) D.hops.length D.hops.length)/\kbX D rk w' wb D.hops.length/\Below w.heap.size w w'/\w.heap.size<=wb:=by
 obtain ⟨A1,c1,A2,c2,A3,c3,rfl⟩:=hP.shape;obtain ⟨i0,hi,hz0,hz1,hz2⟩:=info_parts k6G;obtain ⟨n,hn⟩:∃ n,n=D.hops.length:=⟨_,rfl⟩;have hn0:0<n:=by rw [hn];exact k5M G
 have hn30:n<=30:=by rw [hn];exact k8H G
 have hmk:∀ W:World,(Instr.makeSlice 30 (.int .i64 n) (.int .i64 n)).run Tryz.prog W = .ok (.slice (some ⟨W.heap.size,0,none⟩) n n) (W.alloc (.cells (madeCells (Value.slice none 0 0).cells (n*1)) 29)):=fun W=>by
  have:=run_make (P:=Tryz.prog) W 30 29 i0 _ Tryz.underlying30 hi hz0 .i64 .i64 n n zz1 zz1 zz62 zz1;exact zz28
 have P1:=Ab hP;have HG:=Ab G;have HRK:=Ab hrk;have HN:=Ab hn;rw [<- hn];have L1:=Ab ((Below.refl w.heap.size w).alloc (Nat.le_refl _) (pbox D A1 c1 A2 c2 A3 c3));have Z1:=Ab (heap_alloc_new w (pbox D A1 c1 A2 c2 A3 c3));clear hP G hrk hn hi hz0 hz1 hz2;have step:∀ {W W':World},Below w.heap.size w W->Below W.heap.size W W'->Below w.heap.size w W':=fun h k=>h.trans (k.mono h.size)
 go_enter Tryz.func58,Tryz.ntmps58
 go_wp2_with (first
  | (go_at_call 56;refine (k5f B _ D _ (P1.out.below L1.out) HG.out).mono ?_;rintro e w2 ⟨rfl,hb⟩;have L2:=Ab (show _/\_ from ⟨step L1.out hb,(hb.block _ zz17).trans Z1.out⟩);have b0:=fun i=>k00 L2.out.2 i;clear hb)
  | (go_at_call 37;refine (k2x B _ D _ (P1.out.below L2.out.1) HG.out).mono ?_;rintro e w3 ⟨V,gh,rfl,hr,hb,hgh⟩;have L3:=Ab (show _/\_/\_/\_ from ⟨step L2.out.1 hb,(hb.block _ (k03 L2.out.2)).trans L2.out.2,hr,hgh⟩);rw [<- HN.out] at hr;obtain ⟨AH,cH,rfl,_⟩:=hr.size;clear hb hr hgh b0))
 obtain ⟨s3,hs3⟩:∃ s,s=w3.heap.size:=⟨_,rfl⟩;clear hmk;rw [<- hs3];have HS3:=Ab hs3;clear hs3
 go_loopw [17] (fun s17 wr=>∃ k:Nat,k<=n/\s17 = .int .i64 k/\k08 (kbX D rk wr s3 k/\Below w3.heap.size w3 wr/\wr.heap[w.heap.size]? = some (pbox D A1 c1 A2 c2 A3 c3))) (fun s17 _=>n-ixOf s17)
 case atStart=>
  refine ⟨0,zz1,rfl,⟨⟨List.replicate n (.slice none 0 0),?_,fun i x hi=>absurd hi zz1⟩,(Below.refl _ w3).alloc (Nat.le_refl _) _,(Below.heap_alloc _ _ _ (k03 L3.out.2.1)).trans L3.out.2.1⟩⟩;have h:=k3X w3 (.slice none 0 0) 29 n rfl;rw [<- HS3.out] at h;rw [<- HN.out];rw [Nat.mul_one] at h;exact h
 case round=>
  obtain ⟨k,hk,rfl,R⟩:=hrel;by_cases hlt:k<n
  · have e1:(k:Int)<(n:Int):=by omega
    obtain ⟨⟨x,y⟩,hxy⟩:∃ p,D.hops[k]? = some p:=⟨_,List.getElem?_eq_getElem zz29⟩;have hH:Row wr (.slice AH n cH) 90 2 n (k0d D.hops) gh:=by have h:=L3.out.2.2.1.below R.out.2.1;rw [<- HN.out] at h;exact h
    obtain ⟨eb,eo,ec,hge,hA,_,_,hcell⟩:=hH.open hn0;simp only [Value.slice.injEq] at hA;obtain ⟨rfl,-,rfl⟩:=hA;obtain ⟨g0,g1⟩:=k0L _ _ _ hxy;have hcl:=k0Y D.hops;have c0:wr.cell? ⟨eb,eo+k*2,none⟩=some (.int .i64 (x:Nat)):=(hcell _ zz29).trans g0;have c1':wr.cell? ⟨eb,eo+k*2+1,none⟩=some (.int .i64 (y:Nat)):=(hcell (k*2+1) zz29).trans g1;have b0:=fun i=>k00 R.out.2.2 i
    have hz:=k03 R.out.2.2;obtain ⟨vs,rvs,hvs⟩:=id R.out.1;rw [<- HN.out] at rvs;obtain ⟨ub,hub⟩:∃ u,vs[k]? = some u:=⟨_,List.getElem?_eq_getElem (by have:=rvs.1;omega)⟩;obtain ⟨_,_,_,hs5,hA5,_,hfz,hcs⟩:=rvs.open hn0;simp only [Value.slice.injEq,Option.some.injEq,Addr.mk.injEq,and_true,true_and] at hA5;obtain ⟨⟨rfl,rfl⟩,rfl⟩:=hA5;have hcs:=(hcs k (by have:=rvs.1;omega)).trans hub;rw [Nat.zero_add] at hcs;have hfk:=hfz k;have hs3l:=rvs.lt rfl;have RV:=Ab (show _/\_/\_ from ⟨rvs,hvs,hub⟩);clear rvs hvs hub hfz hs5;have HX:=Ab hxy;have HH:=Ab hH;clear hcell g0 g1 hge hxy hH hcl;have W1:=Ab (show Below wr.heap.size wr (wr.alloc (.cells #[.int .i64 (x:Nat),.int .i64 (y:Nat)] 90)) from (Below.refl _ wr).alloc (Nat.le_refl _) _)
    go_wp2_with fail
    go_at_call 106;refine (k6V B _ _ D x y gh rk _ (P1.out.below ((step L3.out.1 R.out.2.1).alloc (by have:=(step L3.out.1 R.out.2.1).size;omega) _)) HG.out (by rw [<- HN.out];exact HH.out.below W1.out) (List.mem_of_getElem? HX.out) HRK.out).mono ?_;rintro e w5 ⟨V,l,g,rfl,hr,hb,hg,hl⟩;have KA:=Ab (show _/\_/\_/\_ from ⟨hr,hb,hg,hl⟩);have ck:=(hb.cell (p:=⟨s3,k,none⟩) zz25).trans ((W1.out.cell (p:=⟨s3,k,none⟩) hs3l).trans hcs);have fk:=(hb.frozen (p:=⟨s3,k,none⟩) zz25).trans ((W1.out.frozen (p:=⟨s3,k,none⟩) hs3l).trans hfk);obtain ⟨AV,cV,rfl,_⟩:=hr.size;clear hr hb hg hl;go_wp2;have L5:=Ab (W1.out.trans (KA.out.2.1.mono zz17));have hVb:∀ b,g=some b->s3<b:=fun b e=>by have:=KA.out.2.2.1 b e;simp at this;omega
    refine ⟨⟨k+1,zz1,rfl,⟨?_,?_,?_⟩⟩,?_⟩
    · refine ⟨vs.set k (.slice AV l.length cV),?_,fun i p hi hp=>?_⟩
      · have h:=(RV.out.1.below L5.out).set k (by have:=RV.out.1.1;omega) (.slice AV l.length cV)
        rw [Nat.zero_add] at h;rw [<- HN.out];exact h
      · by_cases e:i=k
        · rw [e,HX.out] at hp
          cases hp;exact ⟨.slice AV l.length cV,by rw [e,List.getElem?_set_self (by have:=RV.out.1.1;omega)],l,g,KA.out.1.only (k0k _ s3 k _) (fun b e'=>by have:=hVb b e';omega),hVb,KA.out.2.2.2⟩
        · obtain ⟨V',hV',hw⟩:=RV.out.2.1 i p zz1 hp
          refine ⟨V',by rw [List.getElem?_set_ne (fun h=>e h.symm)];exact hV',(hw.only (Only.of_below L5.out)).only ((k0k _ s3 k _).mono (fun b _ e=>Nat.le_of_eq e))⟩
    · exact ((R.out.2.1.trans (L5.out.mono R.out.2.1.size)).setCell (by have:=HS3.out;simp;omega) _)
    · have:s3≠w.heap.size:=by have:=HS3.out;have:=k03 L3.out.2.1;omega
      exact (Below.heap_setCell _ _ _ _ (by simpa using Ne.symm this)).trans ((L5.out.block _ hz).trans R.out.2.2)
    · show n-ixOf (.int .i64 ((k:Int)+1))<n-ixOf (.int .i64 (k:Int))
      simp only [ixOf];exact zz1
  · have e1:¬ (k:Int)<(n:Int):=by omega
    obtain rfl:k=n:=by omega
    go_wp2;go_ret;have:=HS3.out;have:=L3.out.1.size;have h:=R.out.1;exact ⟨s3,eset _ _ rfl,by have h:=R.out.1;rw [HN.out] at h;rw [HN.out];exact h,step L3.out.1 R.out.2.1,zz1⟩
def rkOf (D:PlanD) (rk:Nat->Nat->Nat) (i:Nat):Nat:=match D.hops[i]? with | some x=>rk x.1 x.2 | none=>0
def Grew (zs ys:List Nat):Prop:=ys.length=zs.length/\∀ (j a:Nat),zs[j]? = some a->ys[j]? = some a\/(a=0/\ys[j]? = some 2)
theorem Grew.refl (zs:List Nat):Grew zs zs:=⟨rfl,fun _ _ h=>.inl h⟩
theorem Grew.trans {a b c:List Nat} (h:Grew a b) (k:Grew b c):Grew a c:=⟨k.1.trans h.1,fun j x hx=>by
 rcases h.2 j x hx with h1 | ⟨h1,h2⟩
 · exact k.2 j x h1
 · refine .inr ⟨h1,?_⟩
   rcases k.2 j 2 h2 with h3 | ⟨h3,_⟩
   · exact h3
   · cases h3⟩
theorem Grew.le {zs ys:List Nat} (h:Grew zs ys) (hb:∀ (j a:Nat),zs[j]? = some a->a<=2):∀ (j a:Nat),ys[j]? = some a->a<=2:=fun j a hj=>by
 have hl:=(List.getElem?_eq_some_iff.1 hj).1;obtain ⟨x,hx⟩:∃ x,zs[j]? = some x:=⟨_,List.getElem?_eq_getElem (by rw [<- h.1];exact hl)⟩;rcases h.2 j x hx with h1 | ⟨_,h1⟩
 · rw [h1] at hj;cases hj;exact hb j _ hx
 · rw [h1] at hj;cases hj;omega
theorem Grew.one {zs ys:List Nat} (h:Grew zs ys) {j:Nat} (hj:ys[j]? = some 1):zs[j]? = some 1:=by
 have hl:=(List.getElem?_eq_some_iff.1 hj).1;obtain ⟨x,hx⟩:∃ x,zs[j]? = some x:=⟨_,List.getElem?_eq_getElem (by rw [<- h.1];exact hl)⟩;rcases h.2 j x hx with h1 | ⟨_,h1⟩
 · rw [h1] at hj;cases hj;exact hx
 · rw [h1] at hj;cases hj
def WOut (D:PlanD) (rk:Nat->Nat->Nat) (W:World) (wb ab:Nat):Prop:=wb≠ab/\∃ vs,Row W (.slice (some ⟨wb,0,none⟩) D.hops.length D.hops.length) 29 1 D.hops.length vs (some wb)/\∀ (i:Nat) (x:Nat × Nat),D.hops[i]? = some x->∃ V l g,vs[i]? = some V/\Row W V 3 1 l.length (i64s l) g/\g≠some ab/\k7j D rk (rk x.1 x.2) l
theorem WOut.only {D:PlanD} {rk:Nat->Nat->Nat} {W W':World} {wb ab:Nat} (h:WOut D rk W wb ab) (k:Only (fun b=>b=ab) W W'):WOut D rk W' wb ab:=by
 obtain ⟨h1,vs,r,hr⟩:=h;refine ⟨h1,vs,r.only k (fun b e=>by cases e;exact h1),fun i x hx=>?_⟩;obtain ⟨V,l,g,hV,rV,hg,hl⟩:=hr i x hx;exact ⟨V,l,g,hV,rV.only k (fun b e e2=>hg (by rw [e,e2])),hg,hl⟩
def MkAt (D:PlanD) (rk:Nat->Nat->Nat) (W:World) (m ab wb:Nat) (zs:List Nat):Prop:=m≠ab/\W.heap[m]? = some (.cells #[.slice (some ⟨ab,0,none⟩) D.hops.length D.hops.length,.slice (some ⟨wb,0,none⟩) D.hops.length D.hops.length] 128 (0,0))/\Row W (.slice (some ⟨ab,0,none⟩) D.hops.length D.hops.length) 3 1 D.hops.length (i64s zs) (some ab)/\WOut D rk W wb ab
theorem kam (l:List Nat) (i x:Nat):i64s (l.set i x)=(i64s l).set i (.int .i64 (x:Nat)):=by simp [i64s,List.map_set]
theorem MkAt.set {D:PlanD} {rk:Nat->Nat->Nat} {W:World} {m ab wb:Nat} {zs:List Nat} (h:MkAt D rk W m ab wb zs) (i x:Nat) (hi:i<D.hops.length):MkAt D rk (W.setCell ⟨ab,i,none⟩ (.int .i64 (x:Nat))) m ab wb (zs.set i x):=by
 obtain ⟨h1,h2,h3,h4⟩:=h;have hl:(i64s zs).length=D.hops.length:=by have:=h3.1;omega
 refine ⟨h1,(Below.heap_setCell _ _ _ _ h1).trans h2,?_,h4.only (k0k _ _ _ _)⟩;have h:=h3.set i zz1 (.int .i64 (x:Nat));rw [Nat.zero_add] at h;rw [kam];exact h
theorem MkAt.len {D:PlanD} {rk:Nat->Nat->Nat} {W:World} {m ab wb:Nat} {zs:List Nat} (h:MkAt D rk W m ab wb zs):zs.length=D.hops.length:=by have:=h.2.2.1.1;simpa [i64s] using this
theorem MkAt.at {D:PlanD} {rk:Nat->Nat->Nat} {W:World} {m ab wb:Nat} {zs:List Nat} (h:MkAt D rk W m ab wb zs) (i a:Nat) (hi:zs[i]? = some a):W.cell? ⟨m,0,none⟩=some (.slice (some ⟨ab,0,none⟩) D.hops.length D.hops.length)/\W.cell? ⟨ab,i,none⟩=some (.int .i64 (a:Nat))/\W.frozen? ⟨ab,i,none⟩=false:=by
 have hlt:i<zs.length:=(List.getElem?_eq_some_iff.1 hi).1;have hl:=h.len;obtain ⟨_,_,_,hs,hA,_,hfz,hc⟩:=h.2.2.1.open zz1;simp only [Value.slice.injEq,Option.some.injEq,Addr.mk.injEq,and_true,true_and] at hA;obtain ⟨⟨rfl,rfl⟩,rfl⟩:=hA;refine ⟨(k00 h.2.1 0).trans rfl,?_,hfz i⟩;have:=hc i zz40;rw [Nat.zero_add] at this;rw [this];simp [i64s,hi]
theorem MkAt.wait {D:PlanD} {rk:Nat->Nat->Nat} {W:World} {m ab wb:Nat} {zs:List Nat} (h:MkAt D rk W m ab wb zs) (i:Nat) (hi:i<D.hops.length):W.cell? ⟨m,1,none⟩=some (.slice (some ⟨wb,0,none⟩) D.hops.length D.hops.length)/\∃ A c l g,W.cell? ⟨wb,i,none⟩=some (.slice A l.length c)/\Row W (.slice A l.length c) 3 1 l.length (i64s l) g/\g≠some ab/\k7j D rk (rkOf D rk i) l:=by
 obtain ⟨_,h2,_,_,vs,r,hr⟩:=h;obtain ⟨x,hx⟩:∃ x,D.hops[i]? = some x:=⟨_,List.getElem?_eq_getElem hi⟩;obtain ⟨V,l,g,hV,rV,hg,hl⟩:=hr i x hx;obtain ⟨A,c,rfl,_⟩:=rV.size;obtain ⟨_,_,_,hs,hA,_,hfz,hc⟩:=r.open zz1;simp only [Value.slice.injEq,Option.some.injEq,Addr.mk.injEq,and_true,true_and] at hA;obtain ⟨⟨rfl,rfl⟩,rfl⟩:=hA;have:=hc i (by have:=r.1;omega);rw [Nat.zero_add,hV] at this;refine ⟨(k00 h2 1).trans rfl,A,c,l,g,this,rV,hg,?_⟩;unfold rkOf;rw [hx];exact hl
def kbx (D:PlanD) (rk:Nat->Nat->Nat) (m ab wb i:Nat) (zs:List Nat) (W:World) (e:Ending) (w':World):Prop:=e = .returned (.bool false)/\∃ ys,Grew zs ys/\ys[i]? = some 2/\MkAt D rk w' m ab wb ys/\Only (fun b=>b=ab) W w'
theorem k4g (D:PlanD) (rk:Nat->Nat->Nat) (m ab wb:Nat) (hn30:D.hops.length<=30):∀ (r i:Nat) (zs:List Nat) (W:World),rkOf D rk i<r->zs[i]? = some 0->(∀ j:Nat,zs[j]? = some 1->rkOf D rk i<rkOf D rk j)->(∀ (j a:Nat),zs[j]? = some a->a<=2)->MkAt D rk W m ab wb zs ->
 Calls Tryz.prog 59 #[.pointer (some ⟨m,0,none⟩),.int .i64 i] W (kbx D rk m ab wb i zs W)
 | 0,i,zs,W,h,_,_,_,_=>absurd h zz1
 | r+1,i,zs,W,hr,hi,hone,hle,M=>by
   obtain ⟨n,hn⟩:∃ n,n=D.hops.length:=⟨_,rfl⟩;have hin:i<n:=by have:=(List.getElem?_eq_some_iff.1 hi).1;have:=M.len;omega
   have i1:(i:Int)<(n:Int):=by omega
   obtain ⟨c0,c1,c2⟩:=M.at i 0 hi;have M1:MkAt D rk (W.setCell ⟨ab,i,none⟩ (.int .i64 1)) m ab wb (zs.set i 1):=M.set i 1 zz1;have O1:Only (fun b=>b=ab) W (W.setCell ⟨ab,i,none⟩ (.int .i64 1)):=k0k _ _ _ _;have HM:=Ab M;have IH:=Ab (k4g D rk m ab wb hn30 r);have H:=Ab (show _/\_/\_/\_ from ⟨hr,hi,hone,hle⟩);have HLA:=Ab (show zs.length=n from by have:=M.len;omega);rw [<- hn] at c0;have HN:=Ab hn;obtain ⟨W1,hW1⟩:∃ W1,W1=W.setCell ⟨ab,i,none⟩ (.int .i64 1):=⟨_,rfl⟩;rw [<- hW1] at M1 O1;have HW1:=Ab hW1;have M1:=Ab M1;have O1:=Ab O1;clear M hr hi hone hle hn hW1;go_enter Tryz.func59,Tryz.ntmps59;go_wp2;refine wp_scope_straight ?_;go_wp2;refine wp_label ?_;rw [<- HW1.out];clear HW1 c0 c1 c2;obtain ⟨d0,A,c,l,g,d1,rl,hg,hlow⟩:=M1.out.wait i zz29;rw [<- HN.out] at d0;obtain ⟨L,hL⟩:∃ L,L=l.length:=⟨_,rfl⟩;rw [<- hL] at d1 rl;have RL:=Ab (show _/\_/\_/\_ from ⟨rl,hg,hlow,hL⟩);have hL6:L<=6:=by rw [hL];exact hlow.2
   clear rl hg hlow hL;go_wp2;clear d0 d1
   go_loopw [21] (fun s21 wr=>∃ (j:Nat) (ys:List Nat),j<=L/\s21 = .int .i64 j/\k08 (Grew (zs.set i 1) ys/\MkAt D rk wr m ab wb ys/\Only (fun b=>b=ab) W1 wr)) (fun s21 _=>L-ixOf s21)
   case atStart=>exact ⟨0,_,zz1,rfl,⟨Grew.refl _,M1.out,Only.refl _ _⟩⟩
   case round=>
    obtain ⟨j,ys,hj,rfl,R⟩:=hrel;by_cases hlt:j<L
    · have e1:(j:Int)<(L:Int):=by omega
      obtain ⟨k,hk⟩:∃ k,l[j]? = some k:=⟨_,List.getElem?_eq_getElem (by have:=RL.out.2.2.2;omega)⟩;obtain ⟨x,hx,hrk⟩:=RL.out.2.2.1.1 k (List.mem_of_getElem? hk);have hkn:k<n:=by have:=(List.getElem?_eq_some_iff.1 hx).1;have:=HN.out;omega
      have hrkk:rkOf D rk k<rkOf D rk i:=by
       rw [show rkOf D rk k=rk x.1 x.2 by unfold rkOf;rw [hx]];exact hrk
      have hyl:=R.out.2.1.len;obtain ⟨a,ha⟩:∃ a,ys[k]? = some a:=⟨_,List.getElem?_eq_getElem zz29⟩;obtain ⟨f0,f1,f2⟩:=R.out.2.1.at k a ha;rw [<- HN.out] at f0;have i2:(k:Int)<(n:Int):=by omega
      have rl:=RL.out.1.only R.out.2.2 (fun b e e2=>RL.out.2.1 (by rw [e,e2]));obtain ⟨eb,eo,ec,_,hA,_,_,hcell⟩:=rl.open (by omega:0<L);simp only [Value.slice.injEq] at hA;obtain ⟨rfl,-,rfl⟩:=hA;have ck:wr.cell? ⟨eb,eo+j,none⟩=some (.int .i64 (k:Nat)):=by rw [hcell j (by have:=RL.out.2.2.2;simp [i64s];omega)];simp [i64s,hk]
      have hne:a≠1:=by
       intro h;subst h;have h1:=R.out.1.one ha;by_cases e:i=k
       · subst e;omega
       · rw [List.getElem?_set_ne e] at h1
         have:=H.out.2.2.1 k h1;exact zz1
      have ha2:a<=2:=R.out.1.le (fun j' a' h=>by
       by_cases e:i=j'
       · subst e;rw [List.getElem?_set_self (by have:=HLA.out;omega)] at h;cases h;omega
       · rw [List.getElem?_set_ne e] at h;exact H.out.2.2.2 j' a' h) k a ha
      have HK:=Ab (show _/\_/\_ from ⟨ha,hrkk,hkn⟩);clear rl hcell hk hx hrk ha hrkk;have e2:((a:Int) == 1)=false:=by simp;omega
      rcases (show a=2\/a=0 by omega) with ha | ha
      · subst ha
        go_wp2;refine ⟨⟨j+1,ys,zz1,rfl,R⟩,?_⟩;exact zz86
      · subst ha
        go_wp2_with (go_at_call 59;refine (IH.out k ys _ (by have:=HK.out.2.1;have:=H.out.1;omega) HK.out.1 ?hone ?hle R.out.2.1).mono ?_;(case hone=>intro j' h';have h1:=R.out.1.one h';by_cases e:i=j';(subst e;exact HK.out.2.1);(rw [List.getElem?_set_ne e] at h1;exact Nat.lt_trans HK.out.2.1 (H.out.2.2.1 j' h1)));(case hle=>exact R.out.1.le (fun j' a' h=>by by_cases e:i=j';(subst e;rw [List.getElem?_set_self (by have:=HLA.out;omega)] at h;cases h;omega);(rw [List.getElem?_set_ne e] at h;exact H.out.2.2.2 j' a' h)));rintro e w5 ⟨rfl,ys',q1,q2,q3,q4⟩;have Q:=Ab (show _/\_/\_/\_ from ⟨q1,q2,q3,q4⟩);clear q1 q2 q3 q4)
        refine ⟨⟨j+1,ys',zz1,rfl,⟨R.out.1.trans Q.out.1,Q.out.2.2.1,R.out.2.2.trans Q.out.2.2.2⟩⟩,?_⟩;exact zz86
    · have e1:¬ (j:Int)<(L:Int):=by omega
      have hyl:=R.out.2.1.len;obtain ⟨a,ha⟩:∃ a,ys[i]? = some a:=⟨_,List.getElem?_eq_getElem zz29⟩;obtain ⟨f0,f1,f2⟩:=R.out.2.1.at i a ha;rw [<- HN.out] at f0;have HA:=Ab ha;clear ha;go_wp2;go_ret;have hset:=R.out.2.1.set i 2 zz29;refine ⟨rfl,ys.set i 2,⟨by rw [List.length_set,R.out.1.1,List.length_set],fun j' a' h'=>?_⟩,by rw [List.getElem?_set_self (by have:=HLA.out;have:=HN.out;omega)],hset,(O1.out.trans R.out.2.2).trans (k0k _ _ _ _)⟩;by_cases e:i=j'
      · subst e
        rw [H.out.2.1] at h';cases h';exact .inr ⟨rfl,by rw [List.getElem?_set_self (by have:=HLA.out;have:=HN.out;omega)]⟩
      · rw [List.getElem?_set_ne e]
        exact R.out.1.2 j' a' (by rw [List.getElem?_set_ne e];exact h')
theorem k46 (B:Nat->Prop) (v:Value) (D:PlanD) (w:World) (hP:PlanV w B v D) (G:Good D) :
 Calls Tryz.prog 35 #[v] w fun e w'=>e = .returned (.int .u16 0)/\Below w.heap.size w w':=by
 obtain ⟨A1,c1,A2,c2,A3,c3,rfl⟩:=hP.shape;obtain ⟨rk,hrk⟩:=G.rank;obtain ⟨i0,hi,hz0,hz1,hz2⟩:=info_parts k1k;obtain ⟨n,hn⟩:∃ n,n=D.hops.length:=⟨_,rfl⟩;have hn0:0<n:=by rw [hn];exact k5M G
 have hn30:n<=30:=by rw [hn];exact k8H G
 have hmk:∀ W:World,(Instr.makeSlice 29 (.int .i64 n) (.int .i64 n)).run Tryz.prog W = .ok (.slice (some ⟨W.heap.size,0,none⟩) n n) (W.alloc (.cells (madeCells (Value.int .i64 0).cells (n*1)) 3)):=fun W=>by
  have:=run_make (P:=Tryz.prog) W 29 3 i0 _ Tryz.underlying29 hi hz0 .i64 .i64 n n zz1 zz1 zz62 zz1;exact zz28
 have P1:=Ab hP;have HG:=Ab G;have HRK:=Ab hrk;have HN:=Ab hn;have hn6:=G.n1;have L1:=Ab ((Below.refl w.heap.size w).alloc (Nat.le_refl _) (pbox D A1 c1 A2 c2 A3 c3));have Z1:=Ab (heap_alloc_new w (pbox D A1 c1 A2 c2 A3 c3));clear hP G hrk hn hi hz0 hz1 hz2;have step:∀ {W W':World},Below w.heap.size w W->Below W.heap.size W W'->Below w.heap.size w W':=fun h k=>h.trans (k.mono h.size)
 go_enter Tryz.func35,Tryz.ntmps35
 go_wp2_with (go_at_call 56;refine (k5f B _ D _ (P1.out.below L1.out) HG.out).mono ?_;rintro e w2 ⟨rfl,hb⟩;have L2:=Ab (show _/\_ from ⟨step L1.out hb,(hb.block _ zz17).trans Z1.out⟩);have b0:=fun i=>k00 L2.out.2 i;clear hb)
 clear b0
 go_loopw [17] (fun s17 wr=>∃ k:Nat,k<=D.nodes/\s17 = .int .i64 k/\k08 (Below w.heap.size w wr/\wr.heap[w.heap.size]? = some (pbox D A1 c1 A2 c2 A3 c3))) (fun s17 _=>D.nodes-ixOf s17)
 case atStart=>exact ⟨0,zz1,rfl,L2⟩
 case round=>
  obtain ⟨k,hk,rfl,R⟩:=hrel;by_cases hlt:k<D.nodes
  · have e1:(k:Int)<(D.nodes:Int):=by omega
    have b0:=fun i=>k00 R.out.2 i
    go_wp2;clear b0
    go_loopw [22] (fun s22 wr=>∃ j:Nat,j<=D.nodes/\s22 = .int .i64 j/\k08 (Below w.heap.size w wr/\wr.heap[w.heap.size]? = some (pbox D A1 c1 A2 c2 A3 c3))) (fun s22 _=>D.nodes-ixOf s22)
    case atStart=>exact ⟨0,zz1,rfl,R⟩
    case round=>
     obtain ⟨j,hj,rfl,R⟩:=hrel;by_cases hlj:j<D.nodes
     · have e2:(j:Int)<(D.nodes:Int):=by omega
       have b0:=fun i=>k00 R.out.2 i
       obtain ⟨l,hl⟩:=HG.out.path k j hlt hlj;have HL:=Ab hl;clear hl
       go_wp2_with (go_at_call 57;refine (k8c B _ D k j l _ (P1.out.below R.out.1) HG.out hlt hlj HL.out).mono ?_;rintro e w3 ⟨⟨u,rfl⟩,hb⟩;have L3:=Ab (show _/\_ from ⟨step R.out.1 hb,(hb.block _ (k03 R.out.2)).trans R.out.2⟩);clear hb)
       refine ⟨⟨j+1,zz1,rfl,L3⟩,?_⟩;show D.nodes-ixOf (.int .i64 ((j:Int)+1))<D.nodes-ixOf (.int .i64 (j:Int));exact zz10
     · have e2:¬ (j:Int)<(D.nodes:Int):=by omega
       go_wp2;refine ⟨⟨k+1,zz1,rfl,R⟩,?_⟩;exact zz19
  · have e1:¬ (k:Int)<(D.nodes:Int):=by omega
    have b0:=fun i=>k00 R.out.2 i
    go_wp2_with (go_at_call 58;refine (k72 B _ D rk _ (P1.out.below R.out.1) HG.out HRK.out).mono ?_;rintro e w3 ⟨wb,rfl,hw,hb,hwb⟩;rw [<- HN.out] at hw;rw [<- HN.out];have K:=Ab (show _/\_/\_ from ⟨hw,hb,hwb⟩);clear hw hb hwb)
    obtain ⟨m,hm⟩:∃ m,m=w3.heap.size:=⟨_,rfl⟩;obtain ⟨ab,hab⟩:∃ ab,ab=w3.heap.size+1:=⟨_,rfl⟩;rw [<- hab,<- hm];have HM:=Ab (show _/\_ from ⟨hm,hab⟩);have hw4:MkAt D rk ((w3.alloc (.cells #[.slice (some ⟨ab,0,none⟩) n n,.slice (some ⟨wb,0,none⟩) n n] 128)).alloc (.cells (madeCells #[Value.int .i64 0] n) 3)) m ab wb (List.replicate n 0):=by
     have h1:=k3X (w3.alloc (.cells #[.slice (some ⟨ab,0,none⟩) n n,.slice (some ⟨wb,0,none⟩) n n] 128)) (.int .i64 0) 3 n rfl;rw [World.size_alloc,<- hab,Nat.mul_one] at h1;obtain ⟨vs,rv,hv⟩:=K.out.1;have B2:Below w3.heap.size w3 ((w3.alloc (.cells #[.slice (some ⟨ab,0,none⟩) n n,.slice (some ⟨wb,0,none⟩) n n] 128)).alloc (.cells (madeCells #[Value.int .i64 0] n) 3)):=((Below.refl _ w3).alloc (Nat.le_refl _) _).alloc zz17 _;rw [hm];unfold MkAt;rw [<- HN.out];refine ⟨zz1,?_,?_,?_,vs,by rw [<- HN.out];rw [<- HN.out] at rv;exact rv.below B2,fun i x hx=>?_⟩
     · rw [<- hm];exact (Below.heap_alloc _ _ _ zz25).trans (by rw [hm];exact heap_alloc_new w3 _)
     · have e:i64s (List.replicate n 0)=List.replicate n (Value.int .i64 0):=by simp [i64s]
       rw [e];exact h1
     · have:=rv.lt rfl;omega
     · obtain ⟨V,hV,l,g,r,hg,hl⟩:=hv i x (by have:=HN.out;have:=(List.getElem?_eq_some_iff.1 hx).1;omega) hx
       exact ⟨V,l,g,hV,r.below B2,fun e=>by have:=r.lt e;omega,hl⟩
    have L4:=Ab (show Below w.heap.size w ((w3.alloc (.cells #[.slice (some ⟨ab,0,none⟩) n n,.slice (some ⟨wb,0,none⟩) n n] 128)).alloc (.cells (madeCells #[Value.int .i64 0] n) 3)) from step (step R.out.1 K.out.2.1) (((Below.refl _ w3).alloc (Nat.le_refl _) _).alloc zz17 _));have M4:=Ab hw4;have hws:w.heap.size<=ab:=by have:=(step R.out.1 K.out.2.1).size;omega
    clear hw4 hm hab hmk b0
    go_loopw [54] (fun s54 wr=>∃ (j:Nat) (ys:List Nat),j<=n/\s54 = .int .i64 j/\k08 (MkAt D rk wr m ab wb ys/\(∀ (i a:Nat),ys[i]? = some a->a=0\/a=2)/\Below w.heap.size w wr)) (fun s54 _=>n-ixOf s54)
    case atStart=>
     refine ⟨0,_,zz1,rfl,⟨M4.out,fun i a h=>?_,L4.out⟩⟩;rw [List.getElem?_replicate] at h;split at h
     · cases h;exact .inl rfl
     · exact zz45
    case round=>
     obtain ⟨j,ys,hj,rfl,S⟩:=hrel;by_cases hlj:j<n
     · have e2:(j:Int)<(n:Int):=by omega
       have hyl:=S.out.1.len;obtain ⟨a,ha⟩:∃ a,ys[j]? = some a:=⟨_,List.getElem?_eq_getElem zz29⟩;obtain ⟨f0,f1,f2⟩:=S.out.1.at j a ha;rw [<- HN.out] at f0;have ha2:=S.out.2.1 j a ha;have HA:=Ab ha;clear ha hyl f2;rcases ha2 with h | h
       · subst h
         go_wp2_with (go_at_call 59;refine (k4g D rk m ab wb zz29 (rkOf D rk j+1) j ys _ zz1 HA.out (fun i h=>by rcases S.out.2.1 i 1 h with h | h <;> cases h) (fun i a h=>by rcases S.out.2.1 i a h with h | h <;> omega) S.out.1).mono ?_;rintro e w5 ⟨rfl,ys',q1,q2,q3,q4⟩;have Q:=Ab (show _/\_/\_/\_ from ⟨q1,q2,q3,q4⟩);clear q1 q2 q3 q4)
         refine ⟨⟨j+1,ys',zz1,rfl,⟨Q.out.2.2.1,fun i a h=>?_,((Only.of_below (P:=fun b=>b=ab) S.out.2.2).trans Q.out.2.2.2).toBelow (fun b hb e=>by omega)⟩⟩,?_⟩
         · have hl:=(List.getElem?_eq_some_iff.1 h).1
           obtain ⟨x,hx⟩:∃ x,ys[i]? = some x:=⟨_,List.getElem?_eq_getElem (by rw [<- Q.out.1.1];exact hl)⟩;rcases Q.out.1.2 i x hx with h1 | ⟨_,h1⟩
           · rw [h1] at h;cases h;exact S.out.2.1 i _ hx
           · rw [h1] at h;cases h;exact .inr rfl
         · show n-ixOf (.int .i64 ((j:Int)+1))<n-ixOf (.int .i64 (j:Int))
           simp only [ixOf];exact zz1
       · subst h
         have e3:((2:Int) == 0)=false:=rfl;go_wp2;refine ⟨⟨j+1,ys,zz1,rfl,S⟩,?_⟩;exact zz84
     · have e2:¬ (j:Int)<(n:Int):=by omega
       go_wp2;go_ret;exact ⟨rfl,S.out.2.2⟩
structure NSt where
 waits:Nat->List Pk
 q:Way->List Pk
 snd:Nat->Nat->Int × Int
 rcv:Nat->Nat->Int × Int
 ticks:Nat
structure NTab where
 g:Nat
 arb:Nat
 host:Nat
 rings:Nat
 pb:Nat
 po:Nat
 pc:Nat
 whl:Nat->Nat
 lb:Nat->Nat
 lo:Nat->Nat
 lc:Nat->Nat
 snd:Nat->Nat->Nat
 rcv:Nat->Nat->Nat
 A1:Option Addr
 c1:Nat
 A2:Option Addr
 c2:Nat
 A3:Option Addr
 c3:Nat
def Col.nodeOf:Col->Option Nat
 | .node v=>some v
 | .arb v=>some v
 | .host v=>some v
 | .rings v=>some v
 | .pool v=>some v
 | .snd v _ _=>some v
 | .rcv v _ _=>some v
 | .whl v _=>some v
 | _=>none
def k0u (v:Nat) (c:Col):Prop:=c.nodeOf=some v
def np (D:PlanD) (v:Nat):Nat:=(D.bs v).length+1
def k0E (D:PlanD) (v i:Nat):Nat:=(v :: D.bs v).getD i 0
theorem k36 {α : Type} (f:Nat->List α) (m:Nat) (hf:∀ i,(f i).length=m):∀ n,((List.range n).flatMap f).length=n*m
 | 0=>by simp
 | n+1=>by
   have:=k36 f m hf n;rw [List.range_succ,List.flatMap_append,List.length_append,this,Nat.succ_mul];simp [hf]
theorem k5u {α : Type} (f:Nat->List α) (m:Nat) (hf:∀ i,(f i).length=m) (i j:Nat) (hj:j<m):∀ n,i<n->((List.range n).flatMap f)[i*m+j]? = (f i)[j]?
 | 0,h=>by omega
 | n+1,h=>by
   rw [List.range_succ,List.flatMap_append];have hl:=k36 f m hf n;by_cases e:i<n
   · have h2:i*m+m<=n*m:=by rw [<- Nat.succ_mul];exact Nat.mul_le_mul_right _ e
     rw [List.getElem?_append_left (by rw [hl];omega)];exact k5u f m hf i j hj n e
   · obtain rfl:i=n:=by omega
     rw [List.getElem?_append_right (by rw [hl];omega),hl];exact zz17
def k1s (D:PlanD) (T:NTab) (i:Nat):Value:=if i=0 then .slice none 0 0 else .slice (some ⟨T.lb i,T.lo i,none⟩) D.lanes (T.lc i)
def k6t (D:PlanD) (T:NTab) (v i:Nat):List Value:=[.int .i64 (k0E D v i:Nat),k1s D T i,.pointer (some ⟨T.whl i,0,none⟩)]
def k6y (D:PlanD) (T:NTab) (v:Nat):List Value:=(List.range (np D v)).flatMap (k6t D T v)
def k9U (T:NTab) (i k:Nat):List Value:=[.pointer (some ⟨T.snd i k,0,none⟩),.pointer (some ⟨T.rcv i k,0,none⟩)]
def k1m (D:PlanD) (T:NTab) (i:Nat):List Value:=(List.range D.lanes).flatMap (k9U T i)
abbrev nbox (D:PlanD) (T:NTab) (v t:Nat):Obj:=.cells #[.pointer (some ⟨T.arb,0,none⟩),.int .i64 D.nodes,.slice T.A1 D.edges.length T.c1,.int .i64 D.lanes,.int .i64 D.room,.int .i64 D.queue,.int .i64 D.rounds,.int .i64 D.every,.int .i64 D.bag,.slice T.A2 D.weights.length T.c2,.int .u16 D.start,.slice T.A3 D.next.length T.c3,.int .i64 v,.slice (some ⟨T.pb,T.po,none⟩) (np D v) T.pc,.pointer (some ⟨T.host,0,none⟩),.pointer (some ⟨T.rings,0,none⟩),.int .i64 t] 100 (0,0)
structure NodeAt (w:World) (o:Nat->Col) (v:Nat) (D:PlanD) (T:NTab) (st:NSt):Prop where
 og:o T.g = .node v
 blk:w.heap[T.g]? = some (nbox D T v st.ticks)
 plan:PlanV w (fun b=>o b = .fix) (pagg D T.A1 T.c1 T.A2 T.c2 T.A3 T.c3) D
 ports:Row w (.slice (some ⟨T.pb,T.po,none⟩) (np D v) T.pc) 141 3 (np D v) (k6y D T v) (some T.pb)
 op:o T.pb = .fix
 lanes:∀ i,1<=i->i<np D v->Row w (.slice (some ⟨T.lb i,T.lo i,none⟩) D.lanes (T.lc i)) 148 2 D.lanes (k1m D T i) (some (T.lb i))/\o (T.lb i) = .fix
 arb:ArbAt w o (.arb v) T.arb (np D v)
 host:HostAt w o (.host v) T.host D.lanes D.queue st.waits
 rings:RingsAt w o (.rings v) (.pool v) T.rings (np D v:Nat) D.lanes (np D v*D.lanes*D.room) st.q
 whl:∀ i,i<np D v->WheelAt w o (.whl v i) (T.whl i) D.lanes
 snd:∀ i k,1<=i->i<np D v->k<D.lanes->o (T.snd i k) = .snd v i k/\w.heap[T.snd i k]? = some (.cells #[.int .u64 (st.snd i k).1,.int .u64 (st.snd i k).2] 191 (0,0))
 rcv:∀ i k,1<=i->i<np D v->k<D.lanes->o (T.rcv i k) = .rcv v i k/\w.heap[T.rcv i k]? = some (.cells #[.int .u64 (st.rcv i k).1,.int .i64 (st.rcv i k).2,.int .i64 D.room] 193 (0,0))
theorem PlanV.tr {S:Col->Prop} {w w':World} {o o':Nat->Col} {v:Value} {D:PlanD} (h:PlanV w (fun b=>o b = .fix) v D) (t:Tr S o w o' w') (hS:¬ S .fix):PlanV w' (fun b=>o' b = .fix) v D:=by
 obtain ⟨ev,wv,nv,rows,ge,gw,gn,gs,hv,r1,r2,r3,r4,b1,b2,b3⟩:=h;have k:∀ b,b<w.heap.size->o b = .fix->w'.heap[b]? = w.heap[b]?:=fun b hb e=>t.only.same hb (by rw [e];exact hS)
 refine ⟨ev,wv,nv,rows,ge,gw,gn,gs,hv,r1.of_blk (fun b e=>k b (r1.lt e) (b1 b e)),r2.of_blk (fun b e=>k b (r2.lt e) (b2 b e)),r3.of_blk (fun b e=>k b (r3.lt e) (b3 b e)),fun i r hr=>?_,fun b e=>(t.own b (r1.lt e)).trans (b1 b e),fun b e=>(t.own b (r2.lt e)).trans (b2 b e),fun b e=>(t.own b (r3.lt e)).trans (b3 b e)⟩;obtain ⟨u,hu,ru,bu⟩:=r4 i r hr;exact ⟨u,hu,ru.of_blk (fun b e=>k b (ru.lt e) (bu b e)),fun b e=>(t.own b (ru.lt e)).trans (bu b e)⟩
section
variable {S:Col->Prop} {w w':World} {o o':Nat->Col} {v:Nat} {D:PlanD} {T:NTab} {st st':NSt}
theorem NodeAt.upd (h:NodeAt w o v D T st) (t:Tr S o w o' w') (hfix:¬ S .fix) (hn:(¬ S (.node v)/\st'.ticks=st.ticks)\/w'.heap[T.g]? = some (nbox D T v st'.ticks))
 (ha:¬ S (.arb v)\/ArbAt w' o' (.arb v) T.arb (np D v)) (hh:(¬ S (.host v)/\st'.waits=st.waits)\/HostAt w' o' (.host v) T.host D.lanes D.queue st'.waits)
 (hr:((¬ S (.rings v)/\¬ S (.pool v))/\st'.q=st.q)\/RingsAt w' o' (.rings v) (.pool v) T.rings (np D v:Nat) D.lanes (np D v*D.lanes*D.room) st'.q)
 (hw:∀ i,i<np D v->¬ S (.whl v i)\/WheelAt w' o' (.whl v i) (T.whl i) D.lanes)
 (hs:∀ i k,1<=i->i<np D v->k<D.lanes->(¬ S (.snd v i k)/\st'.snd i k=st.snd i k)\/w'.heap[T.snd i k]? = some (.cells #[.int .u64 (st'.snd i k).1,.int .u64 (st'.snd i k).2] 191 (0,0)))
 (hc:∀ i k,1<=i->i<np D v->k<D.lanes->(¬ S (.rcv v i k)/\st'.rcv i k=st.rcv i k)\/w'.heap[T.rcv i k]? = some (.cells #[.int .u64 (st'.rcv i k).1,.int .i64 (st'.rcv i k).2,.int .i64 D.room] 193 (0,0))) :
 NodeAt w' o' v D T st' where
 og:=(t.own _ (k03 h.blk)).trans h.og
 blk:=by
  rcases hn with ⟨h1,h2⟩ | h1
  · rw [h2];exact t.blk h.blk (by rw [h.og];exact h1)
  · exact h1
 plan:=h.plan.tr t hfix
 ports:=h.ports.only t.only (fun b e=>by cases e;rw [h.op];exact hfix)
 op:=(t.own _ (h.ports.lt rfl)).trans h.op
 lanes:=fun i h1 h2=>by
  obtain ⟨a,b⟩:=h.lanes i h1 h2;exact ⟨a.only t.only (fun b' e=>by cases e;rw [b];exact hfix),(t.own _ (a.lt rfl)).trans b⟩
 arb:=ha.elim (fun hn=>h.arb.tr t hn) id
 host:=by
  rcases hh with ⟨h1,h2⟩ | h1
  · rw [h2];exact h.host.tr t h1
  · exact h1
 rings:=by
  rcases hr with ⟨⟨h1,h2⟩,h3⟩ | h1
  · rw [h3];exact h.rings.tr t h1 h2
  · exact h1
 whl:=fun i hi=>(hw i hi).elim (fun hn=>(h.whl i hi).tr t hn) id
 snd:=fun i k h1 h2 h3=>by
  obtain ⟨a,b⟩:=h.snd i k h1 h2 h3;refine ⟨(t.own _ (k03 b)).trans a,?_⟩;rcases hs i k h1 h2 h3 with ⟨x,y⟩ | x
  · rw [y];exact t.blk b (by rw [a];exact x)
  · exact x
 rcv:=fun i k h1 h2 h3=>by
  obtain ⟨a,b⟩:=h.rcv i k h1 h2 h3;refine ⟨(t.own _ (k03 b)).trans a,?_⟩;rcases hc i k h1 h2 h3 with ⟨x,y⟩ | x
  · rw [y];exact t.blk b (by rw [a];exact x)
  · exact x
theorem NodeAt.tr (h:NodeAt w o v D T st) (t:Tr S o w o' w') (hfix:¬ S .fix) (hS:∀ c,k0u v c->¬ S c):NodeAt w' o' v D T st:=
 h.upd t hfix (.inl ⟨hS _ rfl,rfl⟩) (.inl (hS _ rfl)) (.inl ⟨hS _ rfl,rfl⟩) (.inl ⟨⟨hS _ rfl,hS _ rfl⟩,rfl⟩) (fun i _=>.inl (hS _ rfl)) (fun i k _ _ _=>.inl ⟨hS _ rfl,rfl⟩) (fun i k _ _ _=>.inl ⟨hS _ rfl,rfl⟩)
theorem Tr.same (hf:Fresh o w) (h:Only (fun b=>S (o b)) w w'):Tr S o w o w':=⟨h,fun _ _=>rfl,fun b hb=>hf b (Nat.le_trans h.size hb)⟩
theorem NodeAt.hostTo (h:NodeAt w o v D T st) (t:Tr (fun c=>c = .host v) o w o' w') {r:Nat->List Pk} (k:HostAt w' o' (.host v) T.host D.lanes D.queue r):NodeAt w' o' v D T { st with waits:=r }:=
 h.upd t zz17 (.inl ⟨zz17,rfl⟩) (.inl zz17) (.inr k) (.inl ⟨⟨zz17,zz17⟩,rfl⟩) (fun i _=>.inl zz17) (fun i k _ _ _=>.inl ⟨zz17,rfl⟩) (fun i k _ _ _=>.inl ⟨zz17,rfl⟩)
theorem NodeAt.ringsTo (h:NodeAt w o v D T st) (t:Tr (fun c=>c = .rings v\/c = .pool v) o w o' w') {q:Way->List Pk} (k:RingsAt w' o' (.rings v) (.pool v) T.rings (np D v:Nat) D.lanes (np D v*D.lanes*D.room) q):NodeAt w' o' v D T { st with q:=q }:=
 h.upd t zz17 (.inl ⟨zz17,rfl⟩) (.inl zz17) (.inl ⟨zz17,rfl⟩) (.inr k) (fun i _=>.inl zz17) (fun i k _ _ _=>.inl ⟨zz17,rfl⟩) (fun i k _ _ _=>.inl ⟨zz17,rfl⟩)
theorem NodeAt.arbTo (h:NodeAt w o v D T st) (hf:Fresh o w) (t:Only (fun b=>o b = .arb v) w w') (k:ArbAt w' o (.arb v) T.arb (np D v)):NodeAt w' o v D T st:=
 h.upd (Tr.same (S:=fun c=>c = .arb v) hf t) zz17 (.inl ⟨zz17,rfl⟩) (.inr k) (.inl ⟨zz17,rfl⟩) (.inl ⟨⟨zz17,zz17⟩,rfl⟩) (fun i _=>.inl zz17) (fun i k _ _ _=>.inl ⟨zz17,rfl⟩) (fun i k _ _ _=>.inl ⟨zz17,rfl⟩)
theorem NodeAt.whlTo (h:NodeAt w o v D T st) (hf:Fresh o w) {j:Nat} (t:Only (fun b=>o b = .whl v j) w w') (k:WheelAt w' o (.whl v j) (T.whl j) D.lanes):NodeAt w' o v D T st:=
 h.upd (Tr.same (S:=fun c=>c = .whl v j) hf t) zz17 (.inl ⟨zz17,rfl⟩) (.inl zz17) (.inl ⟨zz17,rfl⟩) (.inl ⟨⟨zz17,zz17⟩,rfl⟩) (fun i _=>by
  by_cases e:i=j
  · subst e;exact .inr k
  · exact .inl (by simp [e])) (fun i k _ _ _=>.inl ⟨zz17,rfl⟩) (fun i k _ _ _=>.inl ⟨zz17,rfl⟩)
def upd2 {α : Type} (f:Nat->Nat -> α) (i k:Nat) (x : α):Nat->Nat -> α:=fun a b=>if a=i/\b=k then x else f a b
theorem k0m {α : Type} (f:Nat->Nat -> α) (i k:Nat) (x : α):upd2 f i k x i k=x:=by simp [upd2]
theorem k0h {α : Type} (f:Nat->Nat -> α) (i k:Nat) (x : α) {a b:Nat} (h:¬ (a=i/\b=k)):upd2 f i k x a b=f a b:=by simp [upd2,h]
theorem NodeAt.sndTo (h:NodeAt w o v D T st) (hf:Fresh o w) {j m:Nat} (j0:1<=j) (j1:j<np D v) (m1:m<D.lanes) {a b:Int} (k:SndSt w w' (T.snd j m) a b):NodeAt w' o v D T { st with snd:=upd2 st.snd j m (a,b) }:=
 h.upd (Tr.same (S:=fun c=>c = .snd v j m) hf (k.2.mono (fun b _ e=>by rw [e];exact (h.snd j m j0 j1 m1).1))) zz17 (.inl ⟨zz17,rfl⟩) (.inl zz17) (.inl ⟨zz17,rfl⟩) (.inl ⟨⟨zz17,zz17⟩,rfl⟩) (fun i _=>.inl zz17) (fun i n _ _ _=>by
  by_cases e:i=j/\n=m
  · obtain ⟨rfl,rfl⟩:=e;refine .inr ?_;rw [show (({ st with snd:=upd2 st.snd i n (a,b) }:NSt).snd i n)=(a,b) from k0m _ _ _ _];exact k.1
  · exact .inl ⟨by simp;exact fun h1 h2=>e ⟨h1,h2⟩,k0h _ _ _ _ e⟩) (fun i k _ _ _=>.inl ⟨zz17,rfl⟩)
theorem NodeAt.rcvTo (h:NodeAt w o v D T st) (hf:Fresh o w) {j m:Nat} (j0:1<=j) (j1:j<np D v) (m1:m<D.lanes) {a b:Int} (k:RcvSt w w' (T.rcv j m) a b D.room):NodeAt w' o v D T { st with rcv:=upd2 st.rcv j m (a,b) }:=
 h.upd (Tr.same (S:=fun c=>c = .rcv v j m) hf (k.2.mono (fun b _ e=>by rw [e];exact (h.rcv j m j0 j1 m1).1))) zz17 (.inl ⟨zz17,rfl⟩) (.inl zz17) (.inl ⟨zz17,rfl⟩) (.inl ⟨⟨zz17,zz17⟩,rfl⟩) (fun i _=>.inl zz17) (fun i k _ _ _=>.inl ⟨zz17,rfl⟩) (fun i n _ _ _=>by
  by_cases e:i=j/\n=m
  · obtain ⟨rfl,rfl⟩:=e;refine .inr ?_;rw [show (({ st with rcv:=upd2 st.rcv i n (a,b) }:NSt).rcv i n)=(a,b) from k0m _ _ _ _];exact k.1
  · exact .inl ⟨by simp;exact fun h1 h2=>e ⟨h1,h2⟩,k0h _ _ _ _ e⟩)
theorem NodeAt.blw (h:NodeAt w o v D T st) (hf:Fresh o w) (b:Below w.heap.size w w'):NodeAt w' o v D T st:=
 h.tr (Tr.below (S:=fun _=>False) hf b) (fun x=>x) (fun _ _ x=>x)
theorem NodeAt.port (h:NodeAt w o v D T st) (i:Nat) (hi:i<np D v):w.cell? ⟨T.pb,T.po+i*3,none⟩=some (.int .i64 (k0E D v i:Nat))/\w.cell? ⟨T.pb,T.po+i*3+1,none⟩=some (k1s D T i)/\w.cell? ⟨T.pb,T.po+i*3+2,none⟩=some (.pointer (some ⟨T.whl i,0,none⟩)):=by
 obtain ⟨b,off,cap,hg,hA,_,_,hc⟩:=h.ports.open (by unfold np;omega);simp only [Value.slice.injEq,Option.some.injEq,Addr.mk.injEq,and_true,true_and] at hA;obtain ⟨⟨rfl,rfl⟩,rfl⟩:=hA;have hl:(k6y D T v).length=np D v*3:=k36 _ 3 (fun _=>rfl) _;have g:=fun j hj=>k5u (k6t D T v) 3 (fun _=>rfl) i j hj (np D v) hi
 refine ⟨?_,?_,?_⟩
 · exact (hc (i*3) zz1).trans (g 0 zz1)
 · rw [Nat.add_assoc];exact (hc (i*3+1) zz1).trans (g 1 zz1)
 · rw [Nat.add_assoc];exact (hc (i*3+2) zz1).trans (g 2 zz1)
theorem NodeAt.lane (h:NodeAt w o v D T st) (i k:Nat) (h1:1<=i) (hi:i<np D v) (hk:k<D.lanes):w.cell? ⟨T.lb i,T.lo i+k*2,none⟩=some (.pointer (some ⟨T.snd i k,0,none⟩))/\w.cell? ⟨T.lb i,T.lo i+k*2+1,none⟩=some (.pointer (some ⟨T.rcv i k,0,none⟩)):=by
 obtain ⟨b,off,cap,hg,hA,_,_,hc⟩:=(h.lanes i h1 hi).1.open zz1;simp only [Value.slice.injEq,Option.some.injEq,Addr.mk.injEq,and_true,true_and] at hA;obtain ⟨⟨rfl,rfl⟩,rfl⟩:=hA;have hl:(k1m D T i).length=D.lanes*2:=k36 _ 2 (fun _=>rfl) _;have g:=fun j hj=>k5u (k9U T i) 2 (fun _=>rfl) k j hj D.lanes hk
 refine ⟨?_,?_⟩
 · exact (hc (k*2) zz1).trans (g 0 zz1)
 · rw [Nat.add_assoc];exact (hc (k*2+1) zz1).trans (g 1 zz1)
theorem NodeAt.sndSt (h:NodeAt w o v D T st) (i k:Nat) (h1:1<=i) (hi:i<np D v) (hk:k<D.lanes):SndSt w w (T.snd i k) (st.snd i k).1 (st.snd i k).2:=⟨(h.snd i k h1 hi hk).2,Only.refl _ _⟩
theorem NodeAt.rcvSt (h:NodeAt w o v D T st) (i k:Nat) (h1:1<=i) (hi:i<np D v) (hk:k<D.lanes):RcvSt w w (T.rcv i k) (st.rcv i k).1 (st.rcv i k).2 D.room:=⟨(h.rcv i k h1 hi hk).2,Only.refl _ _⟩
end
end Go.Proofs.YtdopmlopafgonaaGreatDoor.Own
