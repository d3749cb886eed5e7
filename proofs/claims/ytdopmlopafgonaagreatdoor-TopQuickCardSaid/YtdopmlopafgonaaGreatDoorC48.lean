/- TopQuick: one packet alone is brought from host to host (a part of the walks and of the plain laws). -/
import Derived.Test.YtdopmlopafgonaaGreatDoorC0
import Derived.Test.YtdopmlopafgonaaGreatDoorC47
set_option linter.unusedVariables false
set_option linter.unusedSimpArgs false
set_option maxHeartbeats 4000000
set_option maxRecDepth 100000
namespace Go.Proofs.YtdopmlopafgonaaGreatDoor.Own
open Go.RowKit Go.Proofs.YtdopmlopafgonaaGreatDoorW.PrintWords Go.Proofs.YtdopmlopafgonaaGreatDoorW.PrintLast Go.Proofs.YtdopmlopafgonaaGreatDoorW.PrintMore
section
variable {w:World} {o:Nat->Col} {D:PlanD} {F:FTab} {st:FSt}
theorem k6k (H:FabAt w o D F st) (G:Good D) (hf:Fresh o w) (v:Nat) (hv:v<D.nodes) (hw:∀ k,k<D.lanes->(st.node v).waits k=[]) (hq:∀ a,(st.node v).q a=[]) :
 Calls Tryz.prog 45 #[.pointer (some ⟨F.g,0,none⟩),.int .i64 v] w fun e w'=>e = .returned (.int .i64 0)/\Below w.heap.size w w':=by
 have hl3:=G.l1;have hb5:=G.bl v hv;have cn:=k1Z H G v hv;obtain ⟨L,hL⟩:∃ L,L=D.lanes:=⟨_,rfl⟩;rw [<- hL] at hl3;obtain ⟨m,hm⟩:∃ m,m=(D.bs v).length:=⟨_,rfl⟩;rw [<- hm] at hb5;have HN:=Ab (show L=D.lanes/\m=(D.bs v).length/\np D v=m+1 from ⟨hL,hm,by unfold np;omega⟩);have HA:=Ab (show _/\_/\_/\_/\_ from ⟨H,G,hf,hw,hq⟩);have FW:=Ab (fun (W:World) (b:Below w.heap.size w W)=>(show FabAt W o D F st/\Fresh o W from ⟨H.blw hf b,hf.blw b⟩));clear H G hf hw hq hL hm;go_enter Tryz.func45,Tryz.ntmps45
 go_wp2_with (go_at_call 16;refine cn.mono ?_;rintro e w1 ⟨rfl,rfl⟩;clear cn)
 go_wp2_with (first
  | (go_at_call 63;refine (k1n _ _ D v _ PL.out HA.out.2.1 hv).mono ?_;rintro e w3 ⟨pb,po,c,rfl,_,_,hb⟩;rw [<- HN.out.2.1];have L3:=Ab (show Below w.heap.size w w3 from L2.out.trans (hb.mono L2.out.size));clear hb)
  | (go_at_call 44;refine (k39 HA.out.1 HA.out.2.1 HA.out.2.2.1).mono ?_;rintro e w2 ⟨E1,k1,E2,k2,E3,k3,rfl,hp,hb⟩;have PL:=Ab hp;have L2:=Ab (show Below w.heap.size w w2 from hb);clear hp hb))
 go_at_call 44;refine (k39 (FW.out _ L3.out).1 HA.out.2.1 (FW.out _ L3.out).2).mono ?_;rintro e w4 ⟨F1,j1,F2,j2,F3,j3,rfl,_,hb⟩;have L4:=Ab (show Below w.heap.size w w4 from L3.out.trans (hb.mono L3.out.size));have fp:∀ W:World,(Instr.field 32 (pagg D F1 j1 F2 j2 F3 j3) 2).run Tryz.prog W = .ok (.int .i64 (L:Nat)) W:=fun W=>by rw [HN.out.1];exact k40 W D _ _ _ _ _ _
 clear hb;go_wp2
 go_loopw [6,23] (fun s6 s23 wr=>∃ k:Nat,k<=L/\s6 = .int .i64 0/\s23 = .int .i64 k/\k08 (Below w.heap.size w wr)) (fun _ s23 _=>L-ixOf s23)
 case atStart=>exact ⟨0,zz1,rfl,rfl,L4⟩
 case round=>
  obtain ⟨k,hk,rfl,rfl,R⟩:=hrel;by_cases hlk:k<L
  · have e1:(k:Int)<(L:Int):=by omega
    have hkl:k<D.lanes:=by have:=HN.out.1;omega
    have hz:(((st.node v).waits k).length:Int)=0:=by rw [HA.out.2.2.2.1 k hkl];rfl
    have HZ:=Ab hz;clear hz
    go_wp2_with (first
     | (go_at_call 73;refine (k3m k ((FW.out _ R.out).1.node v hv).host zz1).mono ?_;rintro e w6 ⟨rfl,rfl⟩;rw [HZ.out])
     | (go_at_call 18;refine (k4l ((FW.out _ R.out).1.node v hv)).mono ?_;rintro e w5 ⟨rfl,rfl⟩))
    go_loopw [6,33] (fun s6 s33 wr=>∃ i:Nat,i<=m+1/\s6 = .int .i64 0/\s33 = .int .i64 i/\k08 (Below w.heap.size w wr)) (fun _ s33 _=>m+1-ixOf s33)
    case atStart=>exact ⟨0,zz1,rfl,rfl,R⟩
    case round=>
     clear R;obtain ⟨i,hi,rfl,rfl,R⟩:=hrel;by_cases hli:i<m+1
     · have e2:(i:Int)<(m:Int)+1:=by omega
       go_wp2
       go_loopw [6,37] (fun s6 s37 wr=>∃ j:Nat,j<=m+1/\s6 = .int .i64 0/\s37 = .int .i64 j/\k08 (Below w.heap.size w wr)) (fun _ s37 _=>m+1-ixOf s37)
       case atStart=>exact ⟨0,zz1,rfl,rfl,R⟩
       case round=>
        clear R;obtain ⟨j,hj,rfl,rfl,R⟩:=hrel;by_cases hlj:j<m+1
        · have e3:(j:Int)<(m:Int)+1:=by omega
          have HQ:=Ab (show (((st.node v).q (i,j,k)).length:Int)=0 from by rw [HA.out.2.2.2.2];rfl)
          go_wp2_with (first
           | (go_at_call 75;refine (k4k i j k ((FW.out _ R.out).1.node v hv).rings zz1 zz1 zz1).mono ?_;rintro e w6 ⟨rfl,rfl⟩;rw [HQ.out])
           | (go_at_call 74;refine (k8i ((FW.out _ R.out).1.node v hv)).mono ?_;rintro e w5 ⟨rfl,rfl⟩))
          refine ⟨⟨j+1,zz1,rfl,rfl,R⟩,?_⟩;show m+1-ixOf (.int .i64 ((j:Int)+1))<m+1-ixOf (.int .i64 (j:Int));exact zz10
        · have e3:¬ (j:Int)<(m:Int)+1:=by omega
          obtain rfl:j=m+1:=by omega
          go_wp2;refine ⟨⟨i+1,zz1,rfl,rfl,R⟩,?_⟩;show m+1-ixOf (.int .i64 ((i:Int)+1))<m+1-ixOf (.int .i64 (i:Int));exact zz10
     · have e2:¬ (i:Int)<(m:Int)+1:=by omega
       obtain rfl:i=m+1:=by omega
       go_wp2;refine ⟨⟨k+1,zz1,rfl,rfl,R⟩,?_⟩;show L-ixOf (.int .i64 ((k:Int)+1))<L-ixOf (.int .i64 (k:Int));exact zz10
  · have e1:¬ (k:Int)<(L:Int):=by omega
    obtain rfl:L=k:=by omega
    go_wp2;go_ret;exact ⟨rfl,R.out⟩
theorem k8a (M:Int) (C:Nat) (H:FabAt w o D F st) (G:Good D) (hf:Fresh o w) (K:FOk D M C st) (hw:∀ v,v<D.nodes->∀ k,k<D.lanes->(st.node v).waits k=[]) (hq:∀ v,v<D.nodes->∀ a,(st.node v).q a=[]) (hl:∀ a∈D.hops,st.link a=[]) :
 Calls Tryz.prog 20 #[.pointer (some ⟨F.g,0,none⟩)] w fun e w'=>e = .returned (.int .i64 0)/\Below w.heap.size w w':=by
 have hl3:=G.l1;have hn6:=G.n1;have hh6:D.hops.length<=30:=by have:=k0N D G D.nodes (Nat.le_refl _);have:=G.n1;unfold PlanD.hops;omega
 obtain ⟨n,hn⟩:∃ n,n=D.nodes:=⟨_,rfl⟩;rw [<- hn] at hn6;obtain ⟨q,hq2⟩:∃ q,q=D.hops.length*D.lanes:=⟨_,rfl⟩;have hq90:q<=90:=by have:D.hops.length*D.lanes<=30*3:=Nat.mul_le_mul hh6 hl3;omega
 have HN:=Ab (show n=D.nodes/\q=D.hops.length*D.lanes from ⟨hn,hq2⟩);have HA:=Ab (show _/\_/\_/\_/\_/\_/\_ from ⟨H,G,hf,K,hw,hq,hl⟩);have FW:=Ab (fun (W:World) (b:Below w.heap.size w W)=>(show FabAt W o D F st/\Fresh o W from ⟨H.blw hf b,hf.blw b⟩));clear H G hf K hw hq hl hn hq2 hl3 hh6;go_enter Tryz.func20,Tryz.ntmps20
 go_wp2_with (go_at_call 44;refine (k39 HA.out.1 HA.out.2.1 HA.out.2.2.1).mono ?_;rintro e w2 ⟨E1,k1,E2,k2,E3,k3,rfl,_,hb⟩;have L2:=Ab (show Below w.heap.size w w2 from hb);have fp:∀ W:World,(Instr.field 32 (pagg D E1 k1 E2 k2 E3 k3) 0).run Tryz.prog W = .ok (.int .i64 (n:Nat)) W:=(fun W=>(by rw [HN.out.1];exact k74 W D _ _ _ _ _ _));clear hb)
 go_loopw [3,10] (fun s3 s10 wr=>∃ i:Nat,i<=n/\s3 = .int .i64 0/\s10 = .int .i64 i/\k08 (Below w.heap.size w wr)) (fun _ s10 _=>n-ixOf s10)
 case atStart=>exact ⟨0,zz1,rfl,rfl,L2⟩
 case round=>
  obtain ⟨i,hi,rfl,rfl,R⟩:=hrel;by_cases hli:i<n
  · have e1:(i:Int)<(n:Int):=by omega
    have hin:i<D.nodes:=by have:=HN.out.1;omega
    go_wp2_with (go_at_call 45;refine (k6k (FW.out _ R.out).1 HA.out.2.1 (FW.out _ R.out).2 i hin (HA.out.2.2.2.2.1 i hin) (HA.out.2.2.2.2.2.1 i hin)).mono ?_;rintro e w3 ⟨rfl,hb⟩;have L3:=Ab (show Below w.heap.size w w3 from R.out.trans (hb.mono R.out.size));clear hb)
    refine ⟨⟨i+1,zz1,rfl,rfl,L3⟩,?_⟩;exact zz20
  · have e1:¬ (i:Int)<(n:Int):=by omega
    obtain rfl:n=i:=by omega
    go_wp2_with (go_at_call 21;refine (k6f M C (FW.out _ R.out).1 HA.out.2.1 (FW.out _ R.out).2 HA.out.2.2.2.1 HA.out.2.2.2.2.2.2).mono ?_;rintro e w3 ⟨V,l,g,rfl,hr,hll,hb⟩;rw [<- HN.out.2] at hr hll;obtain ⟨A3,k3',rfl,_⟩:=hr.size;have L3:=Ab (show Below w.heap.size w w3/\Row w3 (.slice A3 q k3') 104 5 q (k0H l) g/\l.length=q from ⟨R.out.trans (hb.mono R.out.size),hr,hll⟩);clear hb hr hll)
    go_loopw [3,22] (fun s3 s22 wr=>∃ j:Nat,j<=q/\s3 = .int .i64 0/\s22 = .int .i64 j/\k08 (Below w3.heap.size w3 wr)) (fun _ s22 _=>q-ixOf s22)
    case atStart=>exact ⟨0,zz1,rfl,rfl,⟨Below.refl _ _⟩⟩
    case round=>
     obtain ⟨j,hj,rfl,rfl,Q⟩:=hrel;by_cases hlj:j<q
     · have e2:(j:Int)<(q:Int):=by omega
       obtain ⟨p,hp⟩:∃ p,l[j]? = some p:=⟨_,List.getElem?_eq_getElem (by have:=L3.out.2.2;omega)⟩;obtain ⟨g0,g1,g2,g3,g4⟩:=k3M l j p hp;obtain ⟨pb,po,pc,_,hA,_,_,hc⟩:=(L3.out.2.1.below Q.out).open zz1;simp only [Value.slice.injEq] at hA;obtain ⟨rfl,-,rfl⟩:=hA;have hal:=k6F l;have hll:=L3.out.2.2;have c0:=(hc (j*5) zz1).trans g0;have c1:wr.cell? ⟨pb,po+j*5+1,none⟩=some (.int .i64 (p.2.1)):=(hc (j*5+1) zz1).trans g1;have c2:wr.cell? ⟨pb,po+j*5+2,none⟩=some (.int .i64 0):=(hc (j*5+2) zz1).trans g2;have c3:wr.cell? ⟨pb,po+j*5+3,none⟩=some (.int .i64 (p.2.2.1)):=(hc (j*5+3) zz1).trans g3;have c4:wr.cell? ⟨pb,po+j*5+4,none⟩=some (.int .i64 (p.2.2.2)):=(hc (j*5+4) zz1).trans g4;clear hc g0 g1 g2 g3 g4 hp hal hll;go_wp2;refine ⟨⟨j+1,zz1,rfl,rfl,⟨Q.out.alloc Q.out.size _⟩⟩,?_⟩;show q-ixOf (.int .i64 ((j:Int)+1))<q-ixOf (.int .i64 (j:Int));exact zz10
     · have e2:¬ (j:Int)<(q:Int):=by omega
       obtain rfl:q=j:=by omega
       go_wp2;go_ret;exact ⟨rfl,L3.out.1.trans (Q.out.mono L3.out.1.size)⟩
end
end Go.Proofs.YtdopmlopafgonaaGreatDoor.Own
namespace Go.Proofs.YtdopmlopafgonaaGreatDoor.Own
section
variable {D:PlanD} {v:Nat} {st st':NSt}
theorem k80 (f:Nat->Bool) (n:Nat):k1a f n=0 ↔ ∀ j,j<n->f j=false:=by
 constructor
 · intro h j hj
   have:=k1M f j n;rw [h,Nat.zero_testBit] at this;simpa [hj] using this.symm
 · intro h
   apply Nat.eq_of_testBit_eq;intro j;rw [k1M,Nat.zero_testBit];by_cases hj:j<n
   · simp [h j hj]
   · simp [hj]
theorem k7p (i j:Nat):askB D st i j=true ↔ ∃ k,k<D.lanes/\mayB st i j k=true:=by
 unfold askB mayM;rw [decide_eq_true_iff,Ne,k80];constructor
 · intro h
   rcases Classical.em (∃ k,k<D.lanes/\mayB st i j k=true) with h2 | h2
   · exact h2
   · refine absurd (fun k hk=>?_) h
     cases e:mayB st i j k with
     | false=>rfl
     | true=>exact absurd ⟨k,hk,e⟩ h2
 · rintro ⟨k,hk,h⟩ h2
   rw [h2 k hk] at h;exact zz45
theorem k7s {i k:Nat} (hi:i<np D v) (hk:k<np D v):((k3P D v st).getD i 0).testBit k=askB D st i k:=by
 unfold k3P;rw [List.getD_eq_getElem?_getD,List.getElem?_map,List.getElem?_range hi];simp only [Option.map_some,Option.getD_some];rw [k1M];simp [hk]
theorem FedTo.none_ {n:Nat} (hw:∀ k,k<n->st.waits k=[]):∀ {m:Nat} {s:NSt},m<=n->FedTo D v st m s->s=st
 | 0,s,_,f=>f
 | m+1,s,hm,f=>by
   obtain ⟨s1,f1,f2⟩:=f;obtain rfl:=FedTo.none_ hw (m:=m) zz1 f1;rcases f2 with ⟨_,h⟩ | ⟨_,_,h⟩ | ⟨x,r,_,h,_⟩
   · exact h
   · exact h
   · rw [hw m zz1] at h;cases h
theorem MovesTo.none_ {ms:Nat->Int}:∀ {n:Nat} {s':NSt} {os:List OutP},(∀ i,i<n->ms i<0)->MovesTo D v ms n st s' os->s'=st/\os=[]
 | 0,s',os,_,h=>h
 | n+1,s',os,hm,h=>by
   obtain ⟨s1,o1,o2,h1,h2,rfl⟩:=h;obtain ⟨rfl,rfl⟩:=MovesTo.none_ (n:=n) (fun i hi=>hm i zz1) h1;have:=hm n zz1;rcases h2 with ⟨h0,_⟩ | ⟨_,rfl,rfl⟩
   · exact zz1
   · exact ⟨rfl,rfl⟩
theorem MovesTo.one_ {ms:Nat->Int} {i0:Nat} (h0:0<=ms i0):∀ {n:Nat} {s':NSt} {os:List OutP},i0<n->(∀ i,i<n->i≠i0->ms i<0)->MovesTo D v ms n st s' os->MoveRel D v i0 (ms i0).toNat st s' os
 | 0,s',os,h,_,_=>by omega
 | n+1,s',os,hn,hm,h=>by
   obtain ⟨s1,o1,o2,h1,h2,rfl⟩:=h;by_cases e:i0=n
   · subst e
     obtain ⟨rfl,rfl⟩:=MovesTo.none_ (n:=i0) (fun i hi=>hm i zz1 zz1) h1;rcases h2 with ⟨_,h2⟩ | ⟨h2,_⟩
     · exact h2
     · exact zz1
   · have h3:=MovesTo.one_ h0 (n:=n) zz1 (fun i hi=>hm i zz1) h1
     have:=hm n zz1 (fun e2=>e e2.symm);rcases h2 with ⟨h4,_⟩ | ⟨_,rfl,rfl⟩
     · exact zz1
     · rw [List.append_nil];exact h3
theorem k8o {os:List OutP} (hw:∀ k,k<D.lanes->st.waits k=[]) (hq:∀ a,st.q a=[]) (t:TickRel D v st st' os):st' = { st with ticks:=st.ticks+1 } /\ os=if (st.ticks+1) % D.every=0 then k19 D v st (np D v) else []:=by
 obtain ⟨s1,ms,s2,o2,hf,hm,_,hmv,rfl,rfl⟩:=t;obtain rfl:=FedTo.none_ hw (Nat.le_refl _) hf;have h:∀ i,i<np D v->ms i<0:=fun i hi=>by
  rcases hm i hi with e | ⟨k,hk,e,hb⟩
  · exact zz1
  · rw [k7s hi hk,k7p] at hb
    obtain ⟨j,_,hj⟩:=hb;simp [mayB,hq] at hj
 obtain ⟨rfl,rfl⟩:=MovesTo.none_ h hmv;exact ⟨rfl,rfl⟩
def k0K (st:NSt) (i0 j0:Nat) (x:Pk):NSt:=if j0=0 then k1U (k0F (k0I st i0 0 0 []) i0 0) x else k30 (k0F (k0I st i0 j0 0 []) i0 0) j0 0
def out1 (D:PlanD) (v:Nat) (st:NSt) (j0:Nat) (x:Pk):List OutP:=if j0=0 then [] else [(k0E D v j0,(k2y 0 (st.snd j0 0).1 x).bytes)]
theorem k9N (G:Good D) {i0 j0:Nat} {x:Pk} (hi:i0<np D v) (hj:j0<np D v) (hq:∀ a,st.q a=if a=(i0,j0,0) then [x] else []) (hu:j0=0\/(st.snd j0 0).1<(st.snd j0 0).2) {ms:Nat->Int} {s2:NSt} {o2:List OutP}
 (hm:k2H (k3P D v st) (np D v) ms) (hs:∀ i0 k0,k2g (k3P D v st) (np D v) i0 k0->ms i0=(k0:Nat)) (hmv:MovesTo D v ms (np D v) st s2 o2):s2=k0K st i0 j0 x/\o2=out1 D v st j0 x:=by
 have hl:=G.l0;have hb:∀ i j k,mayB st i j k=true ↔ i=i0/\j=j0/\k=0:=fun i j k=>by
  unfold mayB;rw [hq];by_cases e:(i,j,k)=(i0,j0,0)
  · rw [if_pos e]
    simp only [Prod.mk.injEq] at e;obtain ⟨rfl,rfl,rfl⟩:=e;rcases hu with rfl | hu
    · exact zz17
    · simp [hu]
  · rw [if_neg e]
    simp only [Prod.mk.injEq] at e;simp [e]
 have ha:∀ i,i<np D v->∀ k,k<np D v->((k3P D v st).getD i 0).testBit k=(i == i0 && k == j0):=fun i h1 k h2=>by
  rw [k7s h1 h2];rw [Bool.eq_iff_iff,k7p];simp only [hb,Bool.and_eq_true,beq_iff_eq];constructor
  · rintro ⟨_,_,a,b,_⟩;exact ⟨a,b⟩
  · rintro ⟨a,b⟩;exact ⟨0,zz1,a,b,rfl⟩
 have hm0:=hs i0 j0 ⟨hi,hj,ha⟩;have hmn:∀ i,i<np D v->i≠i0->ms i<0:=fun i h1 h2=>by
  rcases hm i h1 with e | ⟨k,hk,e,hb2⟩
  · exact zz1
  · rw [ha i h1 k hk] at hb2
    simp only [Bool.and_eq_true,beq_iff_eq] at hb2;exact absurd hb2.1 h2
 have mv:=MovesTo.one_ zz1 hi hmn hmv;rw [hm0,Int.toNat_natCast] at mv;rcases mv with ⟨h,_,_⟩ | ⟨k,y,r,hk,hbk,hqk,h⟩
 · have:=h 0 zz1
   rw [(hb i0 j0 0).2 ⟨rfl,rfl,rfl⟩] at this;cases this
 · obtain ⟨_,_,rfl⟩:=(hb _ _ _).1 hbk
   rw [hq,if_pos rfl] at hqk;simp only [List.cons.injEq] at hqk;obtain ⟨rfl,rfl⟩:=hqk;unfold k0K out1;rcases h with ⟨h0,rfl,rfl⟩ | ⟨h0,rfl,rfl⟩
   · subst h0;exact ⟨by rw [if_pos rfl],by rw [if_pos rfl]⟩
   · exact ⟨by rw [if_neg h0],by rw [if_neg h0]⟩
theorem kai (G:Good D) {i0 j0:Nat} {x:Pk} {os:List OutP} (hw:∀ k,k<D.lanes->st.waits k=[]) (hi:i0<np D v) (hj:j0<np D v) (hq:∀ a,st.q a=if a=(i0,j0,0) then [x] else []) (hu:j0=0\/(st.snd j0 0).1<(st.snd j0 0).2) (t:TickRel D v st st' os) :
 st' = { k0K st i0 j0 x with ticks:=(k0K st i0 j0 x).ticks+1 } /\ os=out1 D v st j0 x++(if ((k0K st i0 j0 x).ticks+1) % D.every=0 then k19 D v (k0K st i0 j0 x) (np D v) else []):=by
 obtain ⟨s1,ms,s2,o2,hf,hm,hs,hmv,rfl,rfl⟩:=t;obtain rfl:=FedTo.none_ hw (Nat.le_refl _) hf;obtain ⟨rfl,rfl⟩:=k9N G hi hj hq hu hm hs hmv;exact ⟨rfl,rfl⟩
theorem k5b (k:Nat) (h:∀ j,st.q (0,j,k)=[]):∀ n,k3T st k n=0
 | 0=>rfl
 | n+1=>by simp [k3T,k5b k h n,h]
def fed1 (D:PlanD) (v:Nat) (st:NSt) (x:Pk):NSt:={ st with waits:=upd st.waits 0 [],q:=updw st.q (0,tw D v (dstN x),0) [x] }
theorem k8M (G:Good D) {x:Pk} (hw0:st.waits 0=[x]) (hw:∀ k,1<=k->k<D.lanes->st.waits k=[]) (hq:∀ a,st.q a=[]):∀ {n:Nat} {s:NSt},1<=n->n<=D.lanes->FedTo D v st n s->s=fed1 D v st x
 | 0,s,h,_,_=>by omega
 | n+1,s,_,hn,f=>by
   obtain ⟨s1,f1,f2⟩:=f;have hr:=G.r0;by_cases e:n=0
   · subst e
     obtain rfl:s1=st:=f1;rcases f2 with ⟨h,_⟩ | ⟨_,h,_⟩ | ⟨y,r,_,h,q',rfl,hq'⟩
     · rw [k5b 0 (fun j=>hq _)] at h;omega
     · rw [hw0] at h;cases h
     · rw [hw0] at h
       simp only [List.cons.injEq] at h;obtain ⟨rfl,rfl⟩:=h;rcases hq' with rfl | ⟨_,a,ha⟩
       · unfold fed1
         rw [hq (0,tw D v (dstN x),0)];rfl
       · exact absurd (hq a) ha
   · obtain rfl:=k8M G hw0 hw hq (n:=n) zz1 zz1 f1
     rcases f2 with ⟨_,h⟩ | ⟨_,_,h⟩ | ⟨y,r,_,h,_⟩
     · exact h
     · exact h
     · have h2:(upd st.waits 0 []) n=y :: r:=h
       rw [k06 _ _ e,hw n zz1 zz1] at h2;cases h2
theorem k7L (G:Good D) {x:Pk} {os:List OutP} (hw0:st.waits 0=[x]) (hw:∀ k,1<=k->k<D.lanes->st.waits k=[]) (hq:∀ a,st.q a=[]) (hj:tw D v (dstN x)<np D v) (hu:tw D v (dstN x)=0\/(st.snd (tw D v (dstN x)) 0).1<(st.snd (tw D v (dstN x)) 0).2) (t:TickRel D v st st' os) :
 st' = { k0K (fed1 D v st x) 0 (tw D v (dstN x)) x with ticks:=(k0K (fed1 D v st x) 0 (tw D v (dstN x)) x).ticks+1 } /\ os=out1 D v st (tw D v (dstN x)) x++(if ((k0K (fed1 D v st x) 0 (tw D v (dstN x)) x).ticks+1) % D.every=0 then k19 D v (k0K (fed1 D v st x) 0 (tw D v (dstN x)) x) (np D v) else []):=by
 obtain ⟨s1,ms,s2,o2,hf,hm,hs,hmv,rfl,rfl⟩:=t;obtain rfl:=k8M G hw0 hw hq G.l0 (Nat.le_refl _) hf;obtain ⟨rfl,rfl⟩:=k9N (st:=fed1 D v st x) (i0:=0) (j0:=tw D v (dstN x)) (x:=x) G (by unfold np;omega) hj (fun a=>by
  show updw st.q _ _ a=_;unfold updw;rw [hq]) hu hm hs hmv
 exact ⟨rfl,rfl⟩
theorem k8e (i0 j0:Nat) (x:Pk) (i k:Nat):(k0K st i0 j0 x).snd i k=if j0≠0/\i=j0/\k=0 then ((st.snd i k).1+1,(st.snd i k).2) else st.snd i k:=by
 unfold k0K;by_cases e:j0=0
 · rw [if_pos e,if_neg (fun h=>h.1 e)]
   show (k0F _ _ _).snd i k=_;rw [k2Y];rfl
 · rw [if_neg e]
   show upd2 (k0F _ _ _).snd j0 0 _ i k=_;rw [k2Y];by_cases e2:i=j0/\k=0
   · obtain ⟨rfl,rfl⟩:=e2
     rw [k0m,if_pos ⟨e,rfl,rfl⟩];rfl
   · rw [k0h _ _ _ _ e2,if_neg (fun h=>e2 h.2)];rfl
theorem k8j (i0 j0:Nat) (x:Pk) (i k:Nat):(k0K st i0 j0 x).rcv i k=if i0≠0/\i=i0/\k=0 then ((st.rcv i k).1,if (st.rcv i k).2=0 then 0 else (st.rcv i k).2-1) else st.rcv i k:=by
 have h:(k0K st i0 j0 x).rcv=(k0F (k0I st i0 j0 0 []) i0 0).rcv:=by
  unfold k0K;by_cases e:j0=0
  · rw [if_pos e,e];rfl
  · rw [if_neg e];rfl
 rw [h];unfold k0F;by_cases e:i0=0
 · rw [if_pos e,if_neg (fun h=>h.1 e)];rfl
 · rw [if_neg e]
   show upd2 _ i0 0 _ i k=_;by_cases e2:i=i0/\k=0
   · obtain ⟨rfl,rfl⟩:=e2
     rw [k0m,if_pos (show i≠0/\i=i/\(0:Nat)=0 from ⟨e,rfl,rfl⟩)];rfl
   · rw [k0h _ _ _ _ e2,if_neg (fun h=>e2 h.2)];rfl
theorem kau (i0 j0:Nat) (x:Pk) (a:Way):(k0K st i0 j0 x).q a=if a=(i0,j0,0) then [] else st.q a:=by
 unfold k0K;by_cases e:j0=0
 · rw [if_pos e,e]
   show (k0F _ _ _).q a=_;rw [k5N];rfl
 · rw [if_neg e]
   show (k0F _ _ _).q a=_;rw [k5N];rfl
theorem k3J (i0 j0:Nat) (x:Pk):(k0K st i0 j0 x).waits=if j0=0 then upd st.waits 3 (st.waits 3++[x]) else st.waits:=by
 unfold k0K;by_cases e:j0=0
 · rw [if_pos e,if_pos e]
   show upd (k0F _ _ _).waits 3 ((k0F _ _ _).waits 3++[x])=_;rw [k22];rfl
 · rw [if_neg e,if_neg e]
   show (k0F _ _ _).waits=_;rw [k22];rfl
end
section
variable {D:PlanD} {P:Nat->Nat->List Nat}
def sndN (D:PlanD) (st:FSt) (a:Nat × Nat) (k:Nat):Int × Int:=(st.node a.1).snd (k07 D a.1 a.2) k
def rcvA (D:PlanD) (st:FSt) (a:Nat × Nat) (k:Nat):Int × Int:=(st.node a.2).rcv (k07 D a.2 a.1) k
structure One (D:PlanD) (l:List Nat) (j:Nat) (Wt:Nat->Nat->List Pk) (Qu:Nat->Way->List Pk) (fl:Option (Nat × Nat)) (hd:Nat × Nat->Nat->Int) (st:FSt):Prop where
 wt:∀ u,u<D.nodes->∀ k,k<=3->(st.node u).waits k=Wt u k
 qu:∀ u,u<D.nodes->∀ a,(st.node u).q a=Qu u a
 num:∀ a∈D.hops,∀ k,k<D.lanes->(rcvA D st a k).1=(sndN D st a k).1-(if fl=some a/\k=0 then 1 else 0)
 hld:∀ a∈D.hops,∀ k,k<D.lanes->(rcvA D st a k).2=hd a k
 crd:∀ a∈D.hops,∀ k,k<D.lanes->(D.start:Int)+D.room<=(sndN D st a k).2
 new:∀ i,j<=i->∀ a b,l[i]? = some a->l[i+1]? = some b->(sndN D st (a,b) 0).1=D.start
 flv:∀ a,fl=some a->(sndN D st a 0).1=D.start+1
def Ctl (D:PlanD) (st:FSt) (a:Nat × Nat) (r:List Int):Prop:=∃ k,k<D.lanes/\(r=(ctlF 3 k (sndN D st a k).1).bytes\/∃ n,r=(ctlF 2 k n).bytes)
section
variable {l:List Nat} {j:Nat} {Wt:Nat->Nat->List Pk} {Qu:Nat->Way->List Pk} {fl:Option (Nat × Nat)} {hd:Nat × Nat->Nat->Int} {st st':FSt} {S:List Pk} {M:Int} {C:Nat}
theorem Holds.bounds (G:Good D) (K:Holds D P S M C st) (hM:M<=900000) {a:Nat × Nat} (ha:a∈D.hops) {k:Nat} (hk:k<D.lanes):0<=(rcvA D st a k).1/\(rcvA D st a k).1<=1000000/\0<=(sndN D st a k).1/\(sndN D st a k).1<=(sndN D st a k).2:=by
 have hab:=k2U (k0s.1 ha).2 (k0s.1 ha).1;have k1:=K.fok _ (k0M ha).1;have k2:=K.fok _ (k0M ha).2;have p1:1<=k07 D a.2 a.1:=by unfold k07;omega
 have p2:1<=k07 D a.1 a.2:=by unfold k07;omega
 exact ⟨k2.num.r0 _ k p1 (k0O hab) hk,k2.num.r1 _ k p1 (k0O hab) hk,k1.num.s0 _ k p2 (k0O (k0s.1 ha).2) hk,k1.num.s1 _ k p2 (k0O (k0s.1 ha).2) hk⟩
theorem k5B {a:Nat × Nat} {v:Nat} {s:NSt} {b:Nat × Nat} {k:Nat} {lk:Nat × Nat->List (List Int)} {t:Nat}:sndN D ⟨upd st.node v s,lk,t⟩ b k=if b.1=v then s.snd (k07 D b.1 b.2) k else sndN D st b k:=by
 unfold sndN;by_cases e:b.1=v
 · rw [if_pos e];show (upd st.node v s b.1).snd _ _=_;rw [e,k04]
 · rw [if_neg e];show (upd st.node v s b.1).snd _ _=_;rw [k06 _ _ e]
theorem k3U {v:Nat} {s:NSt} {b:Nat × Nat} {k:Nat} {lk:Nat × Nat->List (List Int)} {t:Nat}:rcvA D ⟨upd st.node v s,lk,t⟩ b k=if b.2=v then s.rcv (k07 D b.2 b.1) k else rcvA D st b k:=by
 unfold rcvA;by_cases e:b.2=v
 · rw [if_pos e];show (upd st.node v s b.2).rcv _ _=_;rw [e,k04]
 · rw [if_neg e];show (upd st.node v s b.2).rcv _ _=_;rw [k06 _ _ e]
theorem One.ctl (G:Good D) (h:One D l j Wt Qu fl hd st) (K:Holds D P S M C st) (hM:M<=900000) {a:Nat × Nat} (ha:a∈D.hops) (hf:fl≠some a) {r:List Int} (hr:Ctl D st a r) {s':NSt} (t:TakeRel D a.2 (k07 D a.2 a.1) (st.node a.2) r s') {lk:Nat × Nat->List (List Int)} {tk:Nat} :
 One D l j Wt Qu fl hd ⟨upd st.node a.2 s',lk,tk⟩/\∀ b k,(sndN D ⟨upd st.node a.2 s',lk,tk⟩ b k).1=(sndN D st b k).1:=by
 obtain ⟨k,hk,hr⟩:=hr;have hl3:=G.l1;have hw:=(k0M ha).2;have same:One D l j Wt Qu fl hd ⟨upd st.node a.2 (st.node a.2),lk,tk⟩/\∀ b k,(sndN D ⟨upd st.node a.2 (st.node a.2),lk,tk⟩ b k).1=(sndN D st b k).1:=by
  rw [k1t];exact ⟨⟨h.wt,h.qu,h.num,h.hld,h.crd,h.new,h.flv⟩,fun _ _=>rfl⟩
 unfold TakeRel at t;rcases hr with rfl | ⟨n,rfl⟩
 · obtain ⟨f1,f2⟩:=k1J (.inr rfl) (show k<3 by omega) (sndN D st a k).1
   rw [Wire.dec_enc f1 f2] at t;rcases t with ⟨h0,rfl⟩ | ⟨_,⟨h0,_⟩ | ⟨_,h0⟩ | ⟨h0,_⟩⟩
   · exact same
   · exact absurd h0 (by show ¬ (3:Int)=2;omega)
   · obtain ⟨b0,b1,_⟩:=K.bounds G hM ha hk
     have hn:=h.num a ha k hk;rw [if_neg (fun e=>hf e.1)] at hn;have e1:((ctlF 3 k (sndN D st a k).1).l).toNat=k:=by show ((k:Int)).toNat=k;omega
     have e2:k0q (rcvA D st a k).1 (ctlF 3 k (sndN D st a k).1).s=(rcvA D st a k).1:=by
      have e3:(sndN D st a k).1=(rcvA D st a k).1:=by omega
      show k0q _ ((sndN D st a k).1 % 65536)=_;rw [e3];exact k2q b0 zz1 b0 zz1 zz1
     have e4:s'=st.node a.2:=by
      rw [h0,e1];have e5:k43 ((st.node a.2).rcv (k07 D a.2 a.1) k).1 ((st.node a.2).rcv (k07 D a.2 a.1) k).2 D.room (ctlF 3 k (sndN D st a k).1).s=((st.node a.2).rcv (k07 D a.2 a.1) k).1:=by
       unfold k43;have e6:k0q ((st.node a.2).rcv (k07 D a.2 a.1) k).1 (ctlF 3 k (sndN D st a k).1).s=((st.node a.2).rcv (k07 D a.2 a.1) k).1:=e2;rw [e6,if_pos (.inl (Int.le_refl _))]
      rw [e5];have e7:upd2 (st.node a.2).rcv (k07 D a.2 a.1) k (((st.node a.2).rcv (k07 D a.2 a.1) k).1,((st.node a.2).rcv (k07 D a.2 a.1) k).2)=(st.node a.2).rcv:=by
       funext i b;by_cases e:i=k07 D a.2 a.1/\b=k
       · obtain ⟨rfl,rfl⟩:=e;rw [k0m]
       · rw [k0h _ _ _ _ e]
      rw [e7]
     rw [e4];exact same
   · exact absurd h0 (by show ¬ (3:Int)=1;omega)
 · obtain ⟨f1,f2⟩:=k1J (.inl rfl) (show k<3 by omega) n
   rw [Wire.dec_enc f1 f2] at t;rcases t with ⟨h0,rfl⟩ | ⟨_,⟨_,h0⟩ | ⟨h0,_⟩ | ⟨h0,_⟩⟩
   · exact same
   · have e1:((ctlF 2 k n).l).toNat=k:=by show ((k:Int)).toNat=k;omega
     rw [e1] at h0;have hs:∀ i b,(s'.snd i b).1=((st.node a.2).snd i b).1/\((st.node a.2).snd i b).2<=(s'.snd i b).2:=fun i b=>by
      rw [h0];show (upd2 (α:=Int × Int) _ _ _ _ _ _).1=_/\_<=(upd2 (α:=Int × Int) _ _ _ _ _ _).2;by_cases e:i=k07 D a.2 a.1/\b=k
      · obtain ⟨rfl,rfl⟩:=e
        rw [k0m];refine ⟨rfl,?_⟩;dsimp only;unfold k4E;split <;> omega
      · rw [k0h _ _ _ _ e];exact ⟨rfl,Int.le_refl _⟩
     have hr2:s'.rcv=(st.node a.2).rcv:=by rw [h0]
     have hq2:s'.q=(st.node a.2).q:=by rw [h0]
     have hw2:s'.waits=(st.node a.2).waits:=by rw [h0]
     have sn:∀ b k,(sndN D ⟨upd st.node a.2 s',lk,tk⟩ b k).1=(sndN D st b k).1/\(sndN D st b k).2<=(sndN D ⟨upd st.node a.2 s',lk,tk⟩ b k).2:=fun b k=>by
      rw [k5B (a:=a)];by_cases e:b.1=a.2
      · rw [if_pos e];unfold sndN;rw [e];exact hs _ _
      · rw [if_neg e];exact ⟨rfl,Int.le_refl _⟩
     have rc:∀ b k,rcvA D ⟨upd st.node a.2 s',lk,tk⟩ b k=rcvA D st b k:=fun b k=>by
      rw [k3U];by_cases e:b.2=a.2
      · rw [if_pos e,hr2];unfold rcvA;rw [e]
      · rw [if_neg e]
     refine ⟨⟨fun u hu k hk=>?_,fun u hu b=>?_,fun b hb k hk=>?_,fun b hb k hk=>?_,fun b hb k hk=>?_,fun i hi c b h1 h2=>?_,fun b hb=>?_⟩,fun b k=>(sn b k).1⟩
     · show (upd st.node a.2 s' u).waits k=_
       by_cases e:u=a.2
       · subst e;rw [k04,hw2];exact h.wt _ hu k hk
       · rw [k06 _ _ e];exact h.wt u hu k hk
     · show (upd st.node a.2 s' u).q b=_
       by_cases e:u=a.2
       · subst e;rw [k04,hq2];exact h.qu _ hu b
       · rw [k06 _ _ e];exact h.qu u hu b
     · rw [rc,(sn b k).1];exact h.num b hb k hk
     · rw [rc];exact h.hld b hb k hk
     · exact Int.le_trans (h.crd b hb k hk) (sn b k).2
     · rw [(sn (c,b) 0).1];exact h.new i hi c b h1 h2
     · rw [(sn b 0).1];exact h.flv b hb
   · exact absurd h0 (by show ¬ (2:Int)=3;omega)
   · exact absurd h0 (by show ¬ (2:Int)=1;omega)
theorem One.data (G:Good D) {a:Nat × Nat} {x:Pk} (h:One D l j Wt (fun _ _=>[]) (some a) (fun _ _=>0) st) (K:Holds D P S M C st) (ha:a∈D.hops) (hx:PkIn D 0 x) {s':NSt} (t:TakeRel D a.2 (k07 D a.2 a.1) (st.node a.2) (k2y 0 D.start x).bytes s') {lk:Nat × Nat->List (List Int)} {tk:Nat} :
 One D l j Wt (fun u b=>if u=a.2/\b=(k07 D a.2 a.1,tw D a.2 x.dst.toNat,0) then [x] else []) none (fun b k=>if b=a/\k=0 then 1 else 0) ⟨upd st.node a.2 s',lk,tk⟩/\∀ b k,(sndN D ⟨upd st.node a.2 s',lk,tk⟩ b k).1=(sndN D st b k).1:=by
 have hl0:=G.l0;have hr0:=G.r0;have hs1:=G.s1;have hw:=(k0M ha).2;have hab:=k2U (k0s.1 ha).2 (k0s.1 ha).1;obtain ⟨f1,f2⟩:=k2W G (k:=0) zz1 hx (D.start:Int);unfold TakeRel at t;rw [Wire.dec_enc f1 f2] at t;obtain ⟨sx,dx,hsx,hdx,hs6,hd6,_,hlx,_⟩:=hx;have hfl:=h.flv a rfl;have hnum:=h.num a ha 0 zz1;rw [if_pos ⟨rfl,rfl⟩] at hnum;have hhd:=h.hld a ha 0 zz1;rcases t with ⟨h0,_⟩ | ⟨_,⟨h0,_⟩ | ⟨h0,_⟩ | ⟨_,t⟩⟩
 · exact absurd h0 (by show ¬ (D.lanes:Int)<=((0:Nat):Int);omega)
 · exact absurd h0 (by show ¬ (1:Int)=2;omega)
 · exact absurd h0 (by show ¬ (1:Int)=3;omega)
 · unfold DataRel at t
   have e1:((k2y 0 D.start x).l).toNat=0:=rfl;have e2:((st.node a.2).rcv (k07 D a.2 a.1) 0).1=D.start:=by show (rcvA D st a 0).1=_;omega
   have e3:((st.node a.2).rcv (k07 D a.2 a.1) 0).2=0:=hhd;have e4:k0q ((st.node a.2).rcv (k07 D a.2 a.1) 0).1 (k2y 0 D.start x).s=D.start:=by
    rw [e2];exact k2q zz1 zz1 zz1 zz1 zz1
   have ea:(k2y 0 D.start x).a=x.src:=rfl;have eb:(k2y 0 D.start x).b=x.dst:=rfl;rw [e1,e4,e2,e3,ea,eb] at t;rcases t with ⟨h0,_⟩ | ⟨_,t⟩
   · exact zz1
   rcases t with ⟨h0,_⟩ | ⟨_,q',rfl,hq⟩
   · exact zz1
   have hxF:pkOf (k2y 0 D.start x)=x:=by
    show Pk.mk x.src x.dst ((0:Nat):Int) x.body=x;rw [<- hlx]
   rw [hxF] at hq;have hqq:q'=updw (st.node a.2).q (k07 D a.2 a.1,tw D a.2 x.dst.toNat,0) [x]:=by
    rcases hq with rfl | ⟨_,b,hb⟩
    · rw [h.qu a.2 hw];rfl
    · exact absurd (h.qu a.2 hw b) hb
   obtain ⟨s',hs'⟩:∃ s':NSt,s' = { st.node a.2 with rcv:=upd2 (st.node a.2).rcv (k07 D a.2 a.1) 0 ((D.start:Int)+1,0+1),q:=q' }:=⟨_,rfl⟩;rw [<- hs'];have hsn:s'.snd=(st.node a.2).snd:=by rw [hs']
   have hwt:s'.waits=(st.node a.2).waits:=by rw [hs']
   have hqe:s'.q=q':=by rw [hs']
   have hrc:s'.rcv=upd2 (st.node a.2).rcv (k07 D a.2 a.1) 0 ((D.start:Int)+1,0+1):=by rw [hs']
   have sn:∀ b k,sndN D ⟨upd st.node a.2 s',lk,tk⟩ b k=sndN D st b k:=fun b k=>by
    rw [k5B (a:=a)];by_cases e:b.1=a.2
    · rw [if_pos e,hsn];unfold sndN;rw [e]
    · rw [if_neg e]
   have rc1:rcvA D ⟨upd st.node a.2 s',lk,tk⟩ a 0=((D.start:Int)+1,0+1):=by
    rw [k3U,if_pos rfl,hrc,k0m]
   have rc2:∀ b∈D.hops,∀ k,¬ (b=a/\k=0)->rcvA D ⟨upd st.node a.2 s',lk,tk⟩ b k=rcvA D st b k:=fun b hb k hne=>by
    rw [k3U];by_cases e:b.2=a.2
    · rw [if_pos e,hrc,e,k0h]
      · unfold rcvA;rw [e]
      · rintro ⟨e5,rfl⟩
        exact hne ⟨Prod.ext (k2t hab e5) e,rfl⟩
    · rw [if_neg e]
   refine ⟨⟨fun u hu k hk=>?_,fun u hu b=>?_,fun b hb k hk=>?_,fun b hb k hk=>?_,fun b hb k hk=>?_,fun i hi c b h1 h2=>?_,fun b hb=>by cases hb⟩,fun b k=>by rw [sn]⟩
   · show (upd st.node a.2 s' u).waits k=_
     by_cases e:u=a.2
     · subst e;rw [k04,hwt];exact h.wt _ hu k hk
     · rw [k06 _ _ e];exact h.wt u hu k hk
   · show (upd st.node a.2 s' u).q b=_
     by_cases e:u=a.2
     · subst e
       rw [k04,hqe,hqq];unfold updw;by_cases e5:b=(k07 D a.2 a.1,tw D a.2 x.dst.toNat,0)
       · rw [if_pos e5,if_pos ⟨rfl,e5⟩]
       · rw [if_neg e5,if_neg (fun e6=>e5 e6.2)];exact h.qu _ hu b
     · rw [k06 _ _ e,if_neg (fun e6=>e e6.1)];exact h.qu u hu b
   · rw [sn,if_neg zz17]
     by_cases e:b=a/\k=0
     · obtain ⟨rfl,rfl⟩:=e;rw [rc1];show (D.start:Int)+1=_;omega
     · rw [rc2 b hb k e,h.num b hb k hk,if_neg]
       rintro ⟨e5,e6⟩;exact e ⟨(Option.some.inj e5).symm,e6⟩
   · by_cases e:b=a/\k=0
     · rw [if_pos e];obtain ⟨rfl,rfl⟩:=e;rw [rc1];rfl
     · rw [if_neg e,rc2 b hb k e];exact h.hld b hb k hk
   · rw [sn];exact h.crd b hb k hk
   · rw [sn];exact h.new i hi c b h1 h2
end
theorem DelN.keep {A:FSt->Prop} {a:Nat × Nat} (hA:∀ s s',A s->k1B D a 0 s s'->A s'):∀ {n:Nat} {s s':FSt},A s->DelN D a n s s'->A s'
 | 0,s,s',h,d=>by
   obtain rfl:s'=s:=d;exact h
 | n+1,s,s',h,⟨s1,d1,d2⟩=>hA _ _ (DelN.keep hA h d1) d2
theorem DelN.first {A B:FSt->Prop} {a:Nat × Nat} (hBA:∀ s s',B s->k1B D a 0 s s'->A s') (hA:∀ s s',A s->k1B D a 0 s s'->A s'):∀ {n:Nat} {s s':FSt},B s->DelN D a (n+1) s s'->A s'
 | 0,s,s',h,⟨s1,d1,d2⟩=>by
   obtain rfl:s1=s:=d1;exact hBA _ _ h d2
 | n+1,s,s',h,⟨s1,d1,d2⟩=>hA _ _ (DelN.first hBA hA h d1) d2
theorem DelHops.run {A B:FSt->Prop} {h:Nat × Nat} (hB:∀ s s' a,B s->a∈D.hops->a≠h->k1B D a 0 s s'->B s') (hBA:∀ s s',B s->k1B D h 0 s s'->A s') (hA:∀ s s' a,A s->a∈D.hops->k1B D a 0 s s'->A s') (hne:∀ s,B s->s.link h≠[]):∀ {n:Nat} {s s':FSt},B s->DelHops D n s s'->(h∈D.hops.take n->A s')/\(h ∉ D.hops.take n->B s')
 | 0,s,s',hb,d=>by
   obtain rfl:s'=s:=d;exact ⟨fun e=>by simp at e,fun _=>hb⟩
 | n+1,s,s',hb,⟨s1,a,d1,ha,d2⟩=>by
   obtain ⟨i1,i2⟩:=DelHops.run hB hBA hA hne hb d1;have ham:=List.mem_of_getElem? ha;have hmem:h∈D.hops.take (n+1) ↔ h∈D.hops.take n\/h=a:=by rw [List.take_add_one,ha];simp
   constructor
   · intro e
     by_cases e1:h∈D.hops.take n
     · exact DelN.keep (fun s s' h1 d=>hA s s' a h1 ham d) (i1 e1) d2
     · rcases hmem.1 e with e2 | e2
       · exact absurd e2 e1
       · subst e2
         have hb1:=i2 e1;have:=hne _ hb1;obtain ⟨k,hk⟩:∃ k,(s1.link h).length=k+1:=⟨(s1.link h).length-1,by have:=List.length_pos_iff.2 this;omega⟩;rw [hk] at d2;exact DelN.first hBA (fun s s' h1 d=>hA s s' h h1 ham d) hb1 d2
   · intro e
     have e1:h ∉ D.hops.take n:=fun e2=>e (hmem.2 (.inl e2))
     have e2:a≠h:=fun e3=>e (hmem.2 (.inr e3.symm))
     exact DelN.keep (fun s s' h1 d=>hB s s' a h1 ham e2 d) (i2 e1) d2
theorem DelHops.keep {A:FSt->Prop} (hA:∀ s s' a,A s->a∈D.hops->k1B D a 0 s s'->A s'):∀ {n:Nat} {s s':FSt},A s->DelHops D n s s'->A s'
 | 0,s,s',hb,d=>by
   obtain rfl:s'=s:=d;exact hb
 | n+1,s,s',hb,⟨s1,a,d1,ha,d2⟩=>DelN.keep (fun s s' h1 d=>hA s s' a h1 (List.mem_of_getElem? ha) d) (DelHops.keep hA hb d1) d2
theorem DelN.other {a b:Nat × Nat} (hab:b≠a):∀ {n:Nat} {s s':FSt},DelN D a n s s'->s'.link b=s.link b
 | 0,s,s',d=>by
   obtain rfl:s'=s:=d;rfl
 | n+1,s,s',⟨s1,d1,row,x,_,_,e⟩=>by
   rw [e,<- DelN.other hab d1];show updl s1.link a _ b=_;unfold updl;rw [if_neg hab]
theorem DelHops.empty:∀ {n:Nat} {s s':FSt},DelHops D n s s'->∀ a∈D.hops.take n,s'.link a=[]
 | 0,s,s',d,a,ha=>by simp at ha
 | n+1,s,s',⟨s1,b,d1,hb,d2⟩,a,ha=>by
   have h0:s'.link b=[]:=by
    have:=d2.len;exact List.eq_nil_of_length_eq_zero zz1
   by_cases e:a=b
   · rw [e];exact h0
   · rw [DelN.other e d2]
     refine DelHops.empty d1 a ?_;rw [List.take_add_one,hb] at ha;simpa [e] using ha
end
section
variable {D:PlanD} {P:Nat->Nat->List Nat}
def k1b (os:List OutP) (y:Nat):List (List Int):=(os.filter fun p=>decide (p.1=y)).map fun p=>p.2
theorem k2R (p:OutP) (os:List OutP) (y:Nat):k1b (p :: os) y=if p.1=y then p.2 :: k1b os y else k1b os y:=by
 unfold k1b;by_cases e:p.1=y
 · rw [if_pos e,List.filter_cons_of_pos (by simpa using e)];rfl
 · rw [if_neg e,List.filter_cons_of_neg (by simpa using e)]
theorem k5I (o1 o2:List OutP) (y:Nat):k1b (o1++o2) y=k1b o1 y++k1b o2 y:=by
 unfold k1b;rw [List.filter_append,List.map_append]
theorem k8n {os:List OutP} {y:Nat} {r:List Int} (h:r∈k1b os y):(y,r)∈os:=by
 unfold k1b at h;obtain ⟨p,hp,rfl⟩:=List.mem_map.1 h;obtain ⟨h1,h2⟩:=List.mem_filter.1 hp;have:p.1=y:=by simpa using h2
 rw [<- this];exact h1
theorem k44 {v:Nat}:∀ {os:List OutP} {lk:Nat × Nat->List (List Int)},(∀ p∈os,p.1∈D.bs v)->(∀ y∈D.bs v,(lk (v,y)).length+os.length<=D.bag)->∀ a:Nat × Nat,(a.1≠v->k2l D v lk os a=lk a)/\(a.1=v->a.2∈D.bs v->k2l D v lk os a=lk a++k1b os a.2)
 | [],lk,_,_,a=>⟨fun _=>rfl,fun _ _=>by simp [k2l,k1b]⟩
 | p :: os,lk,ho,hl,a=>by
   have e0:k2l D v lk (p :: os)=k2l D v (updl lk (v,p.1) (put1 D (lk (v,p.1)) p.2)) os:=rfl;have hp:=ho p (List.mem_cons_self ..);have hpl:=hl p.1 hp;simp only [List.length_cons] at hpl;have e1:put1 D (lk (v,p.1)) p.2=lk (v,p.1)++[p.2]:=by unfold put1;rw [if_pos zz1]
   have ih:=k44 (v:=v) (os:=os) (lk:=updl lk (v,p.1) (put1 D (lk (v,p.1)) p.2)) (fun q hq=>ho q (List.mem_cons_of_mem _ hq)) (fun y hy=>by
    have:=hl y hy;simp only [List.length_cons] at this;unfold updl;split
    · rw [e1,List.length_append,List.length_singleton];omega
    · omega) a
   rw [e0];refine ⟨fun h=>?_,fun h h2=>?_⟩
   · rw [ih.1 h]
     unfold updl;rw [if_neg (fun e=>h (by rw [e]))]
   · rw [ih.2 h h2,k2R]
     unfold updl;by_cases e:p.1=a.2
     · have e2:a=(v,p.1):=Prod.ext h e.symm
       rw [if_pos e2,if_pos e,e1,e2,List.append_assoc];rfl
     · rw [if_neg (fun e2=>e (by rw [e2])),if_neg e]
theorem k37 {outs:Nat->List OutP} {lk:Nat × Nat->List (List Int)} (h0:∀ a∈D.hops,lk a=[]) (ho:∀ v,v<D.nodes->(∀ p∈outs v,p.1∈D.bs v)/\(outs v).length<=D.bag):∀ k,k<=D.nodes->∀ a∈D.hops,k1A D outs lk k a=if a.1<k then k1b (outs a.1) a.2 else []
 | 0,_,a,ha=>by rw [if_neg zz1];exact h0 a ha
 | k+1,hk,a,ha=>by
   have ih:=k37 h0 ho k zz1;obtain ⟨h1,h2⟩:=ho k zz1;have hx:=k44 (v:=k) (os:=outs k) (lk:=k1A D outs lk k) h1 (fun y hy=>by
    rw [ih (k,y) (k0s.2 ⟨zz1,hy⟩),if_neg zz17];simpa using h2) a
   show k2l D k (k1A D outs lk k) (outs k) a=_;by_cases e:a.1=k
   · rw [hx.2 e (by rw [<- e];exact (k0s.1 ha).2),ih a ha,if_neg zz1,if_pos zz1,e];rfl
   · rw [hx.1 e,ih a ha]
     by_cases e2:a.1<k
     · rw [if_pos e2,if_pos zz1]
     · rw [if_neg e2,if_neg zz1]
theorem k7E (G:Good D) {v y:Nat} {s:NSt} {r:List Int} (h:r∈k1b (k19 D v s (np D v)) y):∃ k,k<D.lanes/\(r=(ctlF 3 k (s.snd (k07 D v y) k).1).bytes\/∃ n,r=(ctlF 2 k n).bytes):=by
 obtain ⟨i,hi,hp⟩:=List.mem_flatMap.1 (k8n h);have hi:=List.mem_range.1 hi;split at hp
 · cases hp
 · obtain ⟨k,hk,hp⟩:=List.mem_flatMap.1 hp
   have hk:=List.mem_range.1 hk;obtain ⟨p1,p2⟩:=k3B (D:=D) (v:=v) (i:=i) zz1 hi;simp only [List.mem_cons,List.not_mem_nil,or_false,Prod.mk.injEq] at hp;rcases hp with ⟨rfl,rfl⟩ | ⟨rfl,rfl⟩
   · exact ⟨k,hk,.inl (by rw [p1])⟩
   · exact ⟨k,hk,.inr ⟨_,rfl⟩⟩
section
variable {l:List Nat} {x:Pk} {st st1:FSt} {S:List Pk} {M:Int} {C:Nat} {r u v w:Nat}
def Wr (l:List Nat) (x:Pk) (r:Nat):Nat->Nat->List Pk:=fun u k=>if r=0/\l[0]? = some u/\k=0 then [x] else []
def Qr (D:PlanD) (l:List Nat) (x:Pk) (r:Nat):Nat->Way->List Pk:=fun u a=>if 1<=r/\l[r]? = some u/\a=(k07 D u (l.getD (r-1) 0),tw D u x.dst.toNat,0) then [x] else []
def hRr (l:List Nat) (r:Nat):Nat × Nat->Nat->Int:=fun a k=>if 1<=r/\l[r-1]? = some a.1/\l[r]? = some a.2/\k=0 then 1 else 0
def Wf (x:Pk) (w:Nat):Nat->Nat->List Pk:=fun u k=>if u=w/\k=3 then [x] else []
def Solo (D:PlanD) (l:List Nat) (x:Pk) (r:Nat) (st:FSt):Prop:=One D l r (Wr l x r) (Qr D l x r) none (hRr l r) st/\∀ a∈D.hops,st.link a=[]
theorem k2o (G:Good D) (I:IsPath D v w l) (hv:v<D.nodes):∀ i u:Nat,l[i]? = some u->u<D.nodes
 | 0,u,h=>by rw [I.first] at h;cases h;exact hv
 | i+1,u,h=>by
   have hi:i<l.length:=by have:=(List.getElem?_eq_some_iff.1 h).1;omega
   obtain ⟨b,_,_⟩:=I.step i _ u (List.getElem?_eq_getElem hi) h;exact k71 b
theorem k9r (G:Good D) (I:IsPath D v w l) (hv:v<D.nodes) (hw:w<D.nodes) (hx:x.dst=w) (h:Solo D l x r st) (hu:l[r]? = some u) {s':NSt} {os:List OutP} (t:TickRel D u (st.node u) s' os) :
 ∃ s0 i0,i0<np D u/\s0.snd=(st.node u).snd/\s0.rcv=(st.node u).rcv/\(∀ k,k<3->s0.waits k=[])/\s0.waits 3=[]/\(∀ a,s0.q a=if a=(i0,tw D u w,0) then [x] else [])/\((i0=0/\r=0)\/(1<=r/\i0=k07 D u (l.getD (r-1) 0)/\l.getD (r-1) 0∈D.bs u/\l[r-1]? = some (l.getD (r-1) 0))) /\
  s' = { k0K s0 i0 (tw D u w) x with ticks:=(k0K s0 i0 (tw D u w) x).ticks+1 } /\ os=out1 D u (st.node u) (tw D u w) x++(if ((k0K s0 i0 (tw D u w) x).ticks+1) % D.every=0 then k19 D u (k0K s0 i0 (tw D u w) x) (np D u) else []):=by
 have hun:=k2o G I hv r u hu;have hl:=G.l1;have hr0:=G.r0;have hd:x.dst.toNat=w:=by omega
 have hdn:dstN x=w:=hd;have hj:=kbU G hun hw;have hus:tw D u w=0\/((st.node u).snd (tw D u w) 0).1<((st.node u).snd (tw D u w) 0).2:=by
  by_cases e:u=w
  · left;unfold tw;rw [if_pos e.symm]
  · right
    have h1:r+1<l.length:=by
     have h2:=(List.getElem?_eq_some_iff.1 hu).1;rcases Nat.lt_or_ge (r+1) l.length with h3 | h3
     · exact h3
     · have:r=l.length-1:=by omega
       have h4:=I.last;rw [<- this,hu] at h4;exact absurd (Option.some.inj h4) e
    have hb:l[r+1]? = some l[r+1]:=List.getElem?_eq_getElem h1;obtain ⟨b1,b2,_⟩:=I.step r u _ hu hb;have e2:tw D u w=k07 D u l[r+1]:=by unfold tw k07;rw [if_neg (fun e3=>e e3.symm),b2]
    have n1:=h.1.new r (Nat.le_refl _) u _ hu hb;have c1:=h.1.crd (u,l[r+1]) (k0s.2 ⟨hun,b1⟩) 0 (by have:=G.l0;omega);rw [e2];show (sndN D st (u,l[r+1]) 0).1<(sndN D st (u,l[r+1]) 0).2;exact zz1
 have w3:(st.node u).waits 3=[]:=by rw [h.1.wt u hun 3 (Nat.le_refl _)];unfold Wr;rw [if_neg zz1]
 by_cases e0:r=0
 · subst e0
   have hw0:(st.node u).waits 0=[x]:=by rw [h.1.wt u hun 0 zz1];unfold Wr;rw [if_pos ⟨rfl,hu,rfl⟩]
   have hwk:∀ k,1<=k->k<3->(st.node u).waits k=[]:=fun k h1 h2=>by rw [h.1.wt u hun k zz1];unfold Wr;rw [if_neg zz1]
   have hq:∀ a,(st.node u).q a=[]:=fun a=>by rw [h.1.qu u hun a];unfold Qr;rw [if_neg zz1]
   have ft:=k7L G hw0 (fun k h1 h2=>hwk k h1 zz1) hq (by rw [hdn];exact hj) (by rw [hdn];exact hus) t;rw [hdn] at ft;refine ⟨fed1 D u (st.node u) x,0,by unfold np;omega,rfl,rfl,fun k hk=>?_,?_,fun a=>?_,.inl ⟨rfl,rfl⟩,ft.1,ft.2⟩
   · show upd (st.node u).waits 0 [] k=[]
     by_cases e:k=0
     · subst e;rw [k04]
     · rw [k06 _ _ e];exact hwk k zz1 hk
   · show upd (st.node u).waits 0 [] 3=[]
     rw [k06 _ _ zz1];exact w3
   · show updw (st.node u).q (0,tw D u (dstN x),0) [x] a=_
     unfold updw;rw [hdn,hq]
 · have hwk:∀ k,k<3->(st.node u).waits k=[]:=fun k h2=>by rw [h.1.wt u hun k zz1];unfold Wr;rw [if_neg (fun e=>e0 e.1)]
   have hr1:r-1<l.length:=by have:=(List.getElem?_eq_some_iff.1 hu).1;omega
   have hp:l[r-1]? = some (l.getD (r-1) 0):=by rw [List.getD_eq_getElem?_getD,List.getElem?_eq_getElem hr1];rfl
   have hpn:=k2o G I hv _ _ hp;obtain ⟨b1,_,_⟩:=I.step (r-1) _ u hp (by rw [show r-1+1=r by omega];exact hu);have hb:=k2U b1 hpn;have hq:∀ a,(st.node u).q a=if a=(k07 D u (l.getD (r-1) 0),tw D u w,0) then [x] else []:=fun a=>by
    rw [h.1.qu u hun a];unfold Qr;rw [hd];by_cases e:a=(k07 D u (l.getD (r-1) 0),tw D u w,0)
    · rw [if_pos e,if_pos ⟨zz1,hu,e⟩]
    · rw [if_neg e,if_neg (fun e2=>e e2.2.2)]
   have ot:=kai G (fun k hk=>hwk k zz1) (k0O hb) hj hq hus t;exact ⟨st.node u,k07 D u (l.getD (r-1) 0),k0O hb,rfl,rfl,hwk,w3,hq,.inr ⟨zz1,rfl,hb,hp⟩,ot.1,ot.2⟩
structure kbi (D:PlanD) (st st1:FSt) (u i0 j0:Nat) (x:Pk):Prop where
 snd:∀ a,a∈D.hops->∀ k,sndN D st1 a k=if a.1=u/\j0≠0/\k07 D u a.2=j0/\k=0 then ((sndN D st a k).1+1,(sndN D st a k).2) else sndN D st a k
 rcv:∀ a,a∈D.hops->∀ k,rcvA D st1 a k=if a.2=u/\i0≠0/\k07 D u a.1=i0/\k=0 then ((rcvA D st a k).1,if (rcvA D st a k).2=0 then 0 else (rcvA D st a k).2-1) else rcvA D st a k
 q:∀ v,v<D.nodes->∀ a,(st1.node v).q a=[]
 wt:∀ v,v<D.nodes->∀ k,k<3->(st1.node v).waits k=[]
 w3:∀ v,v<D.nodes->(st1.node v).waits 3=if v=u/\j0=0 then [x] else []
 row:∀ a,a∈D.hops->∃ rest,st1.link a=(if a.1=u then k1b (out1 D u (st.node u) j0 x) a.2 else [])++rest/\∀ r∈rest,Ctl D st1 a r
theorem k8K (G:Good D) (I:IsPath D v w l) (hv:v<D.nodes) (hw:w<D.nodes) (hx:x.dst=w) (h:Solo D l x r st) (hu:l[r]? = some u) (K:Holds D P S M C st) (hM:M+6<=900000) (t:k8g D st st1) :
 ∃ i0,((i0=0/\r=0)\/(1<=r/\i0=k07 D u (l.getD (r-1) 0)/\l.getD (r-1) 0∈D.bs u/\l[r-1]? = some (l.getD (r-1) 0)))/\kbi D st st1 u i0 (tw D u w) x:=by
 obtain ⟨outs,t1,t2,_⟩:=t;have hun:=k2o G I hv r u hu;have hbag:=G.b0;have hl3:=G.l1;obtain ⟨s0,i0,hi0,e1,e2,e3,e4,e5,e6,e7,e8⟩:=k9r G I hv hw hx h hu (t1 u hun);have oth:∀ y,y<D.nodes->y≠u->st1.node y = { st.node y with ticks:=(st.node y).ticks+1 } /\ outs y=if ((st.node y).ticks+1) % D.every=0 then k19 D y (st.node y) (np D y) else []:=fun y hy hne=>by
  refine k8o (fun k hk=>?_) (fun a=>?_) (t1 y hy)
  · rw [h.1.wt y hy k zz1]
    unfold Wr;rw [if_neg];rintro ⟨rfl,e,_⟩;rw [hu] at e;exact hne (Option.some.inj e).symm
  · rw [h.1.qu y hy a]
    unfold Qr;rw [if_neg];rintro ⟨_,e,_⟩;rw [hu] at e;exact hne (Option.some.inj e).symm
 have ow3:∀ y,y<D.nodes->(st.node y).waits 3=[]:=fun y hy=>by
  rw [h.1.wt y hy 3 (Nat.le_refl _)];unfold Wr;rw [if_neg zz1]
 have hsnd:∀ a,a∈D.hops->∀ k,sndN D st1 a k=if a.1=u/\tw D u w≠0/\k07 D u a.2=tw D u w/\k=0 then ((sndN D st a k).1+1,(sndN D st a k).2) else sndN D st a k:=fun a ha k=>by
  unfold sndN;by_cases e:a.1=u
  · rw [e,e7]
    show (k0K s0 i0 (tw D u w) x).snd (k07 D u a.2) k=_;rw [k8e,e1];by_cases e9:tw D u w≠0/\k07 D u a.2=tw D u w/\k=0
    · rw [if_pos e9,if_pos ⟨rfl,e9⟩]
    · rw [if_neg e9,if_neg (fun e10=>e9 e10.2)]
  · rw [(oth a.1 (k0M ha).1 e).1,if_neg (fun e10=>e e10.1)]
 refine ⟨i0,e6,hsnd,fun a ha k=>?_,fun y hy a=>?_,fun y hy k hk=>?_,fun y hy=>?_,fun a ha=>?_⟩
 · unfold rcvA
   by_cases e:a.2=u
   · rw [e,e7]
     show (k0K s0 i0 (tw D u w) x).rcv (k07 D u a.1) k=_;rw [k8j,e2];by_cases e9:i0≠0/\k07 D u a.1=i0/\k=0
     · rw [if_pos e9,if_pos (show u=u/\i0≠0/\k07 D u a.1=i0/\k=0 from ⟨rfl,e9⟩)]
     · rw [if_neg e9,if_neg (fun e10=>e9 e10.2)]
   · rw [(oth a.2 (k0M ha).2 e).1,if_neg (fun e10=>e e10.1)]
 · by_cases e:y=u
   · subst e
     rw [e7];show (k0K s0 i0 (tw D y w) x).q a=[];rw [kau,e5];by_cases e9:a=(i0,tw D y w,0)
     · rw [if_pos e9]
     · rw [if_neg e9,if_neg e9]
   · rw [(oth y hy e).1]
     show (st.node y).q a=[];rw [h.1.qu y hy a];unfold Qr;rw [if_neg];rintro ⟨_,e9,_⟩;rw [hu] at e9;exact e (Option.some.inj e9).symm
 · by_cases e:y=u
   · subst e
     rw [e7];show (k0K s0 i0 (tw D y w) x).waits k=[];rw [k3J];split
     · rw [k06 _ _ zz1];exact e3 k hk
     · exact e3 k hk
   · rw [(oth y hy e).1]
     show (st.node y).waits k=[];rw [h.1.wt y hy k zz1];unfold Wr;rw [if_neg];rintro ⟨rfl,e9,_⟩;rw [hu] at e9;exact e (Option.some.inj e9).symm
 · by_cases e:y=u
   · subst e
     rw [e7];show (k0K s0 i0 (tw D y w) x).waits 3=_;rw [k3J];by_cases e9:tw D y w=0
     · rw [if_pos e9,if_pos ⟨rfl,e9⟩,k04,e4];rfl
     · rw [if_neg e9,if_neg (fun e10=>e9 e10.2)];exact e4
   · rw [(oth y hy e).1,if_neg (fun e10=>e e10.1)]
     exact ow3 y hy
 ·
  have hlen:∀ y,y<D.nodes->∀ s,(k19 D y s (np D y)).length<=36:=fun y hy s=>by
   have h1:=k2v D y s (np D y);have h2:=k2k G hy;have h3:np D y*(D.lanes*2)<=6*(3*2):=Nat.mul_le_mul h2 zz1;exact zz1
  have hol:∀ y,y<D.nodes->(outs y).length<=D.bag:=fun y hy=>by
   by_cases e:y=u
   · subst e
     rw [e8,List.length_append];have h1:(out1 D y (st.node y) (tw D y w) x).length<=1:=by unfold out1;split <;> simp
     have h2:=hlen y hy (k0K s0 i0 (tw D y w) x);split
     · exact zz1
     · exact zz25
   · rw [(oth y hy e).2]
     have h2:=hlen y hy (st.node y);split
     · exact zz1
     · exact zz17
  have hall:=k37 (outs:=outs) (lk:=st.link) h.2 (fun y hy=>⟨fun p hp=>(k6K G hy (K.fok y hy) zz1 (t1 y hy) p hp).1,hol y hy⟩) D.nodes (Nat.le_refl _) a ha;rw [t2,hall,if_pos (k0M ha).1];by_cases e:a.1=u
  · rw [if_pos e,e,e8,k5I]
    refine ⟨_,rfl,fun r hr=>?_⟩;split at hr
    · obtain ⟨k,hk,hr⟩:=k7E G hr
      refine ⟨k,hk,?_⟩;rcases hr with rfl | ⟨n,rfl⟩
      · left
        unfold sndN;rw [e,e7]
      · exact .inr ⟨n,rfl⟩
    · simp [k1b] at hr
  · rw [if_neg e,(oth a.1 (k0M ha).1 e).2]
    refine ⟨_,rfl,fun r hr=>?_⟩;split at hr
    · obtain ⟨k,hk,hr⟩:=k7E G hr
      refine ⟨k,hk,?_⟩;rcases hr with rfl | ⟨n,rfl⟩
      · left
        unfold sndN;rw [(oth a.1 (k0M ha).1 e).1]
      · exact .inr ⟨n,rfl⟩
    · simp [k1b] at hr
theorem Ctl.congr {s s':FSt} {a:Nat × Nat} {r:List Int} (h:Ctl D s a r) (e:∀ b k,(sndN D s' b k).1=(sndN D s b k).1):Ctl D s' a r:=by
 obtain ⟨k,hk,h⟩:=h;exact ⟨k,hk,by rw [e];exact h⟩
def Before (D:PlanD) (l:List Nat) (x:Pk) (r:Nat) (h:Nat × Nat) (s:FSt):Prop:=One D l (r+1) (fun _ _=>[]) (fun _ _=>[]) (some h) (fun _ _=>0) s/\(∃ rest,s.link h=(k2y 0 D.start x).bytes :: rest/\∀ q∈rest,Ctl D s h q)/\∀ a∈D.hops,a≠h->∀ q∈s.link a,Ctl D s a q
def After (D:PlanD) (l:List Nat) (j:Nat) (Wt:Nat->Nat->List Pk) (Qu:Nat->Way->List Pk) (hd:Nat × Nat->Nat->Int) (s:FSt):Prop:=One D l j Wt Qu none hd s/\∀ a∈D.hops,∀ q∈s.link a,Ctl D s a q
theorem After.step (G:Good D) {j:Nat} {Wt:Nat->Nat->List Pk} {Qu:Nat->Way->List Pk} {hd:Nat × Nat->Nat->Int} {s s':FSt} {a:Nat × Nat} (h:After D l j Wt Qu hd s) (K:Holds D P S M C s) (hM:M<=900000) (ha:a∈D.hops) (d:k1B D a 0 s s'):After D l j Wt Qu hd s':=by
 obtain ⟨row,n',h1,h2,rfl⟩:=d;obtain ⟨o1,o2⟩:=h.1.ctl G K hM ha zz17 (h.2 a ha row (List.mem_of_getElem? h1)) h2 (lk:=updl s.link a ((s.link a).eraseIdx 0)) (tk:=s.ticks);refine ⟨o1,fun b hb q hq=>?_⟩;have hq:q∈updl s.link a ((s.link a).eraseIdx 0) b:=hq;unfold updl at hq;split at hq
 · rename_i e;subst e;exact (h.2 b hb q (List.mem_of_mem_eraseIdx hq)).congr o2
 · exact (h.2 b hb q hq).congr o2
theorem Before.step (G:Good D) {h:Nat × Nat} {s s':FSt} {a:Nat × Nat} (b:Before D l x r h s) (K:Holds D P S M C s) (hM:M<=900000) (ha:a∈D.hops) (hne:a≠h) (d:k1B D a 0 s s'):Before D l x r h s':=by
 obtain ⟨row,n',h1,h2,rfl⟩:=d;obtain ⟨b1,⟨rest,b2,b3⟩,b4⟩:=b;obtain ⟨o1,o2⟩:=b1.ctl G K hM ha (fun e=>hne (Option.some.inj e).symm) (b4 a ha hne row (List.mem_of_getElem? h1)) h2 (lk:=updl s.link a ((s.link a).eraseIdx 0)) (tk:=s.ticks);refine ⟨o1,⟨rest,?_,fun q hq=>(b3 q hq).congr o2⟩,fun c hc hcn q hq=>?_⟩
 · show updl s.link a ((s.link a).eraseIdx 0) h=_
   unfold updl;rw [if_neg (fun e=>hne e.symm)];exact b2
 · have hq:q∈updl s.link a ((s.link a).eraseIdx 0) c:=hq
   unfold updl at hq;split at hq
   · rename_i e;subst e;exact (b4 c hc hcn q (List.mem_of_mem_eraseIdx hq)).congr o2
   · exact (b4 c hc hcn q hq).congr o2
theorem Before.data (G:Good D) {h:Nat × Nat} {s s':FSt} (b:Before D l x r h s) (K:Holds D P S M C s) (hh:h∈D.hops) (hx:PkIn D 0 x) (d:k1B D h 0 s s'):After D l (r+1) (fun _ _=>[]) (fun u b=>if u=h.2/\b=(k07 D h.2 h.1,tw D h.2 x.dst.toNat,0) then [x] else []) (fun b k=>if b=h/\k=0 then 1 else 0) s':=by
 obtain ⟨row,n',h1,h2,rfl⟩:=d;obtain ⟨b1,⟨rest,b2,b3⟩,b4⟩:=b;rw [b2,List.getElem?_cons_zero] at h1;obtain rfl:=Option.some.inj h1;obtain ⟨o1,o2⟩:=b1.data G K hh hx h2 (lk:=updl s.link h ((s.link h).eraseIdx 0)) (tk:=s.ticks);refine ⟨o1,fun c hc q hq=>?_⟩;have hq:q∈updl s.link h ((s.link h).eraseIdx 0) c:=hq;unfold updl at hq;split at hq
 · rename_i e;subst e
   rw [b2] at hq;exact (b3 q (by simpa using hq)).congr o2
 · rename_i e
   exact (b4 c hc e q hq).congr o2
theorem k3A (G:Good D) (W:Ways D P) (I:IsPath D v w l) (hv:v<D.nodes) (hw:w<D.nodes) (hx:x.dst=w) (hp:PkIn D 0 x) (h:Solo D l x r st) (hu:l[r]? = some u) (K:Holds D P S M C st) (hM:M+6<=900000) (hM2:M+6<=D.start+30000) {st':FSt} (t:k6o D st st') :
 (∀ b,l[r+1]? = some b->Solo D l x (r+1) st')/\(r+1=l.length->One D l (r+1) (Wf x w) (fun _ _=>[]) none (fun _ _=>0) st'/\∀ a∈D.hops,st'.link a=[]):=by
 obtain ⟨s1,t1,t2⟩:=t;have K1:=K.tick G W zz1 t1;obtain ⟨i0,hi0,T⟩:=k8K G I hv hw hx h hu K hM t1;have hun:=k2o G I hv r u hu;have hd:x.dst.toNat=w:=by omega
 have hempty:∀ a∈D.hops,st'.link a=[]:=fun a ha=>t2.empty a (by rw [List.take_length];exact ha)
 have hhld:∀ a∈D.hops,∀ k,k<D.lanes->(rcvA D s1 a k).2=0:=fun a ha k hk=>by
  have hb:=h.1.hld a ha k hk;rw [T.rcv a ha k];unfold hRr at hb;rcases hi0 with ⟨rfl,rfl⟩ | ⟨r1,rfl,hbs,hl⟩
  · rw [if_neg zz17,hb,if_neg zz1]
  · by_cases e:a.2=u/\k07 D u (l.getD (r-1) 0)≠0/\k07 D u a.1=k07 D u (l.getD (r-1) 0)/\k=0
    · rw [if_pos e]
      have e1:=k2t hbs e.2.2.1;rw [if_pos ⟨r1,by rw [hl,e1],by rw [hu,e.1],e.2.2.2⟩] at hb;dsimp only;rw [hb];rfl
    · rw [if_neg e,hb,if_neg]
      rintro ⟨_,e1,e2,e3⟩;rw [hu] at e2;rw [hl] at e1;have e4:=Option.some.inj e1;have e5:=Option.some.inj e2;exact e ⟨e5.symm,by unfold k07;omega,by rw [e4],e3⟩
 have hr1:∀ a∈D.hops,∀ k,(rcvA D s1 a k).1=(rcvA D st a k).1:=fun a ha k=>by rw [T.rcv a ha k];split <;> rfl
 have hs2:∀ a∈D.hops,∀ k,(sndN D s1 a k).2=(sndN D st a k).2:=fun a ha k=>by rw [T.snd a ha k];split <;> rfl
 refine ⟨fun b hb=>?_,fun hlast=>?_⟩
 · obtain ⟨b1,b2,b3⟩:=I.step r u b hu hb
   have hbn:=k71 b1;have hhop:(u,b)∈D.hops:=k0s.2 ⟨hun,b1⟩;have etw:tw D u w=k07 D u b:=by unfold tw k07;rw [if_neg (fun e3=>b3 e3.symm),b2]
   have hne0:tw D u w≠0:=by rw [etw];unfold k07;omega
   have hnew:=h.1.new r (Nat.le_refl _) u b hu hb;have hcond:∀ a∈D.hops,∀ k,(a.1=u/\tw D u w≠0/\k07 D u a.2=tw D u w/\k=0) ↔ (a=(u,b)/\k=0):=fun a ha k=>by
    constructor
    · rintro ⟨e1,_,e2,e3⟩
      rw [etw] at e2;exact ⟨Prod.ext e1 (k2t b1 e2),e3⟩
    · rintro ⟨rfl,e3⟩
      exact ⟨rfl,hne0,etw.symm,e3⟩
   have hB:Before D l x r (u,b) s1:=by
    refine ⟨⟨fun y hy k hk=>?_,T.q,fun a ha k hk=>?_,hhld,fun a ha k hk=>?_,fun i hi c d h1 h2=>?_,fun a ha=>?_⟩,?_,fun a ha hne q hq=>?_⟩
    · by_cases e:k=3
      · subst e;rw [T.w3 y hy,if_neg (fun e=>hne0 e.2)]
      · exact T.wt y hy k zz1
    · have hn:=h.1.num a ha k hk
      rw [if_neg zz17] at hn;rw [hr1 a ha k,T.snd a ha k];by_cases e:a=(u,b)/\k=0
      · rw [if_pos ((hcond a ha k).2 e),if_pos ⟨by rw [e.1],e.2⟩]
        dsimp only;exact zz1
      · rw [if_neg (fun e2=>e ((hcond a ha k).1 e2)),if_neg (fun e2=>e ⟨(Option.some.inj e2.1).symm,e2.2⟩)]
        exact hn
    · rw [hs2 a ha k];exact h.1.crd a ha k hk
    · have hcd:(c,d)∈D.hops:=by
       obtain ⟨d1,_,_⟩:=I.step i c d h1 h2;exact k0s.2 ⟨k2o G I hv i c h1,d1⟩
      rw [T.snd _ hcd 0,if_neg]
      · exact h.1.new i zz1 c d h1 h2
      · intro e
        have e1:=((hcond _ hcd 0).1 e).1;have e2:c=u:=congrArg Prod.fst e1;obtain ⟨l1a,l1b⟩:=List.getElem?_eq_some_iff.1 h1;obtain ⟨l2a,l2b⟩:=List.getElem?_eq_some_iff.1 hu;exact List.pairwise_iff_getElem.1 (List.nodup_iff_pairwise_ne.1 I.nodup) r i l2a l1a zz1 (by rw [l1b,l2b,e2])
    · have ea:a=(u,b):=(Option.some.inj ha).symm
      subst ea;rw [T.snd _ hhop 0,if_pos ((hcond _ hhop 0).2 ⟨rfl,rfl⟩)];dsimp only;exact zz1
    · obtain ⟨rest,r1,r2⟩:=T.row (u,b) hhop
      refine ⟨rest,?_,r2⟩;rw [r1,if_pos rfl];unfold out1;rw [if_neg hne0,k2R,etw,k1v b1,if_pos rfl];have e1:((st.node u).snd (k07 D u b) 0).1=D.start:=hnew;rw [e1];rfl
    · obtain ⟨rest,r1,r2⟩:=T.row a ha
      rw [r1] at hq;refine r2 q ?_;have e0:(if a.1=u then k1b (out1 D u (st.node u) (tw D u w) x) a.2 else [])=[]:=by
       by_cases e:a.1=u
       · rw [if_pos e]
         unfold out1;rw [if_neg hne0,k2R,etw,k1v b1,if_neg (fun e2=>hne (Prod.ext e e2.symm))];rfl
       · rw [if_neg e]
      rw [e0] at hq;simpa using hq
   have run:=(DelHops.run (D:=D) (A:=fun s=>After D l (r+1) (fun _ _=>[]) (fun u' b'=>if u'=(u,b).2/\b'=(k07 D (u,b).2 (u,b).1,tw D (u,b).2 x.dst.toNat,0) then [x] else []) (fun b' k=>if b'=(u,b)/\k=0 then 1 else 0) s/\Holds D P S (M+6) (C+6) s) (B:=fun s=>Before D l x r (u,b) s/\Holds D P S (M+6) (C+6) s) (h:=(u,b))
    (fun s s' a hb' ha hne d=>⟨hb'.1.step G hb'.2 zz1 ha hne d,hb'.2.del G W hM2 ha d⟩)
    (fun s s' hb' d=>⟨hb'.1.data G hb'.2 hhop hp d,hb'.2.del G W hM2 hhop d⟩)
    (fun s s' a hb' ha d=>⟨hb'.1.step G hb'.2 zz1 ha d,hb'.2.del G W hM2 ha d⟩)
    (fun s hb'=>by obtain ⟨_,⟨rest,e,_⟩,_⟩:=hb'.1;rw [e];simp) ⟨hB,K1⟩ t2).1 (by rw [List.take_length];exact hhop)
   have o:=run.1.1;have eW:(fun _ _=>[])=Wr l x (r+1):=by
    funext u' k;unfold Wr;rw [if_neg zz1]
   have hget:l.getD (r+1-1) 0=u:=by rw [Nat.add_sub_cancel,List.getD_eq_getElem?_getD,hu];rfl
   have eQ:(fun u' b'=>if u'=(u,b).2/\b'=(k07 D (u,b).2 (u,b).1,tw D (u,b).2 x.dst.toNat,0) then [x] else [])=Qr D l x (r+1):=by
    funext u' b';unfold Qr;rw [hget,hb];by_cases e:u'=b
    · subst e
      by_cases e2:b'=(k07 D u' u,tw D u' x.dst.toNat,0)
      · rw [if_pos ⟨rfl,e2⟩,if_pos ⟨zz1,rfl,e2⟩]
      · rw [if_neg (fun e3=>e2 e3.2),if_neg (fun e3=>e2 e3.2.2)]
    · rw [if_neg (fun e3=>e e3.1),if_neg (fun e3=>e (Option.some.inj e3.2.1).symm)]
   have eH:(fun (b':Nat × Nat) (k:Nat)=>if b'=(u,b)/\k=0 then (1:Int) else 0)=hRr l (r+1):=by
    funext b' k;unfold hRr;rw [Nat.add_sub_cancel,hu,hb];by_cases e:b'=(u,b)/\k=0
    · rw [if_pos e,if_pos ⟨zz1,by rw [e.1],by rw [e.1],e.2⟩]
    · rw [if_neg e,if_neg]
      rintro ⟨_,e1,e2,e3⟩;exact e ⟨Prod.ext (Option.some.inj e1).symm (Option.some.inj e2).symm,e3⟩
   rw [eW,eQ,eH] at o;exact ⟨o,hempty⟩
 · have huw:u=w:=by
    have h4:=I.last;rw [show l.length-1=r by omega,hu] at h4;exact Option.some.inj h4
   have etw:tw D u w=0:=by unfold tw;rw [if_pos huw.symm]
   have hs:∀ a∈D.hops,∀ k,sndN D s1 a k=sndN D st a k:=fun a ha k=>by rw [T.snd a ha k,if_neg (fun e=>e.2.1 etw)]
   have hA:After D l (r+1) (Wf x w) (fun _ _=>[]) (fun _ _=>0) s1:=by
    refine ⟨⟨fun y hy k hk=>?_,T.q,fun a ha k hk=>?_,hhld,fun a ha k hk=>?_,fun i hi c d h1 h2=>?_,fun a ha=>by cases ha⟩,fun a ha q hq=>?_⟩
    · unfold Wf
      by_cases e:k=3
      · subst e
        rw [T.w3 y hy];by_cases e2:y=w
        · rw [if_pos ⟨by rw [e2,huw],etw⟩,if_pos ⟨e2,rfl⟩]
        · rw [if_neg (fun e3=>e2 (by rw [e3.1,huw])),if_neg (fun e3=>e2 e3.1)]
      · rw [if_neg (fun e3=>e e3.2)];exact T.wt y hy k zz1
    · rw [hr1 a ha k,hs a ha k];exact h.1.num a ha k hk
    · rw [hs a ha k];exact h.1.crd a ha k hk
    · have:=(List.getElem?_eq_some_iff.1 h2).1
      omega
    · obtain ⟨rest,r1,r2⟩:=T.row a ha
      rw [r1] at hq;refine r2 q ?_;have e0:(if a.1=u then k1b (out1 D u (st.node u) (tw D u w) x) a.2 else [])=[]:=by
       unfold out1;rw [if_pos etw];split <;> rfl
      rw [e0] at hq;simpa using hq
   have run:=DelHops.keep (D:=D) (A:=fun s=>After D l (r+1) (Wf x w) (fun _ _=>[]) (fun _ _=>0) s/\Holds D P S (M+6) (C+6) s) (fun s s' a hb' ha d=>⟨hb'.1.step G hb'.2 zz1 ha d,hb'.2.del G W hM2 ha d⟩) ⟨hA,K1⟩ t2;exact ⟨run.1.1,hempty⟩
theorem k5a (G:Good D) (I:IsPath D v w l) (hv:v<D.nodes) {y:Int} {s':NSt} (hvw:v≠w) (hn:∀ u,u<D.nodes->st.node u=nst0 D) (hl:∀ a∈D.hops,st.link a=[]) {c:Int} (t:k7k D v w 0 y (st.node v) c s'):c=0/\Solo D l ⟨v,w,(0:Nat),y⟩ 0 { st with node:=upd st.node v s' }:=by
 have hq:=G.q0;rcases t with ⟨h,_⟩ | ⟨_,h,_⟩ | ⟨_,_,rfl,rfl⟩
 · exact absurd h.symm hvw
 · rw [hn v hv] at h;simp [nst0] at h;omega
 · have hsn:∀ a∈D.hops,∀ k,sndN D { st with node:=upd st.node v { st.node v with waits:=upd (st.node v).waits 0 ((st.node v).waits 0++[⟨v,w,(0:Nat),y⟩]) } } a k=((D.start:Int),(D.start:Int)+D.room):=fun a ha k=>by
    show sndN D ⟨_,st.link,st.ticks⟩ a k=_;rw [k5B (a:=a)];split
    · rw [hn v hv];rfl
    · unfold sndN;rw [hn _ (k0M ha).1];rfl
   have hrc:∀ a∈D.hops,∀ k,rcvA D { st with node:=upd st.node v { st.node v with waits:=upd (st.node v).waits 0 ((st.node v).waits 0++[⟨v,w,(0:Nat),y⟩]) } } a k=((D.start:Int),0):=fun a ha k=>by
    show rcvA D ⟨_,st.link,st.ticks⟩ a k=_;rw [k3U];split
    · rw [hn v hv];rfl
    · unfold rcvA;rw [hn _ (k0M ha).2];rfl
   refine ⟨rfl,⟨fun u hu k hk=>?_,fun u hu a=>?_,fun a ha k hk=>?_,fun a ha k hk=>?_,fun a ha k hk=>?_,fun i hi a b h1 h2=>?_,fun a ha=>by cases ha⟩,hl⟩
   · show (upd st.node v _ u).waits k=_
     unfold Wr;rw [I.first];by_cases e:u=v
     · subst e
       rw [k04];show upd (st.node u).waits 0 _ k=_;by_cases e2:k=0
       · subst e2;rw [k04,hn u hu,if_pos ⟨rfl,rfl,rfl⟩];rfl
       · rw [k06 _ _ e2,hn u hu,if_neg (fun e3=>e2 e3.2.2)];rfl
     · rw [k06 _ _ e,hn u hu,if_neg (fun e3=>e (Option.some.inj e3.2.1).symm)];rfl
   · show (upd st.node v _ u).q a=_
     unfold Qr;rw [if_neg zz1];by_cases e:u=v
     · subst e;rw [k04,hn u hu];rfl
     · rw [k06 _ _ e,hn u hu];rfl
   · rw [hsn a ha k,hrc a ha k,if_neg zz17];simp
   · rw [hrc a ha k];unfold hRr;rw [if_neg zz1]
   · rw [hsn a ha k];exact Int.le_refl _
   · have hab:(a,b)∈D.hops:=by
      obtain ⟨d1,_,_⟩:=I.step i a b h1 h2;exact k0s.2 ⟨k2o G I hv i a h1,d1⟩
     rw [hsn _ hab 0]
end
end
end Go.Proofs.YtdopmlopafgonaaGreatDoor.Own
