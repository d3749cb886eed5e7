/- TopQuick: one packet alone is brought from host to host (a part of the walks and of the plain laws). -/
import Derived.Test.YtdopmlopafgonaaGreatDoorC0
import Derived.Test.YtdopmlopafgonaaGreatDoorC40
set_option linter.unusedVariables false
set_option linter.unusedSimpArgs false
set_option maxHeartbeats 4000000
set_option maxRecDepth 100000
namespace Go.Proofs.YtdopmlopafgonaaGreatDoor.Own
open Go.RowKit Go.Proofs.YtdopmlopafgonaaGreatDoorW.PrintWords Go.Proofs.YtdopmlopafgonaaGreatDoorW.PrintLast Go.Proofs.YtdopmlopafgonaaGreatDoorW.PrintMore
theorem kbL:(Tryz.prog.info? 113).map (fun i=>(i.zero,i.size,i.bytes))=some (some (.slice none 0 0),1,24):=by kernel_rfl
theorem OutsAt.only {P:Nat->Prop} {w w':World} {o:Nat->Col} {lo:Nat} {V:Value} {outs:List OutP} (h:OutsAt w o lo V outs) (t:Only P w w') (hS:∀ b,lo<=b->¬ P b):OutsAt w' o lo V outs:=by
 obtain ⟨us,g,hl,r,hg,hr⟩:=h;refine ⟨us,g,hl,r.only t (fun b e=>hS b (hg b e).1),hg,fun i p u hp hu=>?_⟩;obtain ⟨gb,rb,hb,ob⟩:=hr i p u hp hu;exact ⟨gb,rb.only t (fun b' e=>by cases e;exact hS _ hb),hb,ob⟩
theorem OutsAt.shape {w:World} {o:Nat->Col} {lo:Nat} {V:Value} {outs:List OutP} (h:OutsAt w o lo V outs):∃ A c,V = .slice A outs.length c:=by
 obtain ⟨us,g,hl,r,_⟩:=h;obtain ⟨A,c,e,_⟩:=r.size;exact ⟨A,c,e⟩
theorem OutsAt.mono {w:World} {o:Nat->Col} {lo lo':Nat} {V:Value} {outs:List OutP} (h:OutsAt w o lo V outs) (hl:lo'<=lo):OutsAt w o lo' V outs:=by
 obtain ⟨us,g,h1,r,hg,hr⟩:=h;refine ⟨us,g,h1,r,fun b e=>⟨by have:=(hg b e).1;omega,(hg b e).2⟩,fun i p u hp hu=>?_⟩;obtain ⟨gb,rb,hb,ob⟩:=hr i p u hp hu;exact ⟨gb,rb,zz1,ob⟩
def k9y (c:Col):Prop:=∃ v,k0u v c
structure kce (D:PlanD) (F:FTab) (st:FSt) (M:Int) (C:Nat) (w:World) (o:Nat->Col) (s:Nat) (k:Nat) (W:World) (oc:Nat->Col) (stc:FSt) (outs:Nat->List OutP) (vs:List Value):Prop where
 fab:FabAt W oc D F stc
 tr:Tr k9y o w oc W
 did:∀ v,v<k->TickRel D v (st.node v) (stc.node v) (outs v)/\NodeOk D v (M+6) (C+6) (stc.node v)/\(outs v).length<=50
 rest:∀ v,k<=v->stc.node v=st.node v
 link:stc.link=st.link
 ticks:stc.ticks=st.ticks
 row:Row W (.slice (some ⟨s,0,none⟩) D.nodes D.nodes) 113 1 D.nodes vs (some s)
 os:oc s = .junk
 says:∀ v,v<k->∃ V,vs[v]? = some V/\OutsAt W oc (s+1) V (outs v)
 tab:Tab W
 t0:oc 0 = .fix
def put1 (D:PlanD) (rows:List (List Int)) (l:List Int):List (List Int):=if rows.length<D.bag then rows++[l] else rows
def k2l (D:PlanD) (v:Nat) (lk:Nat × Nat->List (List Int)) (os:List OutP):Nat × Nat->List (List Int):=os.foldl (fun lk p=>updl lk (v,p.1) (put1 D (lk (v,p.1)) p.2)) lk
def k1A (D:PlanD) (outs:Nat->List OutP) (lk:Nat × Nat->List (List Int)):Nat->Nat × Nat->List (List Int)
 | 0=>lk
 | k+1=>k2l D k (k1A D outs lk k) (outs k)
theorem k87 (D:PlanD) (v:Nat) (lk:Nat × Nat->List (List Int)) (os:List OutP) (p:OutP):k2l D v lk (os++[p])=updl (k2l D v lk os) (v,p.1) (put1 D (k2l D v lk os (v,p.1)) p.2):=by unfold k2l;rw [List.foldl_append];rfl
def k1f (c:Col):Prop:=k9y c\/(∃ n,c = .lnk n)\/c = .fab
def k8g (D:PlanD) (st st':FSt):Prop:=∃ outs:Nat->List OutP,(∀ v,v<D.nodes->TickRel D v (st.node v) (st'.node v) (outs v))/\st'.link=k1A D outs st.link D.nodes/\st'.ticks=st.ticks+1
section
variable {w:World} {o:Nat->Col} {D:PlanD} {F:FTab} {st:FSt}
def kbO (w:World) (o:Nat->Col) (D:PlanD) (F:FTab) (st:FSt) (M:Int) (C:Nat) (e:Ending) (w':World):Prop:=∃ (o':Nat->Col) (st':FSt),e = .returned (.tuple #[])/\k8g D st st'/\FabAt w' o' D F st'/\FOk D (M+6) (C+6) st'/\Tr k1f o w o' w'
theorem kas {c:Col} {g:Nat} {rows:List (List Int)} {v:Value} {l:List Int} {gb:Option Nat} (hf:Fresh o w) (L:LnkAt w o c g rows D.bag) (R:Row w v 5 1 l.length (u8s l) gb) (hn:0<l.length) (hl:l.length<=12) :
 Calls Tryz.prog 50 #[.pointer (some ⟨g,0,none⟩),v] w fun e w'=>∃ b o',e = .returned (.bool b)/\Tr (fun x=>x=c) o w o' w'/\LnkAt w' o' c g (put1 D rows l) D.bag:=by
 unfold put1;by_cases h:rows.length<D.bag
 · rw [if_pos h]
   refine (k9v w o c g rows D.bag v l gb hf L R hn hl zz1).mono ?_;rintro e w' ⟨o',h1,h2,h3⟩;exact ⟨true,o',h1,h2,h3⟩
 · rw [if_neg h]
   refine (k4K v L zz1).mono ?_;rintro e w' ⟨h1,h2⟩;exact ⟨false,o,h1,Tr.below hf h2,L.tr (Tr.below (S:=fun _=>False) hf h2) (fun x=>x)⟩
structure Sends (D:PlanD) (F:FTab) (st:FSt) (w:World) (o:Nat->Col) (s:Nat) (stc:FSt) (outs:Nat->List OutP) (vs:List Value) (k j:Nat) (W:World) (oc:Nat->Col):Prop where
 fab:FabAt W oc D F { stc with link:=k2l D k (k1A D outs st.link k) ((outs k).take j) }
 tr:Tr k1f o w oc W
 row:Row W (.slice (some ⟨s,0,none⟩) D.nodes D.nodes) 113 1 D.nodes vs (some s)
 os:oc s = .junk
 says:∀ v,v<D.nodes->∃ V,vs[v]? = some V/\OutsAt W oc (s+1) V (outs v)
theorem Sends.next {s:Nat} {stc:FSt} {outs:Nat->List OutP} {vs:List Value} {k j:Nat} {W W':World} {oc oc':Nat->Col} {p:OutP} (G:Good D) (h:Sends D F st w o s stc outs vs k j W oc) (hp:(outs k)[j]? = some p) (ha:(k,p.1)∈D.hops) (t:Tr (fun c=>c = .lnk (lc (k,p.1))) oc W oc' W')
 (L:LnkAt W' oc' (.lnk (lc (k,p.1))) (F.link (k,p.1)) (put1 D (k2l D k (k1A D outs st.link k) ((outs k).take j) (k,p.1)) p.2) D.bag):Sends D F st w o s stc outs vs k (j+1) W' oc':=by
 refine ⟨?_,h.tr.trans (t.mono (fun c e=>.inr (.inl ⟨_,e⟩))),h.row.only t.only (fun b e=>by cases e;rw [h.os];simp),(t.own _ (h.row.lt rfl)).trans h.os,fun v hv=>?_⟩
 · have:=h.fab.linkTo G ha t L
   rw [List.take_add_one,hp];show FabAt W' oc' D F { stc with link:=k2l D k (k1A D outs st.link k) ((outs k).take j++[p]) };rw [k87];exact this
 · obtain ⟨V,h1,h2⟩:=h.says v hv
   exact ⟨V,h1,h2.tr t zz17⟩
theorem Sends.blw {s:Nat} {stc:FSt} {outs:Nat->List OutP} {vs:List Value} {k j:Nat} {W W':World} {oc:Nat->Col} (h:Sends D F st w o s stc outs vs k j W oc) (b:Below W.heap.size W W'):Sends D F st w o s stc outs vs k j W' oc:=
 ⟨h.fab.blw h.tr.fresh b,h.tr.trans (Tr.below h.tr.fresh b),h.row.below b,h.os,fun v hv=>by obtain ⟨V,h1,h2⟩:=h.says v hv;exact ⟨V,h1,h2.blw h.tr.fresh b⟩⟩
theorem k7u (M:Int) (C:Nat) (H:FabAt w o D F st) (G:Good D) (hf:Fresh o w) (K:FOk D M C st) (KL:LOk D st) (hT:Tab w) (h0:o 0 = .fix) (hM:M+6<=1000000) (hC:C+6<=9000) (ht:∀ v,v<D.nodes->(st.node v).ticks<=1000000) (hft:st.ticks<=1000000) :
 Calls Tryz.prog 24 #[.pointer (some ⟨F.g,0,none⟩)] w (kbO w o D F st M C):=by
 have b0:=fun j=>k00 H.blk j
 have hgl:=k03 H.blk;have hn1:=G.n0;have hn6:=G.n1;obtain ⟨i0,hi,hz0,hz1,hz2⟩:=info_parts kbL;have hmk:∀ W:World,(Instr.makeSlice 111 (.int .i64 D.nodes) (.int .i64 D.nodes)).run Tryz.prog W = .ok (.slice (some ⟨W.heap.size,0,none⟩) D.nodes D.nodes) (W.alloc (.cells (madeCells (Value.slice none 0 0).cells (D.nodes*1)) 113)):=fun W=>by
  have:=run_make (P:=Tryz.prog) W 111 113 i0 _ Tryz.underlying111 hi hz0 .i64 .i64 D.nodes D.nodes zz1 zz1 zz62 zz1;exact zz28
 have HA:=Ab (show _/\_/\_/\_/\_ from ⟨H,G,hf,K,KL⟩);have HB:=Ab (show _/\_/\_/\_ from ⟨hT,h0,ht,hft⟩);clear hi hz0 hz1 hz2 H G hf K KL hT h0 ht hft;go_enter Tryz.func24,Tryz.ntmps24;go_wp2;clear hmk;obtain ⟨w1,hw1⟩:∃ w1,w1=w.alloc (.cells (madeCells #[Value.slice none 0 0] D.nodes) 113):=⟨_,rfl⟩;have B1:=Ab (show Below w.heap.size w w1 from by rw [hw1];exact (Below.refl _ w).alloc (Nat.le_refl _) _);obtain ⟨s,hs⟩:∃ s,s=w.heap.size:=⟨_,rfl⟩;have TT:=Ab (show kce D F st M C w o s 0 w1 o st (fun _=>[]) (List.replicate D.nodes (.slice none 0 0)) from
  ⟨HA.out.1.blw HA.out.2.2.1 B1.out,Tr.below HA.out.2.2.1 B1.out,fun v h=>by omega,fun _ _=>rfl,rfl,rfl,by
   have h:=k3X w (.slice none 0 0) 113 D.nodes rfl;rw [Nat.mul_one] at h;rw [hw1,hs];exact h,by rw [hs];exact HA.out.2.2.1 _ (Nat.le_refl _),fun v h=>by omega,HB.out.1.below B1.out,HB.out.2.1⟩)
 have HSS:=Ab hs;rw [<- hw1,<- hs];clear hw1 hs
 go_loopw [21] (fun s21 wr=>∃ (k:Nat) (oc:Nat->Col) (stc:FSt) (outs:Nat->List OutP) (vs:List Value),k<=D.nodes/\s21 = .int .i64 k/\k08 (kce D F st M C w o s k wr oc stc outs vs)) (fun s21 _=>D.nodes-ixOf s21)
 case atStart=>exact ⟨0,o,st,_,_,zz1,rfl,TT⟩
 case round=>
  clear b0 hgl;obtain ⟨k,oc,stc,outs,vs,hk,rfl,R⟩:=hrel;by_cases hlt:k<D.nodes
  · have e1:(k:Int)<(D.nodes:Int):=by omega
    have c0:=R.out.fab.cells k hlt;have hno:=(R.out.rest k (Nat.le_refl _));have ct:=k82 M C (R.out.fab.node k hlt) HA.out.2.1 hlt R.out.tr.fresh (by rw [hno];exact HA.out.2.2.2.1 k hlt) R.out.tab R.out.t0 hM hC (by rw [hno];exact HB.out.2.2.1 k hlt);obtain ⟨V0,hV0⟩:∃ u,vs[k]? = some u:=⟨_,List.getElem?_eq_getElem zz69⟩;obtain ⟨_,_,_,hs5,hA5,_,hfz,hcs⟩:=R.out.row.open zz1;simp only [Value.slice.injEq,Option.some.injEq,Addr.mk.injEq,and_true,true_and] at hA5;obtain ⟨⟨rfl,rfl⟩,rfl⟩:=hA5;have hck:=(hcs k zz69).trans hV0;rw [Nat.zero_add] at hck;have hfk:=hfz k;have hsl:=R.out.row.lt rfl;have HN:=Ab hno;clear hs5 hfz hcs hno;obtain ⟨cur,hZ⟩:=R.out.row.blk_ty;have HZ:=Ab (show _/\_ from ⟨hZ,hV0⟩);have hckc:=(k00 hZ k).symm.trans hck;clear hZ hV0
    go_wp2_with (go_at_call 49;refine ct.mono ?_;rintro e w2 ⟨V,o2,s2,os2,rfl,hrel,hnode,hok,htr,houts,hlen⟩;obtain ⟨AV,cV,rfl⟩:=houts.shape;have K2:=Ab (show _/\_/\_/\_/\_/\_ from ⟨hrel,hnode,hok,htr,houts,hlen⟩);have Z2:=(htr.only.keep s hsl (by have:=R.out.os;rw [this];intro h;cases h)).trans HZ.out.1;have ck2:=(k00 Z2 k).trans hckc;have fk2:=k02 Z2 k;clear hrel hnode hok htr houts hlen ct hck hfk hckc)
    have hs0:0<s:=by rw [HSS.out];exact HB.out.1.lt
    have ho2:o2 s = .junk:=(K2.out.2.2.2.1.own _ hsl).trans R.out.os;have oS:=k0k w2 s k (.slice AV os2.length cV);have tS:Tr (fun c=>c = .junk) o2 w2 o2 (w2.setCell ⟨s,k,none⟩ (.slice AV os2.length cV)):=Tr.same K2.out.2.2.2.1.fresh (oS.mono (fun b _ e=>by rw [e];exact ho2));refine ⟨⟨k+1,o2,{ stc with node:=upd stc.node k s2 },upd outs k os2,vs.set k (.slice AV os2.length cV),zz1,rfl,⟨?_⟩⟩,?_⟩
    · refine ⟨(R.out.fab.nodeTo K2.out.2.2.2.1 K2.out.2.1).tr tS zz17 zz17 (fun v c h e=>by rw [e] at h;cases h) zz17,⟨(R.out.tr.trans (K2.out.2.2.2.1.mono (fun c h=>⟨k,h⟩))).only.then oS (fun b hb e=>by have:=HSS.out;omega),fun b hb=>(R.out.tr.trans (K2.out.2.2.2.1.mono (fun c h=>⟨k,h⟩))).own b hb,tS.fresh⟩,fun v hv=>?_,fun v hv=>?_,R.out.link,R.out.ticks,?_,ho2,fun v hv=>?_,?_,(K2.out.2.2.2.1.own 0 R.out.tab.lt).trans R.out.t0⟩
      · by_cases e:v=k
        · subst e
          show TickRel D v (st.node v) (upd stc.node v s2 v) (upd outs v os2 v)/\NodeOk D v (M+6) (C+6) (upd stc.node v s2 v)/\(upd outs v os2 v).length<=50;rw [k04,k04];exact ⟨by rw [<- HN.out];exact K2.out.1,K2.out.2.2.1,K2.out.2.2.2.2.2⟩
        · show TickRel D v (st.node v) (upd stc.node k s2 v) (upd outs k os2 v)/\NodeOk D v (M+6) (C+6) (upd stc.node k s2 v)/\(upd outs k os2 v).length<=50
          rw [k06 _ _ e,k06 _ _ e];exact R.out.did v zz1
      · show upd stc.node k s2 v=st.node v
        rw [k06 _ _ zz1];exact R.out.rest v zz1
      · have h:=(R.out.row.only K2.out.2.2.2.1.only (fun b e=>by cases e;rw [R.out.os];intro h;cases h)).set k zz69 (.slice AV os2.length cV)
        rw [Nat.zero_add] at h;exact h
      · by_cases e:v=k
        · subst e
          refine ⟨_,List.getElem?_set_self zz69,?_⟩;rw [k04];exact (K2.out.2.2.2.2.1.mono zz1).only oS (fun b hb e=>by omega)
        · obtain ⟨V,h1,h2⟩:=R.out.says v zz1
          refine ⟨V,by rw [List.getElem?_set_ne (fun h=>e h.symm)];exact h1,?_⟩;rw [k06 _ _ e];exact (h2.tr K2.out.2.2.2.1 (by intro h;cases h)).only oS (fun b hb e=>by omega)
      · exact (R.out.tab.tr K2.out.2.2.2.1 (by rw [R.out.t0];intro h;cases h)).only oS zz1
    · show D.nodes-ixOf (.int .i64 ((k:Int)+1))<D.nodes-ixOf (.int .i64 (k:Int))
      simp only [ixOf];exact zz1
  · have e1:¬ (k:Int)<(D.nodes:Int):=by omega
    obtain rfl:k=D.nodes:=by omega
    have S0:=Ab (show Sends D F st w o s stc outs vs 0 0 wr oc from ⟨by
     have h:=R.out.fab;rw [List.take_zero];show FabAt wr oc D F ⟨stc.node,st.link,stc.ticks⟩;rw [<- R.out.link];exact h,R.out.tr.mono (fun c h=>.inl h),R.out.row,R.out.os,R.out.says⟩)
    have DD:=Ab (show _/\_ from ⟨R.out.did,R.out.ticks⟩);have HB2:=Ab HB.out.2.2.2;clear R;go_wp2
    go_loopw [36] (fun s36 wr=>∃ (k:Nat) (oc:Nat->Col),k<=D.nodes/\s36 = .int .i64 k/\k08 (Sends D F st w o s stc outs vs k 0 wr oc)) (fun s36 _=>D.nodes-ixOf s36)
    case atStart=>exact ⟨0,oc,zz1,rfl,S0⟩
    case round=>
     clear S0 HB;obtain ⟨k,oc,hk,rfl,R⟩:=hrel;by_cases hlt:k<D.nodes
     · have e1:(k:Int)<(D.nodes:Int):=by omega
       obtain ⟨V,hV,hO⟩:=R.out.says k hlt;obtain ⟨AV,cV,rfl⟩:=hO.shape;obtain ⟨_,_,_,hs5,hA5,_,_,hcs⟩:=R.out.row.open zz1;simp only [Value.slice.injEq,Option.some.injEq,Addr.mk.injEq,and_true,true_and] at hA5;obtain ⟨⟨rfl,rfl⟩,rfl⟩:=hA5;have hck:=(hcs k zz69).trans hV;rw [Nat.zero_add] at hck;have hlen:=(DD.out.1 k hlt).2.2;have hoo:=Ab (k6K HA.out.2.1 hlt (HA.out.2.2.2.1 k hlt) hM (DD.out.1 k hlt).1);have HV:=Ab hV;obtain ⟨m,hm⟩:∃ m,m=(outs k).length:=⟨_,rfl⟩;have HMM:=Ab hm;rw [<- hm] at hck hlen HV;clear hs5 hcs hV hO hm;go_wp2
       go_loopw [43] (fun s43 wr=>∃ (j:Nat) (oc:Nat->Col),j<=m/\s43 = .int .i64 j/\k08 (Sends D F st w o s stc outs vs k j wr oc)) (fun s43 _=>m-ixOf s43)
       case atStart=>exact ⟨0,oc,zz1,rfl,R⟩
       case round=>
        clear R hck;obtain ⟨j,oc,hj,rfl,R⟩:=hrel;by_cases hjm:j<m
        · have e2:(j:Int)<(m:Int):=by omega
          obtain ⟨⟨p1,p2⟩,hp⟩:∃ p,(outs k)[j]? = some p:=⟨_,List.getElem?_eq_getElem (by have:=HMM.out;omega)⟩;obtain ⟨V',hV',us,gV,hul,hr,hg,hrs⟩:=R.out.says k hlt;rw [HV.out] at hV';obtain rfl:=Option.some.inj hV';rw [<- HMM.out] at hr hul;obtain ⟨u,hu⟩:∃ u,us[j]? = some u:=⟨_,List.getElem?_eq_getElem zz1⟩;obtain ⟨gb,hrb,hgb,hob⟩:=hrs j (p1,p2) u hp hu;obtain ⟨AU,cU,rfl,_⟩:=hrb.size;obtain ⟨g0,g1⟩:=k3F _ _ _ _ _ hp hu;obtain ⟨vb,vo,vc,hgV,hA,_,_,hcell⟩:=hr.open zz1;simp only [Value.slice.injEq] at hA;obtain ⟨rfl,-,rfl⟩:=hA;have hol:=k3H (outs k) us (by rw [hul,HMM.out]);have c0:wr.cell? ⟨vb,vo+j*2,none⟩=some (.int .i64 (p1:Nat)):=(hcell _ (by have:=HMM.out;omega)).trans g0;have c1:wr.cell? ⟨vb,vo+j*2+1,none⟩=some (.slice AU p2.length cU):=(hcell (j*2+1) (by have:=HMM.out;omega)).trans g1;have hok:=hoo.out (p1,p2) (List.mem_of_getElem? hp);have hh:(k,p1)∈D.hops:=k0s.2 ⟨hlt,hok.1⟩;have RB:=Ab (show _/\_/\_/\_ from ⟨hrb,hok,hp,hh⟩);have bl:=Ab (show Below wr.heap.size wr (wr.alloc (.cells #[.int .i64 (p1:Nat),.slice AU p2.length cU] 115)) from (Below.refl _ _).alloc (Nat.le_refl _) _);have H1:=Ab (R.out.blw bl.out);have Zb:=heap_alloc_new wr (.cells #[.int .i64 (p1:Nat),.slice AU p2.length cU] 115);obtain ⟨M0,hM0⟩:∃ M0,M0=(wr.alloc (.cells #[.int .i64 (p1:Nat),.slice AU p2.length cU] 115)).heap[F.mb]?:=⟨_,rfl⟩;have LK:=Ab (fun (W:World) (hW:W.heap[F.mb]? = M0)=>k60 (W:=W) H1.out.fab.map HA.out.2.1 hh (hW.trans hM0));have HS:=Ab (show (fun (W:World)=>W.cell? ⟨F.g,13,none⟩=some (.map (some F.mb))/\W.cell? ⟨wr.heap.size,0,none⟩=some (.int .i64 p1)/\W.cell? ⟨wr.heap.size,1,none⟩=some (.slice AU p2.length cU)/\W.heap[F.mb]? = M0) (wr.alloc (.cells #[.int .i64 (p1:Nat),.slice AU p2.length cU] 115)) from ⟨(k00 H1.out.fab.blk 13).trans rfl,(k00 Zb 0).trans rfl,(k00 Zb 1).trans rfl,hM0.symm⟩);clear hrb hok hp hh g0 g1 hcell hgV hol hM0 Zb hr hg hrs hul hu hgb hob hV';go_wp2;refine WpL.region (fun (W:World)=>W.cell? ⟨F.g,13,none⟩=some (.map (some F.mb))/\W.cell? ⟨wr.heap.size,0,none⟩=some (.int .i64 p1)/\W.cell? ⟨wr.heap.size,1,none⟩=some (.slice AU p2.length cU)/\W.heap[F.mb]? = M0) 11 zz3 ?_;refine WpL.T 0 [8,3,2,1] HS.out ?_;refine WpL.T 1 [8,3,2] HS.out ?_;refine WpL.T 2 [8,3] HS.out ?_;refine WpL.T 3 [8] HS.out ?_;refine WpL.T 4 [8,7] HS.out ?_;refine WpL.T 5 [8,7,6] HS.out ?_;refine WpL.T 6 [8,7] HS.out ?_;refine WpL.T 7 [8] HS.out ?_;refine WpL.take (i:=8) (v:=?vq1_8) (rfl) zz3 zz3 zz3 [] zz3 zz3 (fun _ _ _ h=>h) ?yq1_8 (HS.out) ?rq1_8
          case yq1_8=>refine Or.inl ⟨?_,?_⟩;rfl;intro w hSw;go_simp;simp only [LK.out _ hSw.2.2.2];rfl
          refine Sm ?_;refine WpL.T 9 [10] HS.out ?_;refine WpL.T 10 [] HS.out ?_;refine WpL.one (i:=11) zz3 rfl (fun K hK=>?_);go_simp;have H2:=Ab (H1.out.blw ((Below.refl _ _).drew));refine (kas (D:=D) (H2.out.tr.fresh) (H2.out.fab.link (k,p1) RB.out.2.2.2) (RB.out.1.below bl.out).drew RB.out.2.1.2.1 RB.out.2.1.2.2.1).mono ?_;rintro e w3 ⟨b3,o3,rfl,ht3,hl3⟩;have K3:=Ab (H2.out.next HA.out.2.1 RB.out.2.2.1 RB.out.2.2.2 ht3 hl3);clear ht3 hl3;simp only [];refine hK.out _ _ (fun h=>absurd rfl h) ?_;clear hK K
          try refine Sm ?_
          refine WpL.done zz3 ?_ _;go_wp2;refine ⟨⟨j+1,o3,zz1,rfl,K3⟩,?_⟩;exact zz85
        · have e2:¬ (j:Int)<(m:Int):=by omega
          obtain rfl:j=m:=by omega
          go_wp2;refine ⟨⟨k+1,oc,zz1,rfl,⟨?_⟩⟩,?_⟩
          · refine ⟨?_,R.out.tr,R.out.row,R.out.os,R.out.says⟩
            have h:=R.out.fab;rw [HMM.out,List.take_length] at h;exact h
          · show D.nodes-ixOf (.int .i64 ((k:Int)+1))<D.nodes-ixOf (.int .i64 (k:Int))
            simp only [ixOf];exact zz1
     · have e1:¬ (k:Int)<(D.nodes:Int):=by omega
       obtain rfl:k=D.nodes:=by omega
       have hFb:=R.out.fab;rw [List.take_zero] at hFb;have hB:=hFb.blk;have b2:=fun j=>k00 hB j
       have f2:=fun j=>k02 hB j
       have hft:stc.ticks<=1000000:=by rw [DD.out.2];exact HB2.out
       have HF:=Ab hFb;clear hFb hB;go_wp2;go_end0;have tS:Tr (fun c=>c = .fab) oc wr oc (wr.setCell ⟨F.g,14,none⟩ (.int .i64 ((stc.ticks:Int)+1))):=Tr.same R.out.tr.fresh ((k0k _ _ _ _).mono (fun b _ e=>by rw [e];exact HF.out.og));refine ⟨oc,⟨stc.node,k1A D outs st.link D.nodes,stc.ticks+1⟩,rfl,⟨outs,fun v hv=>(DD.out.1 v hv).1,rfl,by show stc.ticks+1=st.ticks+1;rw [DD.out.2]⟩,?_,fun v hv=>(DD.out.1 v hv).2.1,R.out.tr.trans (tS.mono (fun c h=>.inr (.inr h)))⟩;exact HF.out.turn tS zz17 (.inr (k05 HF.out.blk 14 (.int .i64 ((stc.ticks:Int)+1)))) (fun v _=>.inl ⟨fun c h e=>(by rw [e] at h;cases h),rfl⟩) (fun a _=>.inl ⟨zz17,rfl⟩)
end
def DelN (D:PlanD) (a:Nat × Nat):Nat->FSt->FSt->Prop
 | 0,s,s'=>s'=s
 | n+1,s,s'=>∃ s1,DelN D a n s s1/\k1B D a 0 s1 s'
def DelHops (D:PlanD):Nat->FSt->FSt->Prop
 | 0,s,s'=>s'=s
 | i+1,s,s'=>∃ s1 a,DelHops D i s s1/\D.hops[i]? = some a/\DelN D a (s1.link a).length s1 s'
def k6o (D:PlanD) (st st':FSt):Prop:=∃ s1,k8g D st s1/\DelHops D D.hops.length s1 st'
theorem DelN.len {D:PlanD} {a:Nat × Nat} {s:FSt}:∀ {n:Nat} {s':FSt},DelN D a n s s'->(s'.link a).length=(s.link a).length-n
 | 0,s',h=>by obtain rfl:s'=s:=h;rfl
 | n+1,s',⟨s1,h1,row,x,h2,_,h3⟩=>by
   have:=h1.len;have hl:=(List.getElem?_eq_some_iff.1 h2).1;rw [h3];show (updl s1.link a ((s1.link a).eraseIdx 0) a).length=_;unfold updl;rw [if_pos rfl,List.length_eraseIdx,if_pos hl];exact zz1
section
variable {w:World} {o:Nat->Col} {D:PlanD} {F:FTab} {st:FSt}
def k9S (P:FSt->Prop) (w:World) (o:Nat->Col) (D:PlanD) (F:FTab) (st:FSt) (e:Ending) (w':World):Prop:=∃ (o':Nat->Col) (st':FSt),e = .returned (.tuple #[])/\k6o D st st'/\P st'/\FabAt w' o' D F st'/\Tr k1f o w o' w'
theorem k1S {a:Nat × Nat} {c:Col} (h:kaQ a c):k1f c:=by
 rcases h with h | h
 · exact .inr (.inl ⟨_,h⟩)
 · exact .inl ⟨_,h⟩
theorem k9t (M:Int) (C:Nat) (P:FSt->Prop) (hP:∀ s,P s->FOk D M C s/\LOk D s) (hd:∀ s s' a,P s->a∈D.hops->k1B D a 0 s s'->P s') (h1:∀ s',k8g D st s'->P s') (M0:Int) (C0:Nat) (H:FabAt w o D F st) (G:Good D) (hf:Fresh o w) (K:FOk D M0 C0 st) (KL:LOk D st) (hT:Tab w) (h0:o 0 = .fix) (hM:M0+6<=1000000) (hC:C0+6<=9000) (ht:∀ v,v<D.nodes->(st.node v).ticks<=1000000) (hft:st.ticks<=1000000) :
 Calls Tryz.prog 19 #[.pointer (some ⟨F.g,0,none⟩)] w (k9S P w o D F st):=by
 have ct:=k7u M0 C0 H G hf K KL hT h0 hM hC ht hft;have HA:=Ab (show _/\_/\_/\_ from ⟨G,hP,hd,h1⟩);have hn6:D.hops.length<=30:=by have:=k0N D G D.nodes (Nat.le_refl _);have:=G.n1;unfold PlanD.hops;omega
 obtain ⟨n,hn⟩:∃ n,n=D.hops.length:=⟨_,rfl⟩;rw [<- hn] at hn6;have HN:=Ab hn;clear hn H G hP hd h1 hf K KL hT h0 ht hft;go_enter Tryz.func19,Tryz.ntmps19
 go_wp2_with (go_at_call 24;refine ct.mono ?_;rintro e w1 ⟨o1,s1,rfl,hr,hfa,hok,htr⟩;have K1:=Ab (show _/\_/\_/\_ from ⟨hr,hfa,hok,htr⟩);have b0:=fun j=>k00 hfa.blk j;rw [<- HN.out] at b0;clear hr hfa hok htr ct)
 go_loopw [10] (fun s10 wr=>∃ (i:Nat) (oc:Nat->Col) (s:FSt),i<=n/\s10 = .int .i64 i/\k08 (DelHops D i s1 s/\P s/\FabAt wr oc D F s/\Tr k1f o w oc wr)) (fun s10 _=>n-ixOf s10)
 case atStart=>exact ⟨0,o1,s1,zz1,rfl,⟨rfl,HA.out.2.2.2 _ K1.out.1,K1.out.2.1,K1.out.2.2.2⟩⟩
 case round=>
  clear b0;obtain ⟨i,oc,s,hi,rfl,R⟩:=hrel;by_cases hlt:i<n
  · have e1:(i:Int)<(n:Int):=by omega
    obtain ⟨a,ha⟩:∃ a,D.hops[i]? = some a:=⟨_,List.getElem?_eq_getElem zz29⟩;have cl:=k3j R.out.2.2.1 HA.out.1 i a ha;have HH:=Ab ha;clear ha
    go_wp2_with (first
     | (go_at_call 26;refine (k5H ((R.out.2.2.1.blw R.out.2.2.2.fresh L2.out).link a (List.mem_of_getElem? HH.out))).mono ?_;rintro e w3 ⟨A3,k3,rfl,_,hb3⟩;have L3:=Ab (show Below wr.heap.size wr w3 from L2.out.trans (hb3.mono L2.out.size));clear hb3)
     | (go_at_call 17;refine cl.mono ?_;rintro e w2 ⟨rfl,hb⟩;have L2:=Ab hb;clear hb cl))
    obtain ⟨m,hm⟩:∃ m,m=(s.link a).length:=⟨_,rfl⟩;have hm64:m<=64:=by
     obtain ⟨_,_,_,es,_,_,_,h1,_,_,h2,_⟩:=R.out.2.2.1.link a (List.mem_of_getElem? HH.out);have hb:=HA.out.1.b0;rw [hm,h1,List.length_map];exact zz1
    have HM:=Ab hm;rw [<- hm];clear hm
    go_loopw [18] (fun s18 wq=>∃ (j:Nat) (oq:Nat->Col) (s2:FSt),j<=m/\s18 = .int .i64 j/\k08 (DelN D a j s s2/\P s2/\FabAt wq oq D F s2/\Tr k1f o w oq wq)) (fun s18 _=>m-ixOf s18)
    case atStart=>exact ⟨0,oc,s,zz1,rfl,⟨rfl,R.out.2.1,R.out.2.2.1.blw R.out.2.2.2.fresh L3.out,R.out.2.2.2.trans (Tr.below R.out.2.2.2.fresh L3.out)⟩⟩
    case round=>
     obtain ⟨j,oq,s2,hj,rfl,Q⟩:=hrel;by_cases hlj:j<m
     · have e2:(j:Int)<(m:Int):=by omega
       have hln:=Q.out.1.len;have cd:=k4n i 0 a M C Q.out.2.2.1 HA.out.1 Q.out.2.2.2.fresh (HA.out.2.1 _ Q.out.2.1).1 (HA.out.2.1 _ Q.out.2.1).2 HH.out (by have:=HM.out;omega);clear hln
       go_wp2_with (go_at_call 27;refine cd.mono ?_;rintro e w5 ⟨c5,o5,s5,rfl,hr5,hf5,ht5⟩;have K5:=Ab (show _/\_/\_ from ⟨hr5,hf5,ht5⟩);clear hr5 hf5 ht5 cd)
       refine ⟨⟨j+1,o5,s5,zz1,rfl,⟨⟨s2,Q.out.1,K5.out.1⟩,HA.out.2.2.1 _ _ a Q.out.2.1 (List.mem_of_getElem? HH.out) K5.out.1,K5.out.2.1,Q.out.2.2.2.trans (K5.out.2.2.mono (fun c h=>k1S h))⟩⟩,?_⟩;exact zz85
     · have e2:¬ (j:Int)<(m:Int):=by omega
       obtain rfl:j=m:=by omega
       go_wp2;refine ⟨⟨i+1,oq,s2,zz1,rfl,⟨⟨s,a,R.out.1,HH.out,by rw [<- HM.out];exact Q.out.1⟩,Q.out.2⟩⟩,?_⟩;exact zz20
  · have e1:¬ (i:Int)<(n:Int):=by omega
    obtain rfl:i=n:=by omega
    go_wp2;go_end0;exact ⟨oc,s,rfl,⟨s1,K1.out.1,by rw [<- HN.out];exact R.out.1⟩,R.out.2.1,R.out.2.2.1,R.out.2.2.2⟩
end
end Go.Proofs.YtdopmlopafgonaaGreatDoor.Own
namespace Go.Proofs.YtdopmlopafgonaaGreatDoor.Own
open Go.RowKit Go.Proofs.YtdopmlopafgonaaGreatDoorW.PrintWords Go.Proofs.YtdopmlopafgonaaGreatDoorW.PrintLast Go.Proofs.YtdopmlopafgonaaGreatDoorW.PrintMore Go.Proofs.YtdopmlopafgonaaGreatDoor.PTopQuick
theorem k2q {a n:Int} (a0:0<=a) (a1:a<=2000000) (n0:0<=n) (h1:n<a+32768) (h2:a-32768<=n):k0q a (n % 65536)=n:=by
 unfold k0q;have e:(n % 65536-(a-32768)) % 65536=n-a+32768:=by omega
 rw [e];exact zz1
abbrev Lg:=Nat × Nat->Nat->List Pk
def addL (L:Lg) (a:Nat × Nat) (k:Nat) (x:Pk):Lg:=fun b j=>if b=a/\j=k then L b j++[x] else L b j
theorem k2m (L:Lg) (a:Nat × Nat) (k:Nat) (x:Pk):addL L a k x a k=L a k++[x]:=by simp [addL]
theorem k2n (L:Lg) {a b:Nat × Nat} {k j:Nat} (x:Pk) (h:¬ (b=a/\j=k)):addL L a k x b j=L b j:=by simp only [addL,if_neg h]
theorem k7r (L:Lg) (a:Nat × Nat) (k:Nat) (x:Pk) (b:Nat × Nat) (j:Nat):L b j <+: addL L a k x b j:=by
 by_cases h:b=a/\j=k
 · obtain ⟨rfl,rfl⟩:=h;rw [k2m];exact List.prefix_append _ _
 · rw [k2n L x h];exact List.prefix_refl _
def rcvN (D:PlanD) (nd:Nat->NSt) (a:Nat × Nat) (k:Nat):Nat:=(((nd a.2).rcv (k07 D a.2 a.1) k).1-D.start).toNat
def cont (D:PlanD) (nd:Nat->NSt) (L:Lg):Pl->List Pk
 | .came v=>(nd v).waits 3
 | .q v i j k=>(nd v).q (i,j,k)
 | .fly x y k=>(L (x,y) k).drop (rcvN D nd (x,y) k)
 | .wait v k=>if k<3 then (nd v).waits k else []
theorem k2j {D:PlanD} {nd nd':Nat->NSt} {L L':Lg} {r:Pl}
 (hc:∀ u,r = .came u->(nd' u).waits 3=(nd u).waits 3)
 (hq:∀ u i j k,r = .q u i j k->(nd' u).q (i,j,k)=(nd u).q (i,j,k))
 (hf:∀ x y k,r = .fly x y k->(L' (x,y) k).drop (rcvN D nd' (x,y) k)=(L (x,y) k).drop (rcvN D nd (x,y) k))
 (hw:∀ u k,r = .wait u k->k<3->(nd' u).waits k=(nd u).waits k):cont D nd' L' r=cont D nd L r:=by
 cases r with
 | came u=>exact hc u rfl
 | q u i j k=>exact hq u i j k rfl
 | fly x y k=>exact hf x y k rfl
 | wait u k=>
   by_cases h:k<3
   · simp only [cont,if_pos h];exact hw u k rfl h
   · simp only [cont,if_neg h]
def FrOk (D:PlanD) (L:Lg) (a:Nat × Nat) (F:Wire.Fr):Prop:=
 F.k=2\/(∃ (k i:Nat) (x:Pk),k<D.lanes/\(L a k)[i]? = some x/\F=k2y k ((D.start:Int)+i) x)\/∃ (k n:Nat),k<D.lanes/\n<=(L a k).length/\F=ctlF 3 k ((D.start:Int)+n)
def RowOk (D:PlanD) (L:Lg) (a:Nat × Nat) (r:List Int):Prop:=∃ (F:Wire.Fr) (b:Int),F.wf/\F.sound=true/\FrOk D L a F/\0<=b/\b<=255/\r=F.bytes.set 0 b
theorem k45 (F:Wire.Fr):0<F.bytes.length:=by rw [Wire.bytes_len];split <;> omega
theorem kaG {a b:Int} (a0:0<=a) (a1:a<=255) (b0:0<=b) (b1:b<=255):bits .xor .u8 a (bits .xor .u8 a b)=b:=by
 have hr:=Wire.xor8_range a0 a1 b0 b1;rw [u8_xor a _ a0 zz1 hr.1 zz1,u8_xor a b a0 zz1 b0 zz1,Int.toNat_natCast,<- Nat.xor_assoc,Nat.xor_self,Nat.zero_xor];exact zz1
theorem RowOk.of_fr {D:PlanD} {L:Lg} {a:Nat × Nat} {F:Wire.Fr} (hw:F.wf) (hs:F.sound=true) (h:FrOk D L a F):RowOk D L a F.bytes:=by
 have hb:=(Wire.oct_bytes hw).getD 0;refine ⟨F,F.bytes.getD 0 0,hw,hs,h,hb.1,hb.2,?_⟩;rw [List.getD_eq_getElem?_getD,List.getElem?_eq_getElem (k45 F),Option.getD_some,List.set_getElem_self]
theorem RowOk.dec {D:PlanD} {L:Lg} {a:Nat × Nat} {r:List Int} (h:RowOk D L a r):Wire.dec r=none\/∃ F,Wire.dec r=some F/\F.wf/\F.sound=true/\FrOk D L a F:=by
 obtain ⟨F,b,hw,hs,hf,b0,b1,rfl⟩:=h;have hb:=(Wire.oct_bytes hw).getD 0;have e:=kaG hb.1 hb.2 b0 b1;have hr:=Wire.xor8_range hb.1 hb.2 b0 b1;rw [<- e];by_cases h0:bits .xor .u8 (F.bytes.getD 0 0) b=0
 · right
   rw [h0];exact ⟨F,Wire.bends_same hw hs 0 (k45 F),hw,hs,hf⟩
 · left
   exact Wire.bends_none hw 0 (k45 F) _ hr.1 hr.2 h0
theorem RowOk.oct {D:PlanD} {L:Lg} {a:Nat × Nat} {r:List Int} (h:RowOk D L a r):Wire.Oct r:=by
 obtain ⟨F,b,hw,hs,hf,b0,b1,rfl⟩:=h;exact (Wire.oct_bytes hw).set 0 b b0 b1
theorem RowOk.mono {D:PlanD} {L L':Lg} {a:Nat × Nat} {r:List Int} (h:RowOk D L a r) (hp:∀ a k,L a k <+: L' a k):RowOk D L' a r:=by
 obtain ⟨F,b,hw,hs,hf,b0,b1,rfl⟩:=h;refine ⟨F,b,hw,hs,?_,b0,b1,rfl⟩;rcases hf with h | ⟨k,i,x,h1,h2,h3⟩ | ⟨k,n,h1,h2,h3⟩
 · exact .inl h
 · obtain ⟨t,e⟩:=hp a k
   exact .inr (.inl ⟨k,i,x,h1,by rw [<- e,List.getElem?_append_left (List.getElem?_eq_some_iff.1 h2).1];exact h2,h3⟩)
 · exact .inr (.inr ⟨k,n,h1,Nat.le_trans h2 (hp a k).length_le,h3⟩)
structure GInv (D:PlanD) (P:Nat->Nat->List Nat) (S:List Pk) (nd:Nat->NSt) (L:Lg):Prop where
 p:PInv D P (cont D nd L) S
 snd:∀ a∈D.hops,∀ k,k<D.lanes->((nd a.1).snd (k07 D a.1 a.2) k).1=D.start+(L a k).length
 rcv:∀ a∈D.hops,∀ k,k<D.lanes->∃ j:Nat,j<=(L a k).length/\((nd a.2).rcv (k07 D a.2 a.1) k).1=D.start+j
 pk:∀ a∈D.hops,∀ k,k<D.lanes->∀ x∈L a k,PkIn D k x
theorem GInv.rcvn {D:PlanD} {P:Nat->Nat->List Nat} {S:List Pk} {nd:Nat->NSt} {L:Lg} (h:GInv D P S nd L) {a:Nat × Nat} (ha:a∈D.hops) {k:Nat} (hk:k<D.lanes):rcvN D nd a k<=(L a k).length/\((nd a.2).rcv (k07 D a.2 a.1) k).1=D.start+(rcvN D nd a k:Nat):=by
 obtain ⟨j,h1,h2⟩:=h.rcv a ha k hk;have:rcvN D nd a k=j:=by unfold rcvN;rw [h2];omega
 rw [this];exact ⟨h1,h2⟩
theorem k1t {α : Type} (r:Nat -> α) (i:Nat):upd r i (r i)=r:=by
 funext j;by_cases e:j=i
 · subst e;rw [k04]
 · exact zz16
theorem k5C {α : Type} (r:Nat -> α) (i:Nat) (x y : α):upd (upd r i x) i y=upd r i y:=by
 funext j;by_cases e:j=i
 · subst e;rw [k04,k04]
 · rw [k06 _ _ e,k06 _ _ e,k06 _ _ e]
section
variable {D:PlanD} {P:Nat->Nat->List Nat} {S:List Pk} {nd:Nat->NSt} {L:Lg} {v:Nat} {s':NSt}
theorem k1w (hr:∀ i k,(s'.rcv i k).1=((nd v).rcv i k).1) (a:Nat × Nat) (k:Nat):rcvN D (upd nd v s') a k=rcvN D nd a k:=by
 unfold rcvN;by_cases e:a.2=v
 · rw [e,k04,hr]
 · exact zz16
theorem GInv.keep (h:GInv D P S nd L) (hs:∀ i k,(s'.snd i k).1=((nd v).snd i k).1) (hr:∀ i k,(s'.rcv i k).1=((nd v).rcv i k).1) (hp:PInv D P (cont D (upd nd v s') L) S):GInv D P S (upd nd v s') L:=by
 refine ⟨hp,fun a ha k hk=>?_,fun a ha k hk=>?_,h.pk⟩
 · rw [<- h.snd a ha k hk]
   by_cases e:a.1=v
   · rw [e,k04,hs]
   · exact zz16
 · obtain ⟨j,h1,h2⟩:=h.rcv a ha k hk
   refine ⟨j,h1,?_⟩;rw [<- h2];by_cases e:a.2=v
   · rw [e,k04,hr]
   · exact zz16
theorem GInv.quiet (h:GInv D P S nd L) (hs:∀ i k,(s'.snd i k).1=((nd v).snd i k).1) (hr:∀ i k,(s'.rcv i k).1=((nd v).rcv i k).1) (hw:s'.waits=(nd v).waits) (hq:s'.q=(nd v).q):GInv D P S (upd nd v s') L:=by
 refine h.keep hs hr (h.p.same fun r=>k2j (fun u _=>?_) (fun u i j k _=>?_) (fun x y k _=>by rw [k1w hr]) (fun u k _ _=>?_))
 · by_cases e:u=v
   · subst e;rw [k04,hw]
   · exact zz16
 · by_cases e:u=v
   · subst e;rw [k04,hq]
   · exact zz16
 · by_cases e:u=v
   · subst e;rw [k04,hw]
   · exact zz16
theorem GInv.feed (G:Good D) (W:Ways D P) (h:GInv D P S nd L) {k:Nat} (hk:k<D.lanes) (f:k7F D v k (nd v) s'):GInv D P S (upd nd v s') L:=by
 have hl:=G.l1;have hk3:k<3:=by omega
 rcases f with ⟨_,rfl⟩ | ⟨_,_,rfl⟩ | ⟨x,r,_,hx,q',rfl,hq⟩
 · rw [k1t];exact h
 · rw [k1t];exact h
 · refine h.keep (fun _ _=>rfl) (fun _ _=>rfl) (h.p.op W (p:=.wait v k) (pre:=[x]) (rest:=r) ⟨?_,?_,?_⟩)
   · simp only [cont,if_pos hk3,hx];rfl
   · simp only [cont,if_pos hk3,k04]
   · rcases hq with rfl | ⟨rfl,_⟩
     · right
       refine ⟨x,zz17,zz17,?_,fun r2 h1 h2=>k2j (fun u _=>?_) (fun u i j m e=>?_) (fun a b m _=>congrArg (fun n=>(L (a,b) m).drop n) (k1w (by exact fun _ _=>rfl) (a,b) m)) (fun u m e hm=>?_)⟩
       · show (upd nd v _ v).q (0,tw D v x.dst.toNat,k)=(nd v).q (0,tw D v x.dst.toNat,k)++[x]
         rw [k04];show updw _ _ _ _=_;rw [show dstN x=x.dst.toNat from rfl,k0n]
       · by_cases e:u=v
         · subst e;rw [k04];exact k06 _ _ zz1
         · exact zz16
       · by_cases e2:u=v
         · subst e2;rw [k04]
           refine k0i _ _ (fun e3=>h2 ?_);exact zz48
         · exact zz34
       · by_cases e2:u=v
         · subst e2;rw [k04]
           exact k06 _ _ (fun e3=>h1 (by rw [e,e3]))
         · exact zz34
     · left
       refine fun r2 h1=>k2j (fun u _=>?_) (fun u i j m e=>?_) (fun a b m _=>congrArg (fun n=>(L (a,b) m).drop n) (k1w (by exact fun _ _=>rfl) (a,b) m)) (fun u m e hm=>?_)
       · by_cases e:u=v
         · subst e;rw [k04];exact k06 _ _ zz1
         · exact zz16
       · by_cases e2:u=v
         · subst e2;rw [k04]
         · exact zz34
       · by_cases e2:u=v
         · subst e2;rw [k04]
           exact k06 _ _ (fun e3=>h1 (by rw [e,e3]))
         · exact zz34
theorem GInv.fed (G:Good D) (W:Ways D P) (h:GInv D P S nd L):∀ {n:Nat} {s':NSt},n<=D.lanes->FedTo D v (nd v) n s'->GInv D P S (upd nd v s') L
 | 0,s',_,f=>by
   obtain rfl:s'=nd v:=f;rw [k1t];exact h
 | n+1,s',hn,f=>by
   obtain ⟨s,f1,f2⟩:=f;have h1:=GInv.fed G W h (n:=n) zz1 f1;have h2:=h1.feed G W (v:=v) (k:=n) (s':=s') zz1 (by rw [k04];exact f2);rw [k5C] at h2;exact h2
theorem k5N (st:NSt) (i k:Nat):(k0F st i k).q=st.q:=by unfold k0F;split <;> rfl
theorem k2Y (st:NSt) (i k:Nat):(k0F st i k).snd=st.snd:=by unfold k0F;split <;> rfl
theorem k22 (st:NSt) (i k:Nat):(k0F st i k).waits=st.waits:=by unfold k0F;split <;> rfl
theorem k67 (st:NSt) (i k a b:Nat):((k0F st i k).rcv a b).1=(st.rcv a b).1:=by
 unfold k0F;split
 · rfl
 · by_cases e:a=i/\b=k
   · obtain ⟨rfl,rfl⟩:=e
     show (upd2 (α:=Int × Int) _ _ _ _ _ _).1=_;rw [k0m]
   · show (upd2 (α:=Int × Int) _ _ _ _ _ _).1=_
     rw [k0h _ _ _ _ e]
theorem k3B {i:Nat} (hi:1<=i) (hn:i<np D v):k07 D v (k0E D v i)=i/\k0E D v i∈D.bs v:=by
 obtain ⟨j,rfl⟩:∃ j,i=j+1:=⟨i-1,zz1⟩;have hj:j<(D.bs v).length:=by unfold np at hn;omega
 have e:k0E D v (j+1)=(D.bs v)[j]:=by
  unfold k0E;rw [List.getD_eq_getElem?_getD,List.getElem?_cons_succ,List.getElem?_eq_getElem hj];rfl
 rw [e];refine ⟨?_,List.getElem_mem _⟩;unfold k07;rw [(k3V D v).idxOf_getElem j hj]
theorem GInv.move (G:Good D) (W:Ways D P) (h:GInv D P S nd L) (hv:v<D.nodes) (Q:QOk D v (nd v)) {i tt:Nat} (hi:i<np D v) (ht:tt<np D v) {os:List OutP} (m:MoveRel D v i tt (nd v) s' os) :
 ∃ L',GInv D P S (upd nd v s') L'/\(∀ a k,L a k <+: L' a k)/\∀ p∈os,p.1∈D.bs v/\RowOk D L' (v,p.1) p.2:=by
 rcases m with ⟨_,rfl,rfl⟩ | ⟨k,x,r,hk,_,hq,⟨rfl,rfl,rfl⟩ | ⟨h0,rfl,rfl⟩⟩
 · rw [k1t]
   exact ⟨L,h,fun _ _=>List.prefix_refl _,fun p hp=>by cases hp⟩
 · have hr:∀ a b,((k1U (k0F (k0I (nd v) i 0 k r) i k) x).rcv a b).1=((nd v).rcv a b).1:=fun a b=>k67 _ _ _ _ _
   have eq:(k1U (k0F (k0I (nd v) i 0 k r) i k) x).q=updw (nd v).q (i,0,k) r:=k5N _ _ _;have ew:(k1U (k0F (k0I (nd v) i 0 k r) i k) x).waits=upd (nd v).waits 3 ((nd v).waits 3++[x]):=by
    show upd (k0F _ _ _).waits 3 ((k0F _ _ _).waits 3++[x])=_;rw [k22];rfl
   have ed:dn D x.dst.toNat (.q v i 0 k) = .came v:=by simp [dn]
   refine ⟨L,h.keep (fun a b=>?_) hr (h.p.op W (p:=.q v i 0 k) (pre:=[x]) (rest:=r) ⟨?_,?_,?_⟩),fun _ _=>List.prefix_refl _,fun p hp=>by cases hp⟩
   · show ((k0F _ _ _).snd a b).1=_
     rw [k2Y];rfl
   · exact hq
   · simp only [cont,k04];rw [eq,k0n]
   · right
     refine ⟨x,zz17,zz17,?_,fun r2 h1 h2=>k2j (fun u e=>?_) (fun u i2 j m e=>?_) (fun a b m _=>by rw [k1w hr]) (fun u m e hm=>?_)⟩
     · rw [ed]
       show (upd nd v _ v).waits 3=_;rw [k04,ew,k04];rfl
     · by_cases e2:u=v
       · subst e2;exact absurd e (by rw [<- ed];exact h2)
       · exact zz34
     · by_cases e2:u=v
       · subst e2;rw [k04,eq]
         refine k0i _ _ (fun e3=>h1 ?_);exact zz48
       · exact zz34
     · by_cases e2:u=v
       · subst e2;rw [k04,ew];exact k06 _ _ zz1
       · exact zz34
 · obtain ⟨p1,p2⟩:=k3B (D:=D) (v:=v) (i:=tt) zz1 ht
   have hx:=Q i tt k hi ht hk x (by rw [hq];simp);have hhop:(v,k0E D v tt)∈D.hops:=k0s.2 ⟨hv,p2⟩;have hr:∀ a b,((k30 (k0F (k0I (nd v) i tt k r) i k) tt k).rcv a b).1=((nd v).rcv a b).1:=fun a b=>k67 _ _ _ _ _
   have eq:(k30 (k0F (k0I (nd v) i tt k r) i k) tt k).q=updw (nd v).q (i,tt,k) r:=k5N _ _ _;have ew:(k30 (k0F (k0I (nd v) i tt k r) i k) tt k).waits=(nd v).waits:=k22 _ _ _;have es:(k30 (k0F (k0I (nd v) i tt k r) i k) tt k).snd=upd2 (nd v).snd tt k (((nd v).snd tt k).1+1,((nd v).snd tt k).2):=by
    show upd2 (k0F _ _ _).snd tt k (((k0F _ _ _).snd tt k).1+1,((k0F _ _ _).snd tt k).2)=_;rw [k2Y];rfl
   have hsn:=h.snd _ hhop k hk;have hsn2:((nd v).snd tt k).1=D.start+(L (v,k0E D v tt) k).length:=by rw [<- hsn];show _=((nd v).snd (k07 D v (k0E D v tt)) k).1;rw [p1]
   refine ⟨addL L (v,k0E D v tt) k x,⟨h.p.op W (p:=.q v i tt k) (pre:=[x]) (rest:=r) ⟨hq,?_,.inr ⟨x,zz17,zz17,?_,fun r2 h1 h2=>k2j (fun u e=>?_) (fun u i2 j m e=>?_) (fun a b m e=>?_) (fun u m e hm=>?_)⟩⟩,fun a ha j hj=>?_,fun a ha j hj=>?_,fun a ha j hj y hy=>?_⟩,k7r _ _ _ _,fun p hp=>?_⟩
   · simp only [cont,k04];rw [eq,k0n]
   · simp only [dn,if_neg h0]
     show (addL L _ _ _ (v,k0E D v tt) k).drop (rcvN D _ (v,k0E D v tt) k)=(L (v,k0E D v tt) k).drop (rcvN D nd (v,k0E D v tt) k)++[x];rw [k2m,k1w hr];exact List.drop_append_of_le_length (h.rcvn hhop hk).1
   · by_cases e2:u=v
     · subst e2;rw [k04,ew]
     · exact zz34
   · by_cases e2:u=v
     · subst e2;rw [k04,eq]
       refine k0i _ _ (fun e3=>h1 ?_);exact zz48
     · exact zz34
   · rw [k1w hr,k2n]
     rintro ⟨e3,rfl⟩;refine h2 ?_;rw [e];simp only [dn,if_neg h0];simp only [Prod.mk.injEq] at e3;rw [e3.1,e3.2]
   · by_cases e2:u=v
     · subst e2;rw [k04,ew]
     · exact zz34
   · by_cases e2:a=(v,k0E D v tt)/\j=k
     · obtain ⟨rfl,rfl⟩:=e2
       rw [k2m];show ((upd nd v _ v).snd (k07 D v (k0E D v tt)) j).1=_;rw [k04,es,p1,k0m,hsn2];simp only [List.length_append,List.length_singleton];exact zz1
     · rw [k2n _ _ e2,<- h.snd a ha j hj]
       by_cases e3:a.1=v
       · rw [e3,k04,es,k0h]
         rintro ⟨e4,rfl⟩;refine e2 ⟨?_,rfl⟩;have h3:a.2∈D.bs v:=by rw [<- e3];exact (k0s.1 ha).2
         have:=k1v h3;rw [e4] at this;obtain ⟨a1,a2⟩:=a;simp only at e3 this;rw [e3,this]
       · rw [k06 _ _ e3]
   · obtain ⟨n,h1,h2⟩:=h.rcv a ha j hj
     refine ⟨n,Nat.le_trans h1 (k7r _ _ _ _ _ _).length_le,?_⟩;rw [<- h2];by_cases e:a.2=v
     · rw [e,k04,hr]
     · exact zz16
   · by_cases e2:a=(v,k0E D v tt)/\j=k
     · obtain ⟨rfl,rfl⟩:=e2
       rw [k2m] at hy;rcases List.mem_append.1 hy with hy | hy
       · exact h.pk _ ha j hj y hy
       · obtain rfl:=List.mem_singleton.1 hy
         exact hx
     · rw [k2n _ _ e2] at hy;exact h.pk a ha j hj y hy
   · obtain rfl:=List.mem_singleton.1 hp
     refine ⟨p2,?_⟩;obtain ⟨f1,f2⟩:=k2W G hk hx ((nd v).snd tt k).1;refine RowOk.of_fr f1 f2 (.inr (.inl ⟨k,(L (v,k0E D v tt) k).length,x,hk,?_,?_⟩))
     · rw [k2m];simp
     · rw [hsn2]
theorem GInv.moves (G:Good D) (W:Ways D P) (h:GInv D P S nd L) (hv:v<D.nodes) {ms:Nat->Int} {rs:List Nat} (hm:k2H rs (np D v) ms) {M:Int} {C:Nat} (K:NodeOk D v M C (nd v)):∀ {n:Nat} {s':NSt} {os:List OutP},n<=np D v->M+n<=1000000->MovesTo D v ms n (nd v) s' os ->
 ∃ L',GInv D P S (upd nd v s') L'/\(∀ a k,L a k <+: L' a k)/\∀ p∈os,p.1∈D.bs v/\RowOk D L' (v,p.1) p.2
 | 0,s',os,_,_,hh=>by
   obtain ⟨rfl,rfl⟩:=hh;rw [k1t];exact ⟨L,h,fun _ _=>List.prefix_refl _,fun p hp=>by cases hp⟩
 | n+1,s',os,hn,hM,hh=>by
   obtain ⟨s1,o1,o2,h1,h2,rfl⟩:=hh;obtain ⟨L1,g1,pr1,r1⟩:=GInv.moves G W h hv hm K (n:=n) zz1 zz1 h1;have ok:=(MovesTo.ok G hm K (n:=n) zz1 zz1 h1).1;rcases h2 with ⟨h0,hr⟩ | ⟨_,rfl,rfl⟩
   · have htn:(ms n).toNat<np D v:=by
      rcases hm n zz1 with e | ⟨k2,h3,e,_⟩
      · exact zz1
      · exact zz1
     obtain ⟨L2,g2,pr2,r2⟩:=g1.move G W (v:=v) (s':=s') hv (by rw [k04];exact ok.q) (i:=n) (tt:=(ms n).toNat) zz1 htn (os:=o2) (by rw [k04];exact hr);rw [k5C] at g2;refine ⟨L2,g2,fun a k=>(pr1 a k).trans (pr2 a k),fun p hp=>?_⟩;rcases List.mem_append.1 hp with hp | hp
     · exact ⟨(r1 p hp).1,(r1 p hp).2.mono pr2⟩
     · exact r2 p hp
   · exact ⟨L1,g1,pr1,fun p hp=>r1 p (by simpa using hp)⟩
theorem GInv.tick (G:Good D) (W:Ways D P) (h:GInv D P S nd L) (hv:v<D.nodes) {M:Int} {C:Nat} (K:NodeOk D v M C (nd v)) (hM:M+6<=1000000) {os:List OutP} (t:TickRel D v (nd v) s' os) :
 ∃ L',GInv D P S (upd nd v s') L'/\(∀ a k,L a k <+: L' a k)/\(∀ p∈os,p.1∈D.bs v/\RowOk D L' (v,p.1) p.2)/\NodeOk D v (M+6) (C+6) s':=by
 obtain ⟨s1,ms,s2,o2,hf,hm,_,hmv,rfl,rfl⟩:=t;have hnp:=k2k G hv;have g1:=h.fed G W (v:=v) (Nat.le_refl _) hf;have k1:=hf.ok G K;obtain ⟨L2,g2,pr2,r2⟩:=g1.moves G W hv hm (M:=M) (C:=C) (by rw [k04];exact k1) (n:=np D v) (s':=s2) (os:=o2) (Nat.le_refl _) zz1 (by rw [k04];exact hmv);rw [k5C] at g2;have k2:=(MovesTo.ok G hm k1 (n:=np D v) (Nat.le_refl _) zz1 hmv).1;have g3:=g2.quiet (v:=v) (s':={ s2 with ticks:=s2.ticks+1 }) (by rw [k04];exact fun _ _=>rfl) (by rw [k04];exact fun _ _=>rfl) (by rw [k04]) (by rw [k04]);rw [k5C] at g3;refine ⟨L2,g3,pr2,fun p hp=>?_,(k2.mono zz1 zz1).tick _⟩;rcases List.mem_append.1 hp with hp | hp
 · exact r2 p hp
 · split at hp
   · obtain ⟨i,hi,hp⟩:=List.mem_flatMap.1 hp
     have hi:=List.mem_range.1 hi;split at hp
     · cases hp
     · obtain ⟨k,hk,hp⟩:=List.mem_flatMap.1 hp
       have hk:=List.mem_range.1 hk;have hl:=G.l1;obtain ⟨p1,p2⟩:=k3B (D:=D) (v:=v) (i:=i) zz1 hi;have hhop:(v,k0E D v i)∈D.hops:=k0s.2 ⟨hv,p2⟩;simp only [List.mem_cons,List.not_mem_nil,or_false] at hp;rcases hp with rfl | rfl
       · refine ⟨p2,?_⟩
         have hsn:=g2.snd _ hhop k hk;have e:(s2.snd i k).1=D.start+(L2 (v,k0E D v i) k).length:=by
          rw [<- hsn];show _=((upd nd v s2 v).snd (k07 D v (k0E D v i)) k).1;rw [k04,p1]
         obtain ⟨f1,f2⟩:=k1J (.inr rfl) (show k<3 by omega) (s2.snd i k).1;exact RowOk.of_fr f1 f2 (.inr (.inr ⟨k,_,hk,Nat.le_refl _,by rw [e]⟩))
       · refine ⟨p2,?_⟩
         obtain ⟨f1,f2⟩:=k1J (.inl rfl) (show k<3 by omega) ((s2.rcv i k).1+(D.room-(s2.rcv i k).2));exact RowOk.of_fr f1 f2 (.inl rfl)
   · cases hp
end
end Go.Proofs.YtdopmlopafgonaaGreatDoor.Own
namespace Go.Proofs.YtdopmlopafgonaaGreatDoor.Own
section
variable {D:PlanD} {P:Nat->Nat->List Nat} {S:List Pk} {nd:Nat->NSt} {L:Lg} {v:Nat} {s':NSt}
theorem k2t {v u w:Nat} (hu:u∈D.bs v) (e:k07 D v w=k07 D v u):w=u:=by
 have hl:(D.bs v).idxOf u<(D.bs v).length:=List.idxOf_lt_length_of_mem hu;have e2:(D.bs v).idxOf w=(D.bs v).idxOf u:=by unfold k07 at e;omega
 have hw:w∈D.bs v:=List.idxOf_lt_length_iff.1 (by rw [e2];exact hl);have h1:=k1v hu;have h2:=k1v hw;rw [e] at h2;rw [<- h1,<- h2]
theorem GInv.come (W:Ways D P) (h:GInv D P S nd L) {a:Nat × Nat} (ha:a∈D.hops) {k m:Nat} (hk:k<D.lanes) (hm:rcvN D nd a k<=m) (hl:m<=(L a k).length) {q':Way->List Pk} {hh:Int}
 (hq:q'=(nd a.2).q\/∃ x,x∈((L a k).drop (rcvN D nd a k)).take (m-rcvN D nd a k)/\q'=updw (nd a.2).q (k07 D a.2 a.1,tw D a.2 x.dst.toNat,k) ((nd a.2).q (k07 D a.2 a.1,tw D a.2 x.dst.toNat,k)++[x])) :
 GInv D P S (upd nd a.2 { nd a.2 with rcv:=upd2 (nd a.2).rcv (k07 D a.2 a.1) k ((D.start:Int)+m,hh),q:=q' }) L:=by
 obtain ⟨s',hs'⟩:∃ s':NSt,s' = { nd a.2 with rcv:=upd2 (nd a.2).rcv (k07 D a.2 a.1) k ((D.start:Int)+m,hh),q:=q' }:=⟨_,rfl⟩;have sw:s'.waits=(nd a.2).waits:=by rw [hs']
 have sq:s'.q=q':=by rw [hs']
 have ss:s'.snd=(nd a.2).snd:=by rw [hs']
 have sr:s'.rcv=upd2 (nd a.2).rcv (k07 D a.2 a.1) k ((D.start:Int)+m,hh):=by rw [hs']
 rw [<- hs'];have hab:=k2U (k0s.1 ha).2 (k0s.1 ha).1;have hne:∀ (b:Nat × Nat) (j:Nat),¬ (b=a/\j=k)->((upd nd a.2 s' b.2).rcv (k07 D b.2 b.1) j).1=((nd b.2).rcv (k07 D b.2 b.1) j).1:=fun b j hbj=>by
  by_cases e:b.2=a.2
  · rw [e,k04,sr,k0h]
    rintro ⟨e3,rfl⟩;exact hbj ⟨Prod.ext (k2t hab e3) e,rfl⟩
  · exact zz16
 have hne2:∀ (b:Nat × Nat) (j:Nat),¬ (b=a/\j=k)->rcvN D (upd nd a.2 s') b j=rcvN D nd b j:=fun b j hbj=>by
  unfold rcvN;rw [hne b j hbj]
 have hsame:((upd nd a.2 s' a.2).rcv (k07 D a.2 a.1) k).1=D.start+(m:Int):=by
  rw [k04,sr,k0m]
 have hsame2:rcvN D (upd nd a.2 s') a k=m:=by
  unfold rcvN;rw [hsame];exact zz1
 refine ⟨h.p.op W (p:=.fly a.1 a.2 k) (pre:=((L a k).drop (rcvN D nd a k)).take (m-rcvN D nd a k)) (rest:=(L a k).drop m) ⟨?_,?_,?_⟩,fun b hb j hj=>?_,fun b hb j hj=>?_,h.pk⟩
 · show (L a k).drop (rcvN D nd a k)=_
   rw [show (L a k).drop m=((L a k).drop (rcvN D nd a k)).drop (m-rcvN D nd a k) by rw [List.drop_drop];congr 1;omega];exact (List.take_append_drop _ _).symm
 · show (L a k).drop (rcvN D _ a k)=_
   rw [hsame2]
 · have wq:∀ u j,(upd nd a.2 s' u).waits j=(nd u).waits j:=fun u j=>by
    by_cases e:u=a.2
    · subst e;rw [k04,sw]
    · exact zz16
   have flq:∀ r,r≠Pl.fly a.1 a.2 k->∀ x y j,r = .fly x y j->(L (x,y) j).drop (rcvN D (upd nd a.2 s') (x,y) j)=(L (x,y) j).drop (rcvN D nd (x,y) j):=fun r hr x y j e=>by
    rw [hne2];rintro ⟨e2,e3⟩;exact hr (by rw [e,<- e2,e3])
   rcases hq with e | ⟨x,hx,e⟩
   · left
     refine fun r hr=>k2j (fun u _=>wq u 3) (fun u i j m e2=>?_) (flq r hr) (fun u m _ _=>wq u m)
     by_cases e3:u=a.2
     · subst e3;rw [k04,sq,e]
     · rw [k06 _ _ e3]
   · right
     refine ⟨x,hx,zz17,?_,fun r hr hr2=>k2j (fun u _=>wq u 3) (fun u i j m e2=>?_) (flq r hr) (fun u m _ _=>wq u m)⟩
     · show (upd nd a.2 s' a.2).q (k07 D a.2 a.1,tw D a.2 x.dst.toNat,k)=(nd a.2).q (k07 D a.2 a.1,tw D a.2 x.dst.toNat,k)++[x]
       rw [k04,sq,e,k0n]
     · by_cases e3:u=a.2
       · subst e3;rw [k04,sq,e]
         refine k0i _ _ (fun e4=>hr2 ?_);rw [e2];simp only [Prod.mk.injEq] at e4;obtain ⟨rfl,rfl,rfl⟩:=e4;rfl
       · rw [k06 _ _ e3]
 · rw [<- h.snd b hb j hj]
   by_cases e:b.1=a.2
   · rw [e,k04,ss]
   · exact zz16
 · by_cases e:b=a/\j=k
   · obtain ⟨rfl,rfl⟩:=e
     exact ⟨m,hl,hsame⟩
   · rw [hne b j e]
     exact h.rcv b hb j hj
theorem GInv.take (G:Good D) (W:Ways D P) (h:GInv D P S nd L) {M:Int} {C:Nat} (K:∀ v,v<D.nodes->NodeOk D v M C (nd v)) (hM:M<=D.start+30000) {a:Nat × Nat} (ha:a∈D.hops) {r:List Int} (hr:RowOk D L a r) (t:TakeRel D a.2 (k07 D a.2 a.1) (nd a.2) r s') :
 GInv D P S (upd nd a.2 s') L/\NodeOk D a.2 M C s':=by
 have hy:a.2<D.nodes:=(k0M ha).2;have hx:a.1<D.nodes:=(k0M ha).1;have hab:=k2U (k0s.1 ha).2 (k0s.1 ha).1;have hp1:1<=k07 D a.2 a.1:=by unfold k07;omega
 have hpn:=k0O hab;have hq1:1<=k07 D a.1 a.2:=by unfold k07;omega
 have hqn:=k0O (k0s.1 ha).2;have ky:=K _ hy;have hs1:=G.s1;have hrm:=G.r1;have hlen:∀ k,k<D.lanes->((L a k).length:Int)<=30000:=fun k hk=>by
  have h1:=h.snd a ha k hk;have h2:=((K _ hx).lt _ k hq1 hqn hk).1;exact zz1
 have same:GInv D P S (upd nd a.2 (nd a.2)) L/\NodeOk D a.2 M C (nd a.2):=⟨by rw [k1t];exact h,ky⟩;unfold TakeRel at t;rcases hr.dec with e | ⟨F,e,hw,hs,hf⟩
 · rw [e] at t
   obtain rfl:s'=nd a.2:=t;exact same
 · rw [e] at t
   have hl:=hw.2.1;rcases t with ⟨_,rfl⟩ | ⟨hFl,t⟩
   · exact same
   · obtain ⟨k,hk⟩:∃ k:Nat,F.l=k:=⟨F.l.toNat,zz1⟩
     have hkl:k<D.lanes:=by omega
     rw [hk,Int.toNat_natCast] at t;have n0:=ky.num.r0 _ k hp1 hpn hkl;have n1:=ky.num.r1 _ k hp1 hpn hkl;have n2:=ky.num.r2 _ k hp1 hpn hkl;have n3:=ky.num.r3 _ k hp1 hpn hkl;obtain ⟨hj,hrv⟩:=h.rcvn ha hkl;rcases t with ⟨_,rfl⟩ | ⟨hk3,rfl⟩ | ⟨hk1,t⟩
     ·
      refine ⟨h.quiet (fun i j=>?_) (fun _ _=>rfl) rfl rfl,?_⟩
      · show (upd2 (α:=Int × Int) _ _ _ _ _ _).1=_
        by_cases e2:i=k07 D a.2 a.1/\j=k
        · obtain ⟨rfl,rfl⟩:=e2;rw [k0m]
        · rw [k0h _ _ _ _ e2]
      · have key:∀ i j,1<=i->i<np D a.2->j<D.lanes->(upd2 (nd a.2).snd (k07 D a.2 a.1) k (((nd a.2).snd (k07 D a.2 a.1) k).1,k4E ((nd a.2).snd (k07 D a.2 a.1) k).1 ((nd a.2).snd (k07 D a.2 a.1) k).2 F.s) i j).1=((nd a.2).snd i j).1/\((nd a.2).snd i j).1<=(upd2 (nd a.2).snd (k07 D a.2 a.1) k (((nd a.2).snd (k07 D a.2 a.1) k).1,k4E ((nd a.2).snd (k07 D a.2 a.1) k).1 ((nd a.2).snd (k07 D a.2 a.1) k).2 F.s) i j).2/\(upd2 (nd a.2).snd (k07 D a.2 a.1) k (((nd a.2).snd (k07 D a.2 a.1) k).1,k4E ((nd a.2).snd (k07 D a.2 a.1) k).1 ((nd a.2).snd (k07 D a.2 a.1) k).2 F.s) i j).2<=((nd a.2).snd i j).1+8:=fun i j h1 h2 h3=>by
         have a1:=ky.num.s1 i j h1 h2 h3;have a2:=ky.num.s2 i j h1 h2 h3;by_cases e2:i=k07 D a.2 a.1/\j=k
         · obtain ⟨rfl,rfl⟩:=e2
           rw [k0m];refine ⟨rfl,?_,?_⟩ <;> dsimp only <;> unfold k4E <;> split <;> omega
         · rw [k0h _ _ _ _ e2];exact ⟨rfl,a1,a2⟩
        refine ⟨⟨fun i j h1 h2 h3=>?_,fun i j h1 h2 h3=>?_,fun i j h1 h2 h3=>?_,fun i j h1 h2 h3=>?_,ky.num.r0,ky.num.r1,ky.num.r2,ky.num.r3⟩,fun i j h1 h2 h3=>⟨?_,(ky.lt i j h1 h2 h3).2⟩,ky.q,ky.w,ky.came,ky.wl⟩
        · show 0<=(upd2 (α:=Int × Int) _ _ _ _ _ _).1
          rw [(key i j h1 h2 h3).1];exact ky.num.s0 i j h1 h2 h3
        · show (upd2 (α:=Int × Int) _ _ _ _ _ _).1<=(upd2 (α:=Int × Int) _ _ _ _ _ _).2
          rw [(key i j h1 h2 h3).1];exact (key i j h1 h2 h3).2.1
        · show (upd2 (α:=Int × Int) _ _ _ _ _ _).2<=(upd2 (α:=Int × Int) _ _ _ _ _ _).1+8
          rw [(key i j h1 h2 h3).1];exact (key i j h1 h2 h3).2.2
        · show (upd2 (α:=Int × Int) _ _ _ _ _ _).1<=_
          rw [(key i j h1 h2 h3).1];exact ky.num.s3 i j h1 h2 h3
        · show (upd2 (α:=Int × Int) _ _ _ _ _ _).1<=_
          rw [(key i j h1 h2 h3).1];exact (ky.lt i j h1 h2 h3).1
     ·
      rcases hf with hf | ⟨k2,i,x,_,_,hf⟩ | ⟨k2,n,hk2,hn,hf⟩
      · rw [hf] at hk3;omega
      · rw [hf] at hk3;exact absurd hk3 (by show ¬ (1:Int)=3;omega)
      · have e1:(k2:Int)=(k:Int):=by rw [<- hk,hf];rfl
        obtain rfl:k2=k:=by omega
        have e2:F.s=((D.start:Int)+n) % 65536:=by rw [hf];rfl
        have hlk:=hlen _ hkl;have hwd:k0q ((nd a.2).rcv (k07 D a.2 a.1) k2).1 F.s=(D.start:Int)+n:=by
         rw [e2];exact k2q n0 zz1 zz1 zz1 zz1
        unfold k43;rw [hwd];by_cases hc:(D.start:Int)+n<=((nd a.2).rcv (k07 D a.2 a.1) k2).1\/((nd a.2).rcv (k07 D a.2 a.1) k2).1+(D.room-((nd a.2).rcv (k07 D a.2 a.1) k2).2)<(D.start:Int)+n
        · rw [if_pos hc]
          have e3:upd2 (nd a.2).rcv (k07 D a.2 a.1) k2 (((nd a.2).rcv (k07 D a.2 a.1) k2).1,((nd a.2).rcv (k07 D a.2 a.1) k2).2)=(nd a.2).rcv:=by
           funext i j;by_cases e4:i=k07 D a.2 a.1/\j=k2
           · obtain ⟨rfl,rfl⟩:=e4;rw [k0m]
           · rw [k0h _ _ _ _ e4]
          rw [e3];exact same
        · rw [if_neg hc]
          refine ⟨h.come W ha hkl zz1 hn (.inl rfl),?_⟩;refine ⟨⟨ky.num.s0,ky.num.s1,ky.num.s2,ky.num.s3,fun i j h1 h2 h3=>?_,fun i j h1 h2 h3=>?_,fun i j h1 h2 h3=>?_,fun i j h1 h2 h3=>?_⟩,fun i j h1 h2 h3=>⟨(ky.lt i j h1 h2 h3).1,?_⟩,ky.q,ky.w,ky.came,ky.wl⟩
          · show 0<=(upd2 (α:=Int × Int) _ _ _ _ _ _).1
            by_cases e4:i=k07 D a.2 a.1/\j=k2
            · obtain ⟨rfl,rfl⟩:=e4;rw [k0m];show (0:Int)<=D.start+n;omega
            · rw [k0h _ _ _ _ e4];exact ky.num.r0 i j h1 h2 h3
          · show (upd2 (α:=Int × Int) _ _ _ _ _ _).1<=_
            by_cases e4:i=k07 D a.2 a.1/\j=k2
            · obtain ⟨rfl,rfl⟩:=e4;rw [k0m];show (D.start:Int)+n<=_;omega
            · rw [k0h _ _ _ _ e4];exact ky.num.r1 i j h1 h2 h3
          · show 0<=(upd2 (α:=Int × Int) _ _ _ _ _ _).2
            by_cases e4:i=k07 D a.2 a.1/\j=k2
            · obtain ⟨rfl,rfl⟩:=e4;rw [k0m];exact n2
            · rw [k0h _ _ _ _ e4];exact ky.num.r2 i j h1 h2 h3
          · show (upd2 (α:=Int × Int) _ _ _ _ _ _).2<=_
            by_cases e4:i=k07 D a.2 a.1/\j=k2
            · obtain ⟨rfl,rfl⟩:=e4;rw [k0m];exact n3
            · rw [k0h _ _ _ _ e4];exact ky.num.r3 i j h1 h2 h3
          · show (upd2 (α:=Int × Int) _ _ _ _ _ _).1<=_
            by_cases e4:i=k07 D a.2 a.1/\j=k2
            · obtain ⟨rfl,rfl⟩:=e4
              rw [k0m];have h5:=h.snd a ha _ hkl;have h6:=((K _ hx).lt _ _ hq1 hqn hkl).1;show (D.start:Int)+n<=M;exact zz1
            · rw [k0h _ _ _ _ e4];exact (ky.lt i j h1 h2 h3).2
     ·
      rcases hf with hf | ⟨k2,i,x,hk2,hi,hf⟩ | ⟨k2,n,hk2,hn,hf⟩
      · rw [hf] at hk1;omega
      · have e1:(k2:Int)=(k:Int):=by rw [<- hk,hf];rfl
        obtain rfl:k2=k:=by omega
        have e2:F.s=((D.start:Int)+i) % 65536:=by rw [hf];rfl
        have hlk:=hlen _ hkl;have hil:=(List.getElem?_eq_some_iff.1 hi).1;have hwd:k0q ((nd a.2).rcv (k07 D a.2 a.1) k2).1 F.s=(D.start:Int)+i:=by
         rw [e2];exact k2q n0 zz1 zz1 zz1 zz1
        unfold DataRel at t;rw [hk,Int.toNat_natCast,hwd] at t;rcases t with ⟨_,rfl⟩ | ⟨_,t⟩
        · exact same
        rcases t with ⟨_,rfl⟩ | ⟨⟨t1,t2⟩,q',rfl,hq⟩
        · exact same
        have hpk:=h.pk a ha _ hkl x (List.mem_of_getElem? hi);have hxF:pkOf F=x:=by
         obtain ⟨s,d,h1,h2,_,_,_,h3,_⟩:=hpk;rw [hf];show Pk.mk x.src x.dst (k2:Int) x.body=x;rw [<- h3]
        have hdst:F.b=x.dst:=by rw [hf];rfl
        rw [hxF,hdst] at hq;have e5:(D.start:Int)+i+1=D.start+((i+1:Nat):Int):=by push_cast;omega
        rw [e5];have hmem:x∈((L a k2).drop (rcvN D nd a k2)).take (i+1-rcvN D nd a k2):=by
         rw [List.mem_iff_getElem?];refine ⟨i-rcvN D nd a k2,?_⟩;rw [List.getElem?_take,if_pos zz1,List.getElem?_drop,show rcvN D nd a k2+(i-rcvN D nd a k2)=i by omega];exact hi
        refine ⟨h.come W ha hkl zz1 zz1 ?_,?_⟩
        · rcases hq with hq | ⟨hq,_⟩
          · exact .inr ⟨x,hmem,hq⟩
          · exact .inl hq
        · refine ⟨⟨ky.num.s0,ky.num.s1,ky.num.s2,ky.num.s3,fun i2 j h1 h2 h3=>?_,fun i2 j h1 h2 h3=>?_,fun i2 j h1 h2 h3=>?_,fun i2 j h1 h2 h3=>?_⟩,fun i2 j h1 h2 h3=>⟨(ky.lt i2 j h1 h2 h3).1,?_⟩,?_,ky.w,ky.came,ky.wl⟩
          · show 0<=(upd2 (α:=Int × Int) _ _ _ _ _ _).1
            by_cases e4:i2=k07 D a.2 a.1/\j=k2
            · obtain ⟨rfl,rfl⟩:=e4;rw [k0m];show (0:Int)<=D.start+((i+1:Nat):Int);omega
            · rw [k0h _ _ _ _ e4];exact ky.num.r0 i2 j h1 h2 h3
          · show (upd2 (α:=Int × Int) _ _ _ _ _ _).1<=_
            by_cases e4:i2=k07 D a.2 a.1/\j=k2
            · obtain ⟨rfl,rfl⟩:=e4;rw [k0m];show (D.start:Int)+((i+1:Nat):Int)<=_;omega
            · rw [k0h _ _ _ _ e4];exact ky.num.r1 i2 j h1 h2 h3
          · show 0<=(upd2 (α:=Int × Int) _ _ _ _ _ _).2
            by_cases e4:i2=k07 D a.2 a.1/\j=k2
            · obtain ⟨rfl,rfl⟩:=e4;rw [k0m];dsimp only;omega
            · rw [k0h _ _ _ _ e4];exact ky.num.r2 i2 j h1 h2 h3
          · show (upd2 (α:=Int × Int) _ _ _ _ _ _).2<=_
            by_cases e4:i2=k07 D a.2 a.1/\j=k2
            · obtain ⟨rfl,rfl⟩:=e4;rw [k0m];dsimp only;omega
            · rw [k0h _ _ _ _ e4];exact ky.num.r3 i2 j h1 h2 h3
          · show (upd2 (α:=Int × Int) _ _ _ _ _ _).1<=_
            by_cases e4:i2=k07 D a.2 a.1/\j=k2
            · obtain ⟨rfl,rfl⟩:=e4
              rw [k0m];have h5:=h.snd a ha _ hkl;have h6:=((K _ hx).lt _ _ hq1 hqn hkl).1;show (D.start:Int)+((i+1:Nat):Int)<=M;exact zz1
            · rw [k0h _ _ _ _ e4];exact (ky.lt i2 j h1 h2 h3).2
          · show QOk D a.2 { nd a.2 with rcv:=_,q:=q' }
            rcases hq with rfl | ⟨rfl,_⟩
            · exact QOk.push ky.q hpk
            · exact ky.q
      · rw [hf] at hk1;exact absurd hk1 (by show ¬ (3:Int)=1;omega)
end
end Go.Proofs.YtdopmlopafgonaaGreatDoor.Own
