/- TopOrder: of each flow what came is some of what was injected, in its order (a part of the walks and of the plain laws). -/
import Derived.Test.YtdopmlopafgonaaGreatDoorD0
import Derived.Test.YtdopmlopafgonaaGreatDoorD38
import Derived.Test.YtdopmlopafgonaaGreatDoorD42
import Derived.Test.YtdopmlopafgonaaGreatDoorD45
set_option linter.unusedVariables false
set_option linter.unusedSimpArgs false
set_option maxHeartbeats 4000000
set_option maxRecDepth 100000
namespace Go.Proofs.YtdopmlopafgonaaGreatDoor.Own
open Go.RowKit Go.Proofs.YtdopmlopafgonaaGreatDoorW.PrintWords Go.Proofs.YtdopmlopafgonaaGreatDoorW.PrintLast Go.Proofs.YtdopmlopafgonaaGreatDoorW.PrintMore
open Go.Proofs.YtdopmlopafgonaaGreatDoor.PTopQuick
theorem k49{α : Type}{d:Kd α}{e base:Nat}{ok:Nat->Prop}{w:World}{v:Value}{xs:List α}(h:d.R e w base ok v xs):∃inner g ok',Row w v e d.sz xs.length inner g/\(∀b,g=some b->base<=b)/\Reps (d.M w base ok') d.sz xs inner:=by
 obtain⟨_,inner,⟨hl,ho⟩,hr⟩:=h;rcases ho with⟨hv,hn⟩|⟨g,cap,cur,hv,hg,hh,hc,_,hs,ht⟩
 ·exact⟨inner,none,_,⟨hl,.inl ⟨hv,hn,rfl⟩⟩,zz6,hr⟩
 ·refine⟨inner,some g,_,⟨hl,.inr ⟨g,0,cap,cur,rfl,hv,hh,hc,zz1,fun j hj=>?_⟩⟩,fun b e=>by cases e;exact hg,hr⟩
  rw[Nat.zero_add,<- ht,List.getElem?_take,if_pos (by rw[<- hl];exact hj)];exact zz6
theorem k6O{inner:List Value}{l:List Nat}{w:World}{base:Nat}{ok:Nat->Prop}(h:Reps ((Kd.int .i64).M w base ok) (Kd.int .i64).sz (ints l) inner):inner=i64s l:=by
 obtain⟨h1,h2⟩:=h;have hs:(Kd.int .i64).sz=1:=rfl;rw[hs,Nat.mul_one]at h1;have hl:(ints l).length=l.length:=by simp[ints]
 refine List.ext_getElem? fun j=>?_
 by_cases hj:j<l.length
 ·have h3:=h2 j (l[j]:Int) (by unfold ints;rw[List.getElem?_map,List.getElem?_eq_getElem hj];rfl)
  have h4:(inner.drop (j*1)).take 1=[Value.int .i64 (l[j]:Nat)]:=h3;rw[Nat.mul_one]at h4;have h5:((inner.drop j).take 1)[0]? = some (Value.int .i64 (l[j]:Nat)):=by rw[h4];rfl
  rw[List.getElem?_take,if_pos zz1,List.getElem?_drop,Nat.add_zero]at h5;rw[h5];simp[i64s,hj]
 ·rw[List.getElem?_eq_none zz1,List.getElem?_eq_none zz55]
theorem k8y{inner:List Value}{E:List S131}{l:List (Nat×Nat)}{w:World}{base:Nat}{ok:Nat->Prop}(h:Reps (k131.M w base ok) k131.sz E inner)(he:k2u E=l.map fun p=>((p.1:Int),(p.2:Int))):inner=k0d l:=by
 obtain⟨h1,h2⟩:=h;have hs:k131.sz=2:=rfl;rw[hs]at h1;have hl:E.length=l.length:=by have:=congrArg List.length he;simpa[k2u] using this
 have he2:=k18 l;have key:∀j,j<l.length->inner[j*2]? = (k0d l)[j*2]? /\ inner[j*2+1]? = (k0d l)[j*2+1]?:=fun j hj=>by
  have hE:E[j]? = some E[j]:=List.getElem?_eq_getElem zz1;have h3:=k8K (h2 j _ hE);have h6:(k2u E)[j]? = (l.map fun p=>((p.1:Int),(p.2:Int)))[j]?:=by rw[he]
  unfold k2u at h6;rw[List.getElem?_map,hE,List.getElem?_map,List.getElem?_eq_getElem hj]at h6;simp only[Option.map_some,Option.some.injEq,Prod.mk.injEq]at h6;obtain⟨g0,g1⟩:=k0M l j l[j] (List.getElem?_eq_getElem hj);have h7:((inner.drop (j*2)).take 2)[0]? = some (.int .i64 E[j].f0):=by
   have:(inner.drop (j*2)).take 2=[.int .i64 E[j].f0,.int .i64 E[j].f1]:=h3;rw[this];rfl
  have h8:((inner.drop (j*2)).take 2)[1]? = some (.int .i64 E[j].f1):=by
   have:(inner.drop (j*2)).take 2=[.int .i64 E[j].f0,.int .i64 E[j].f1]:=h3;rw[this];rfl
  rw[List.getElem?_take,if_pos zz1,List.getElem?_drop]at h7 h8;rw[g0,g1,<- h6.1,<- h6.2];exact⟨h7,h8⟩
 refine List.ext_getElem? fun i=>?_
 by_cases hi:i<l.length*2
 ·rcases Nat.mod_two_eq_zero_or_one i with e|e
  ·have:=(key (i / 2) zz1).1
   rwa [show i / 2*2=i by omega]at this
  ·have:=(key (i / 2) zz1).2
   rwa [show i / 2*2+1=i by omega]at this
 ·rw[List.getElem?_eq_none zz1,List.getElem?_eq_none zz1]
theorem kaW{w:World}{A:Option Addr}{n c:Nat}{ws:List Nat}{g:Option Nat}(h:Row w (.slice A n c) 3 1 n (i64s ws) g)(hn:ws.length=n)(hb:n<=1000):Kd.C (Kd.int .i64) w A n (ints ws):=by
 refine⟨by simp[ints,hn],zz1,fun h0=>?_⟩;obtain⟨b,off,cap,_,hA,_,_,hc⟩:=h.open h0;simp only[Value.slice.injEq]at hA;obtain⟨rfl,-,rfl⟩:=hA;refine⟨_,rfl,fun j p hp=>⟨[.int .i64 p],rfl,rfl,fun i u hu=>?_⟩⟩;obtain⟨rfl,rfl⟩:i=0/\u=.int .i64 p:=by
  cases i with
  |zero=>simp at hu;exact⟨rfl,hu.symm⟩
  |succ i=>simp at hu
 have hj:=(List.getElem?_eq_some_iff.1 hp).1;have hs:(Kd.int .i64).sz=1:=rfl;have hl:j<ws.length:=by simpa[ints] using hj
 have:=hc j zz55;rw[hs];rw[Addr.add_lit];show w.cell? ⟨b,off+(j*1+0),none⟩=_;rw[show off+(j*1+0)=off+j by omega,this];unfold ints at hp;rw[List.getElem?_map,List.getElem?_eq_getElem hl]at hp;simp only[Option.map_some,Option.some.injEq]at hp;simp[i64s,hl,<- hp]
def k1A(l:List Nat)(a1 a2 s:Nat):PlanD:=k8p (k0U l) (1+a2 % 3) (1+a1 % 8) (1+a1 / 8 % 8) (1+a2 / 3 % 4) (1+a2 / 12 % 8) s (wgts a2 (1+a2 % 3))
theorem k33(l:List Nat)(a1 a2 s:Nat)(h:s<65536):Good (k1A l a1 a2 s):=by
 refine k8u (k0U l) (k4o l).1 (k4o l).2 (k81 l) _ _ _ _ _ _ _ zz1 zz1 zz1 zz1 zz1 zz1 zz1 zz1 zz1 zz1 h (by simp[wgts]) (fun x hx=>?_);obtain⟨i,_,rfl⟩:=List.mem_map.1 hx;exact zz1
theorem kbj{w:World}{base:Nat}{l:List Nat}{a1 a2 s:Nat}{E:List S131}{v1 v8 v10:Value}{ok1 ok8 ok10:Nat->Prop}(hE:k2u E=(k0X (k0U l)).map fun p=>((p.1:Int),(p.2:Int)))
 (r1:Kd.R k131 131 w base ok1 v1 E) (r8:Kd.R (Kd.int .i64) 3 w base ok8 v8 (ints (wgts a2 (1+a2 % 3)))) (r10:Kd.R (Kd.slice 3 (Kd.int .i64)) 29 w base ok10 v10 ((k17 (k0U l)).map ints)) :
 ∃E1 k1 E2 k2 E3 k3,v1=.slice E1 (k0X (k0U l)).length k1/\v8=.slice E2 (1+a2 % 3:Nat) k2/\v10=.slice E3 (k17 (k0U l)).length k3/\PlanV w (fun b=>base<=b) (pagg (k1A l a1 a2 s) E1 k1 E2 k2 E3 k3) (k1A l a1 a2 s):=by
 obtain⟨i1,g1,_,R1,B1,Q1⟩:=k49 r1;obtain⟨i8,g8,_,R8,B8,Q8⟩:=k49 r8;obtain⟨i10,g10,ok',R10,B10,Q10⟩:=k49 r10;have e1:=k8y Q1 hE;have e8:=k6O Q8;subst e1 e8;have l1:E.length=(k0X (k0U l)).length:=by have:=congrArg List.length hE;simpa[k2u] using this
 have l8:(ints (wgts a2 (1+a2 % 3))).length=1+a2 % 3:=by simp[ints,wgts]
 have l10:((k17 (k0U l)).map ints).length=(k17 (k0U l)).length:=zz6
 rw[l1]at R1;rw[l8]at R8;rw[l10]at R10;obtain⟨E1,k1,rfl,_⟩:=R1.size;obtain⟨E2,k2,rfl,_⟩:=R8.size;obtain⟨E3,k3,rfl,_⟩:=R10.size;have hw:(wgts a2 (1+a2 % 3)).length=1+a2 % 3:=by simp[wgts]
 obtain⟨gs,hgs⟩:=kas (D:=k1A l a1 a2 s) (W:=w) (rs:=i10) (lo:=base) (fun i r hr=>by
  have hr':(k17 (k0U l))[i]? = some r:=hr;have h2:=Q10.2 i (ints r) (by rw[List.getElem?_map,hr'];rfl);obtain⟨v,hv,hR⟩:=h2;obtain⟨ir,gr,_,Rr,Br,Qr⟩:=k49 hR;have er:=k6O Qr;subst er;have hs:(Kd.slice 3 (Kd.int .i64)).sz=1:=rfl;rw[hs,Nat.mul_one]at hv;have h3:((i10.drop i).take 1)[0]? = some v:=by rw[hv];rfl
  rw[List.getElem?_take,if_pos zz1,List.getElem?_drop,Nat.add_zero]at h3;have hl:(ints r).length=r.length:=by simp[ints]
  rw[hl]at Rr;exact⟨v,h3,gr,Rr,Br⟩)
 refine⟨E1,k1,E2,k2,E3,k3,rfl,rfl,rfl,.slice E1 (k0X (k0U l)).length k1,.slice E2 (1+a2 % 3:Nat) k2,.slice E3 (k17 (k0U l)).length k3,i10,g1,g8,g10,gs,?_,R1,?_,R10,hgs,B1,B8,B10⟩
 ·show pagg _ _ _ _ _ _ _=_
  unfold pagg k1A k8p;simp only[hw]
 ·show Row w _ 3 1 (wgts a2 (1+a2 % 3)).length _ _
  rw[hw];exact R8
theorem k5e(A:Option Addr)(c:Nat)(l:List Nat)(hx:∀x∈l,x<256)(a1 a2 s:Nat)(w:World)(h1:a1<256)(h2:a2<256)(h3:s<65536)(hr:Kd.C (Kd.int .u8) w A (ints l).length (ints l))(hc:(ints l).length<=c) :
 Calls Tryz.prog 15 #[.slice A (ints l).length c,.int .u8 a1,.int .u8 a2,.int .u16 s] w fun e w'=>∃v,e=.returned v/\PlanV w' (fun b=>w.heap.size<=b) v (k1A l a1 a2 s)/\Below w.heap.size w w':=by
 have HR:=Ac (_/\_) (⟨hr,hc⟩);have HT:=Ac (_/\_/\_) (⟨k4o l,k81 l,kbY l hx⟩);have L1:=Ab ((Below.refl w.heap.size w).alloc (Nat.le_refl _) (.cells #[.int .i64 0,.slice none 0 0,.int .i64 0,.int .i64 0,.int .i64 0,.int .i64 0,.int .i64 0,.int .i64 0,.slice none 0 0,.int .u16 0,.slice none 0 0] 32));have Z1:=Ab (heap_alloc_new w (.cells #[.int .i64 0,.slice none 0 0,.int .i64 0,.int .i64 0,.int .i64 0,.int .i64 0,.int .i64 0,.int .i64 0,.slice none 0 0,.int .u16 0,.slice none 0 0] 32));clear hr hc hx;go_enter Tryz.func15,Tryz.ntmps15
 go_wp2_with fail
 go_at_call 41;refine(k8h a1 a2 s _ h1 h2 h3).mono ?_;rintro e w3 ⟨A1,n1,c1,A2,c2,A3,n3,c3,gw,rfl,rw3,hgw,hb⟩;have WW:=Ac (Kd.C (Kd.int .i64) w3 A2 (1+a2 % 3) (ints (wgts a2 (1+a2 % 3)))/\1+a2 % 3<=c2) (⟨kaW rw3 (by simp[wgts]) zz1,by obtain⟨A',c',e,h⟩:=rw3.size;simp only[Value.slice.injEq]at e;omega⟩);have WB:=Ac (Below w.heap.size w w3/\w3.heap[w.heap.size]? = some (Obj.cells _ 32 (0,0))) (⟨L1.1.trans (hb.mono L1.1.size),(hb.block _ zz6).trans Z1.1⟩);clear rw3 hgw hb
 go_wp2_with fail
 go_at_call 42;refine(rOf.calls 20 A c (ints l) (ints (k0U l)) _ (Kd.C_below HR.1.1 WB.1.1) HR.1.2 HT.1.2.2).mono ?_;rintro e w4 ⟨vT,rfl,hT,hb⟩;obtain⟨AT,cT,rfl,hcT,hrT⟩:=Kd.R_reads hT;have TL:=Ac (_/\_/\Below w.heap.size w w4/\w4.heap[w.heap.size]? = some (Obj.cells _ 32 (0,0))) (⟨hcT,hrT,WB.1.1.trans (hb.mono WB.1.1.size),(hb.block _ (k03 WB.1.2)).trans WB.1.2⟩);have WL:=Ac (_/\Kd.C (Kd.int .i64) w4 A2 (1+a2 % 3) (ints (wgts a2 (1+a2 % 3)))/\_) (⟨show(ints (wgts a2 (1+a2 % 3))).length=1+a2 % 3 by simp[ints,wgts],Kd.C_below WW.1.1 hb,WW.1.2⟩);clear hT hb hcT hrT
 go_wp2_with fail
 go_at_call 40;obtain⟨E,he,hE⟩:=kb4 (k0U l) HT.1.1.1 HT.1.1.2 HT.1.2.1 2 (List.replicate n1 z131) (1+(a2:Int) % 3) (1+(a1:Int) % 8) (1+(a1:Int) / 8 % 8) (1+(a2:Int) / 3 % 4) (1+(a2:Int) / 12 % 8) 64 (ints (wgts a2 (1+a2 % 3))) s (List.replicate n3 []) (by simp[ints,wgts];omega);have hl:=rLay.calls 100 2 A1 c1 (List.replicate n1 z131) (1+(a2:Int) % 3) (1+(a1:Int) % 8) (1+(a1:Int) / 8 % 8) (1+(a2:Int) / 3 % 4) (1+(a2:Int) / 12 % 8) 64 A2 c2 (ints (wgts a2 (1+a2 % 3))) s A3 c3 (List.replicate n3 []) AT cT (ints (k0U l)) _ _ _ _ _ _ _ _ _ _ _ _ w4 (by rw[WL.1.1];exact WL.1.2.1) (by rw[WL.1.1];exact WL.1.2.2) TL.1.2.1 TL.1.1 he;rw[List.length_replicate,List.length_replicate,WL.1.1]at hl;refine hl.mono ?_;rintro e w5 ⟨v1,v8,v10,rfl,r1,r8,r10,hb⟩;obtain⟨E1,k1,E2,k2,E3,k3,rfl,rfl,rfl,hp⟩:=kbj (a1:=a1) (s:=s) hE r1 r8 (Kd.S_R r10);have KP:=Ac (PlanV w5 (fun b=>w.heap.size<b) (pagg (k1A l a1 a2 s) E1 k1 E2 k2 E3 k3) (k1A l a1 a2 s)/\Below w.heap.size w w5) (⟨hp.mono (fun b h=>Nat.lt_of_lt_of_le (k03 TL.1.2.2.2) h),TL.1.2.2.1.trans (hb.mono TL.1.2.2.1.size)⟩);have ZR:=Ab ((hb.block _ (k03 TL.1.2.2.2)).trans TL.1.2.2.2);have z5:=fun i=>k00 ZR.1 i
 have f5:=fun i=>k02 ZR.1 i
 have hlt:=k03 ZR.1;clear r1 r8 r10 hb hE he hl hp;go_wp2;obtain⟨ZF,oF⟩:=kbL (W:=w5) ZR.1 rfl (.int .i64 (((k0U l).length:Int)+1)) (.slice E1 (k0X (k0U l)).length k1) (.int .i64 (1+(a2:Int) % 3)) (.int .i64 (1+(a1:Int) % 8)) (.int .i64 (1+(a1:Int) / 8 % 8)) (.int .i64 (1+(a2:Int) / 3 % 4)) (.int .i64 (1+(a2:Int) / 12 % 8)) (.int .i64 64) (.slice E2 (1+a2 % 3:Nat) k2) (.int .u16 s) (.slice E3 (k17 (k0U l)).length k3);obtain⟨wf,hwf⟩:∃wf,wf=k5k w5 w.heap.size (.int .i64 (((k0U l).length:Int)+1)) (.slice E1 (k0X (k0U l)).length k1) (.int .i64 (1+(a2:Int) % 3)) (.int .i64 (1+(a1:Int) % 8)) (.int .i64 (1+(a1:Int) / 8 % 8)) (.int .i64 (1+(a2:Int) / 3 % 4)) (.int .i64 (1+(a2:Int) / 12 % 8)) (.int .i64 64) (.slice E2 (1+a2 % 3:Nat) k2) (.int .u16 s) (.slice E3 (k17 (k0U l)).length k3):=⟨_,rfl⟩;rw[<- hwf]at ZF oF;show bodyPost _ _ _ _ _ ((k5k w5 w.heap.size (.int .i64 (((k0U l).length:Int)+1)) (.slice E1 (k0X (k0U l)).length k1) (.int .i64 (1+(a2:Int) % 3)) (.int .i64 (1+(a1:Int) % 8)) (.int .i64 (1+(a1:Int) / 8 % 8)) (.int .i64 (1+(a2:Int) / 3 % 4)) (.int .i64 (1+(a2:Int) / 12 % 8)) (.int .i64 64) (.slice E2 (1+a2 % 3:Nat) k2) (.int .u16 s) (.slice E3 (k17 (k0U l)).length k3)).alloc (.cells #[.int .i64 (((k0U l).length:Int)+1),.slice E1 (k0X (k0U l)).length k1,.int .i64 (1+(a2:Int) % 3),.int .i64 (1+(a1:Int) % 8),.int .i64 (1+(a1:Int) / 8 % 8),.int .i64 (1+(a2:Int) / 3 % 4),.int .i64 (1+(a2:Int) / 12 % 8),.int .i64 64,.slice E2 (1+a2 % 3:Nat) k2,.int .u16 s,.slice E3 (k17 (k0U l)).length k3] 32));rw[<- hwf];have BG:Below wf.heap.size wf (wf.alloc (.cells #[.int .i64 (((k0U l).length:Int)+1),.slice E1 (k0X (k0U l)).length k1,.int .i64 (1+(a2:Int) % 3),.int .i64 (1+(a1:Int) % 8),.int .i64 (1+(a1:Int) / 8 % 8),.int .i64 (1+(a2:Int) / 3 % 4),.int .i64 (1+(a2:Int) / 12 % 8),.int .i64 64,.slice E2 (1+a2 % 3:Nat) k2,.int .u16 s,.slice E3 (k17 (k0U l)).length k3] 32)):=(Below.refl _ wf).alloc (Nat.le_refl _) _;refine bodyPost_ret (results_cell_row rfl _ _ w.heap.size 32 _ (0,0) _ rfl ((BG.block _ (k03 ZF)).trans ZF) Tryz.underlying32 rfl zz2) rfl ?_;refine⟨pagg (k1A l a1 a2 s) E1 k1 E2 k2 E3 k3,?_,((KP.1.1.keep (fun b hb hb2=>oF.keep b hb zz1)).mono (fun b hb=>Nat.le_of_lt hb)).below BG,?_⟩
 ·unfold pagg k1A k8p
  simp[wgts]
 ·refine Below.trans ⟨oF.os.trans KP.1.2.os,oF.tape.trans KP.1.2.tape,oF.output.trans KP.1.2.output,Nat.le_trans KP.1.2.size oF.size,fun b hb=>(oF.keep b (Nat.lt_of_lt_of_le hb KP.1.2.size) zz1).trans (KP.1.2.block b hb)⟩ (BG.mono (Nat.le_trans KP.1.2.size oF.size))
end Go.Proofs.YtdopmlopafgonaaGreatDoor.Own
namespace Go.Proofs.YtdopmlopafgonaaGreatDoor.Own
open Go.RowKit Go.Proofs.YtdopmlopafgonaaGreatDoorW.PrintWords Go.Proofs.YtdopmlopafgonaaGreatDoorW.PrintLast Go.Proofs.YtdopmlopafgonaaGreatDoorW.PrintMore
theorem FabAt.recol{w:World}{o o':Nat->Col}{D:PlanD}{F:FTab}{st:FSt}(h:FabAt w o D F st)(k:k4I o o'):FabAt w o' D F st where
 og:=k _ _ zz6 h.og
 blk:=h.blk
 plan:=h.plan.mono fun b hb=>k _ _ zz6 hb
 hops:=h.hops
 oh:=k _ _ zz6 h.oh
 nodes:=h.nodes
 on:=k _ _ zz6 h.on
 map:=h.map
 om:=k _ _ zz6 h.om
 node:=fun v hv=>(h.node v hv).recol k
 link:=fun a ha=>(h.link a ha).recol k zz6
section
variable{w:World}{o:Nat->Col}
def Began(w:World)(o:Nat->Col)(D:PlanD)(e:Ending)(w':World):Prop:=∃Y:PTab,e=.returned (.pointer (some ⟨Y.g,0,none⟩))/\∃o' F,PlayAt w' o' D F Y (fst0 D) [] (.slice none 0 0) none 0/\NewB w.heap.size o w o' w'
theorem k7E(A:Option Addr)(c:Nat)(l:List Nat)(hx:∀x∈l,x<256)(a1 a2 s:Nat)(h1:a1<256)(h2:a2<256)(h3:s<65536)(hr:Kd.C (Kd.int .u8) w A (ints l).length (ints l))(hc:(ints l).length<=c)(hf:Fresh o w)(hT:Tab w)(h0:o 0=.fix) :
 Calls Tryz.prog 6 #[.slice A (ints l).length c,.int .u8 a1,.int .u8 a2,.int .u16 s] w (Began w o (k1A l a1 a2 s)):=by
 have G:=k33 l a1 a2 s h3;have HG:=Ac (_/\_/\_/\_) (⟨G,hf,hT,h0⟩);have cp:=k5e A c l hx a1 a2 s w h1 h2 h3 hr hc;obtain⟨D,hD⟩:∃D,D=k1A l a1 a2 s:=⟨_,rfl⟩;rw[<- hD]at cp HG ⊢;clear hD hr hc hf hT h0 G;go_enter Tryz.func6,Tryz.ntmps6
 go_wp2_with fail
 go_at_call 15;refine cp.mono ?_;rintro e wp ⟨vp,rfl,hp,hb⟩;obtain⟨A1,c1,A2,c2,A3,c3,rfl⟩:=hp.shape;have P1:=Ac (_/\Below w.heap.size w wp) (⟨hp,hb⟩);clear hp hb cp
 go_wp2_with fail
 go_at_call 14;obtain⟨w1,hw1⟩:∃w1,w1=wp.alloc (pbox D A1 c1 A2 c2 A3 c3):=⟨_,rfl⟩;have B1:=Ac (Below wp.heap.size wp w1) (by rw[hw1];exact(Below.refl _ wp).alloc (Nat.le_refl _) _);have Z1:=Ac (w1.heap[wp.heap.size]? = some (pbox D A1 c1 A2 c2 A3 c3)) (by rw[hw1];exact heap_alloc_new wp _);rw[<- hw1];clear hw1;have F1:=Ac (Fresh o w1) (HG.1.2.1.blw (P1.1.2.trans (B1.1.mono P1.1.2.size)));refine(k9B (o:=o) _ _ (P1.1.1.below B1.1) HG.1.1 F1.1).mono ?_;rintro e w3 ⟨F,o2,rfl,hF,hN⟩;have F3:=Ac (_/\_) (⟨hF,hN⟩);have Z3:=Ab ((F3.1.2.below.block _ (k03 Z1.1)).trans Z1.1);have z3:=fun j=>k00 Z3.1 j
 have hl3:=k03 Z3.1;clear hF hN;go_wp2;obtain⟨Y,hY⟩:∃Y:PTab,Y=⟨w3.heap.size,A1,c1,A2,c2,A3,c3⟩:=⟨_,rfl⟩;obtain⟨w4,hw4⟩:∃w4,w4=w3.alloc (k69 D F ⟨w3.heap.size,A1,c1,A2,c2,A3,c3⟩ (.slice none 0 0) 0):=⟨_,rfl⟩;have B4:Below w3.heap.size w3 w4:=by rw[hw4];exact(Below.refl _ w3).alloc (Nat.le_refl _) _
 have Z4:w4.heap[w3.heap.size]? = some (k69 D F Y (.slice none 0 0) 0):=by rw[hw4,hY];exact heap_alloc_new w3 _
 show bodyPost _ _ _ _ _ (w3.alloc (k69 D F ⟨w3.heap.size,A1,c1,A2,c2,A3,c3⟩ (.slice none 0 0) 0));rw[<- hw4];have hs4:w4.heap.size=w3.heap.size+1:=by rw[hw4];simp
 clear hw4;have s1:w.heap.size<=wp.heap.size:=P1.1.2.size;have s2:wp.heap.size<=w1.heap.size:=B1.1.size;have s3:w1.heap.size<=w3.heap.size:=F3.1.2.below.size;obtain⟨o',ho'⟩:∃o':Nat->Col,o'=fun b=>if w.heap.size<=b/\b<wp.heap.size then .fix else o2 b:=⟨_,rfl⟩
 have rc:k4I o2 o':=fun b c hc e=>by
  rw[ho'];show(if _ then Col.fix else o2 b)=c;rw[if_neg];exact e;rintro⟨e1,e2⟩;rw[F3.1.2.own b zz1,HG.1.2.1 b e1]at e;exact hc e.symm
 have fx:∀b,w.heap.size<=b->b<wp.heap.size->o' b=.fix:=fun b e1 e2=>by rw[ho'];exact if_pos ⟨e1,e2⟩
 have old:∀b,b<w.heap.size->o' b=o b:=fun b hb=>by
  rw[ho'];show(if _ then Col.fix else o2 b)=_;rw[if_neg zz1];exact F3.1.2.own b zz1
 have Fr:Fresh o' w4:=fun b hb=>by
  rw[ho'];show(if _ then Col.fix else o2 b)=_;rw[if_neg zz1];exact F3.1.2.fresh b zz1
 have FA:=(F3.1.1.blw F3.1.2.fresh B4).recol rc;have bw4:Below w.heap.size w w4:=P1.1.2.trans ((B1.1.trans ((F3.1.2.below.trans (B4.mono s3)).mono s2)).mono s1);have P4:=((P1.1.1.inside.below B1.1).below F3.1.2.below).below B4;have ht:=HG.1.2.2.1.lt;go_ret;refine⟨Y,by rw[hY];rfl,o',F,⟨?_,by rw[hY];exact Z4.trans (by rw[hY]),?_,Row.nil _ _ _,zz6,FA,Fr,HG.1.2.2.1.below bw4,by rw[old 0 ht];exact HG.1.2.2.2⟩,⟨bw4,old,Fr⟩⟩
 ·rw[hY,ho']
  show(if w.heap.size<=w3.heap.size/\w3.heap.size<wp.heap.size then Col.fix else o2 w3.heap.size)=_;rw[if_neg (show ¬(w.heap.size<=w3.heap.size/\w3.heap.size<wp.heap.size) by omega)];exact F3.1.2.fresh _ (Nat.le_refl _)
 ·rw[hY];exact P4.mono (fun b h=>fx b h.1 h.2)
end
section
variable{w:World}{o:Nat->Col}{D:PlanD}
theorem k5h(B:Nat->Prop)(x y:Nat)(A1:Option Addr)(c1:Nat)(A2:Option Addr)(c2:Nat)(A3:Option Addr)(c3:Nat)(hP:PlanV w B (pagg D A1 c1 A2 c2 A3 c3) D)(G:Good D)(hx:x<D.nodes)(hy:y∈D.bs x) :
 Calls Tryz.prog 77 #[pagg D A1 c1 A2 c2 A3 c3,.int .i64 x,.int .i64 y] w fun e w'=>e=.returned (.int .i64 (k08 D x y:Nat))/\Below w.heap.size w w':=by
 have L1:=Ab ((Below.refl w.heap.size w).alloc (Nat.le_refl _) (pbox D A1 c1 A2 c2 A3 c3));have HY:=Ac (_/\_) (⟨hy,G⟩);have cb:=k1r B _ D x _ (hP.below L1.1) G hx;have hb5:=G.bl x hx;obtain⟨q,hq⟩:∃q,q=(D.bs x).idxOf y:=⟨_,rfl⟩;have hq5:q<=5:=by have:=List.idxOf_lt_length_of_mem hy;omega
 have HQ:=Ab hq;clear hP G hy hq;go_enter Tryz.func77,Tryz.ntmps77
 go_wp2_with(first
  |(go_at_call 113;refine(kbC _ (D.bs x) y _ _ R2.1.1 zz1).mono ?_;rintro e w3 ⟨⟨r,rfl,hr⟩,rfl⟩;have er:=k2V (k48 D x) HY.1.1 hr;rw[<- HQ.1]at er;subst er;clear hr)
  |(go_at_call 63;refine cb.mono ?_;rintro e w2 ⟨pb,po,c,rfl,hr,_,hb⟩;have R2:=Ac (_/\Below w.heap.size w w2) (⟨hr,L1.1.trans (hb.mono L1.1.size)⟩);clear hr hb cb))
 go_ret;refine⟨?_,R2.1.2⟩;show Ending.returned (.int .i64 ((q:Int)+1))=_;unfold k08;rw[<- HQ.1];push_cast;rfl
end
section
variable{w:World}{o:Nat->Col}{v:Nat}{D:PlanD}{T:NTab}{st:NSt}
theorem k8m(H:NodeAt w o v D T st) :
 Calls Tryz.prog 74 #[.pointer (some ⟨T.g,0,none⟩)] w fun e w'=>e=.returned (.pointer (some ⟨T.rings,0,none⟩))/\w=w':=by
 have b0:=fun j=>k00 H.blk j
 clear H;go_enter Tryz.func74,Tryz.ntmps74;exact zz16
theorem k7q(i k:Nat)(H:NodeAt w o v D T st)(G:Good D)(hv:v<D.nodes)(hf:Fresh o w)(h1:1<=i)(hi:i<np D v)(hk:k<D.lanes) :
 Calls Tryz.prog 76 #[.pointer (some ⟨T.g,0,none⟩),.int .i64 i,.int .i64 k] w fun e w'=>e=.returned (.pointer (some ⟨T.snd i k,0,none⟩))/\Below w.heap.size w w':=by
 have ce:=k1Q i k H G hv hf h1 hi hk;clear H G hf;go_enter Tryz.func76,Tryz.ntmps76
 go_wp2_with(go_at_call 97;refine ce.mono ?_;rintro e w1 ⟨rfl,hb⟩;have L1:=Ab hb;clear hb ce)
 go_ret;exact⟨rfl,L1.1.alloc L1.1.size _⟩
theorem k6f(i k:Nat)(H:NodeAt w o v D T st)(G:Good D)(hv:v<D.nodes)(hf:Fresh o w)(h1:1<=i)(hi:i<np D v)(hk:k<D.lanes) :
 Calls Tryz.prog 78 #[.pointer (some ⟨T.g,0,none⟩),.int .i64 i,.int .i64 k] w fun e w'=>e=.returned (.pointer (some ⟨T.rcv i k,0,none⟩))/\Below w.heap.size w w':=by
 have ce:=k1Q i k H G hv hf h1 hi hk;clear H G hf;go_enter Tryz.func78,Tryz.ntmps78
 go_wp2_with(go_at_call 97;refine ce.mono ?_;rintro e w1 ⟨rfl,hb⟩;have L1:=Ab hb;clear hb ce)
 go_ret;exact⟨rfl,L1.1.alloc L1.1.size _⟩
end
theorem k8T(k:Nat)(a b:Int)(w:World) :
 Calls Tryz.prog 83 #[.slice none 0 0,.int .i64 k,.int .u64 a,.int .u64 b] w fun e w'=>e=.returned (.int .i64 0)/\Below w.heap.size w w':=by
 have hmm:=@run_makeMap Tryz.prog;go_enter Tryz.func83,Tryz.ntmps83;go_wp2
 go_loopw [18] (fun s18 wr=>s18=.int .i64 0/\wr=w.alloc (.map #[] 0)) (fun _ _=>0)
 case atStart=>exact⟨rfl,rfl⟩
 case round=>
  obtain⟨rfl,rfl⟩:=hrel;have hz:=heap_alloc_new w (.map #[] 0);have hu:Tryz.prog.underlying 205=some (.map (Tryz.prog.mapKeyOf 205) (Tryz.prog.mapElemOf 205)):=by kernel_rfl
  have hln:=run_len_map (P:=Tryz.prog) (w.alloc (.map #[] 0)) 205 3 w.heap.size #[] 0 hu hz;simp only[goInt,List.size_toArray,List.length_nil]at hln;exact zz66
theorem kc0{w:World}{g:Nat}{T:TypeId}{fr:Nat×Nat}{a b c d e:Value}(hg:w.heap[g]? = some (.cells #[a,b,c,d,e] T fr)):(loadVar 104 ⟨g,0,none⟩).run Tryz.prog w=.ok (.agg #[a,b,c,d,e]) w:=
 run_loadVar_row w g T 104 _ fr _ hg Tryz.underlying104 rfl zz2
section
variable{w:World}{o:Nat->Col}{D:PlanD}{F:FTab}{st:FSt}
theorem k68(M:Int)(C:Nat)(H:FabAt w o D F st)(G:Good D)(hf:Fresh o w)(K:FOk D M C st)(i k:Nat)(a:Nat×Nat)(ha:D.hops[i]? = some a)(hl:st.link a=[])(hk:k<D.lanes) :
 Calls Tryz.prog 46 #[.pointer (some ⟨F.g,0,none⟩),.int .i64 i,.int .i64 k] w fun e w'=>∃x0 x1 x3 x4,e=.returned (.tuple #[.agg #[.int .i64 x0,.int .i64 x1,.int .i64 0,.int .i64 x3,.int .i64 x4],.bool true])/\Below w.heap.size w w':=by
 have hmem:=List.mem_of_getElem? ha;have xn:=(k0O hmem).1;have yn:=(k0O hmem).2;have xb:=(k0r.1 hmem).2;have yb:=k2X xb xn;have hi:=(List.getElem?_eq_some_iff.1 ha).1;have hn6:D.hops.length<=30:=zz17
 have hl3:=G.l1;obtain⟨x,y⟩:=a;simp only at xn yn xb yb;obtain⟨n,hn⟩:∃n,n=D.hops.length:=⟨_,rfl⟩;rw[<- hn]at hi hn6;have HN:=Ab hn;have HG:=Ac (_/\_/\_/\_) (⟨G,K,ha,hl⟩);have L1:=Ab ((Below.refl w.heap.size w).alloc (Nat.le_refl _) (.cells #[.int .i64 0,.int .i64 0,.int .i64 0,.int .i64 0,.int .i64 0] 104));have Z1:=Ab (heap_alloc_new w (.cells #[.int .i64 0,.int .i64 0,.int .i64 0,.int .i64 0,.int .i64 0] 104));have H1:=Ac (_/\_) (⟨H.blw hf L1.1,hf.blw L1.1⟩);have cp:=k3m H1.1.1 G H1.1.2;clear H G hf K ha hl hmem hn;go_enter Tryz.func46,Tryz.ntmps46
 go_wp2_with fail
 go_at_call 44;refine cp.mono ?_;rintro e w2 ⟨E1,k1,E2,k2,E3,k3,rfl,hp,hb⟩;have PV:=Ab hp;have B2:=Ac (Below (w.heap.size+1) (w.alloc (.cells #[.int .i64 0,.int .i64 0,.int .i64 0,.int .i64 0,.int .i64 0] 104)) w2) (by simpa using hb);obtain⟨tb,htb⟩:∃tb,tb=w2.heap.size:=⟨_,rfl⟩;clear hp hb cp
 go_wp2_with fail
 go_at_call 17;obtain⟨w3,hw3⟩:∃w3,w3=w2.alloc (pbox D E1 k1 E2 k2 E3 k3):=⟨_,rfl⟩;have B3:=Ac (Below w2.heap.size w2 w3) (by rw[hw3];exact(Below.refl _ w2).alloc (Nat.le_refl _) _);have Z3:=Ac (w3.heap[tb]? = some (pbox D E1 k1 E2 k2 E3 k3)) (by rw[hw3,htb];exact heap_alloc_new w2 _);have T3:=Ac (Below (w.heap.size+1) (w.alloc (.cells #[.int .i64 0,.int .i64 0,.int .i64 0,.int .i64 0,.int .i64 0] 104)) w3) (B2.1.trans (B3.1.mono (by have:=B2.1.size;simpa using this)));have W31:w.heap.size+1<=w3.heap.size:=by have:=T3.1.size;simpa using this
 rw[<- hw3,<- htb];clear hw3 htb;have H3:=Ac (FabAt w3 o D F st/\Fresh o w3) (by
  have b:Below (w.alloc (.cells #[.int .i64 0,.int .i64 0,.int .i64 0,.int .i64 0,.int .i64 0] 104)).heap.size (w.alloc (.cells #[.int .i64 0,.int .i64 0,.int .i64 0,.int .i64 0,.int .i64 0] 104)) w3:=by simpa using T3.1
  exact⟨H1.1.1.blw H1.1.2 b,H1.1.2.blw b⟩)
 refine(k24 H3.1.1 HG.1.1 i (x,y) HG.1.2.2.1).mono ?_;rintro e w4 ⟨rfl,hb4⟩;have B4:=Ab hb4;have Z4:=Ab ((hb4.block _ (k03 Z3.1)).trans Z3.1);have b4:=fun j=>k00 Z4.1 j
 have e1:=decide_eq_false (show ¬(k:Int)<0 by omega);have e2:=decide_eq_false (show ¬((D.lanes:Nat):Int)<=(k:Int) by omega);have e2':=decide_eq_false (show ¬(D.lanes:Nat)<=k by omega);have H4:=Ac (FabAt w4 o D F st/\Fresh o w4) (⟨H3.1.1.blw H3.1.2 hb4,H3.1.2.blw hb4⟩);clear hb4
 go_wp2_with fail
 go_at_call 25;refine(k4a H4.1.1 HG.1.1).mono ?_;rintro e w5 ⟨v5,g5,rfl,hr5,hb5,_⟩;rw[<- HN.1]at hr5;obtain⟨xb5,xo5,xc5,_,rfl,_,_,hc5⟩:=hr5.open zz1;have hx5:w5.cell? ⟨xb5,xo5+i*2,none⟩=some (.int .i64 (x:Nat))/\w5.cell? ⟨xb5,xo5+i*2+1,none⟩=some (.int .i64 (y:Nat)):=by
  obtain⟨g0,g1⟩:=k0M D.hops i (x,y) HG.1.2.2.1;have hl:=k18 D.hops;have:=HN.1;exact⟨(hc5 _ zz1).trans g0,(hc5 (i*2+1) zz1).trans g1⟩
 have hx50:=hx5.1;have hx51:=hx5.2;have B5:=Ac (Below w3.heap.size w3 w5) (B4.1.trans (hb5.mono B4.1.size));have Z5:=Ab ((B5.1.block _ (k03 Z3.1)).trans Z3.1);clear hr5 hb5 hc5 hx5 b4;go_wp2;obtain⟨hb2,hhb2⟩:∃hb2,hb2=w5.heap.size:=⟨_,rfl⟩;obtain⟨wA,hwA⟩:∃wA,wA=w5.alloc (.cells #[.int .i64 (x:Nat),.int .i64 (y:Nat)] 90):=⟨_,rfl⟩;have BA:=Ac (Below w3.heap.size w3 wA) (by rw[hwA];exact B5.1.alloc B5.1.size _);have ZA:=Ab ((BA.1.block _ (k03 Z3.1)).trans Z3.1);have YA:=Ac (wA.heap[hb2]? = some (.cells #[.int .i64 (x:Nat),.int .i64 (y:Nat)] 90 (0,0))) (by rw[hwA,hhb2];exact heap_alloc_new w5 _);rw[<- hwA,<- hhb2];clear hwA hhb2 hx50 hx51;have HFA:=Ab (H3.1.1.blw H3.1.2 BA.1);have HFrA:=Ab (H3.1.2.blw BA.1);have BPA:=Ab (B3.1.trans (BA.1.mono B3.1.size));have HSA:=Sat.mk (S:=fun(W:World)=>(W.cell? ⟨tb,0,none⟩=some (Value.int .i64 D.nodes)/\W.cell? ⟨tb,1,none⟩=some (.slice E1 D.edges.length k1)/\W.cell? ⟨tb,2,none⟩=some (.int .i64 D.lanes)/\W.cell? ⟨tb,3,none⟩=some (.int .i64 D.room)/\W.cell? ⟨tb,4,none⟩=some (.int .i64 D.queue)/\W.cell? ⟨tb,5,none⟩=some (.int .i64 D.rounds)/\W.cell? ⟨tb,6,none⟩=some (.int .i64 D.every)/\W.cell? ⟨tb,7,none⟩=some (.int .i64 D.bag)/\W.cell? ⟨tb,8,none⟩=some (.slice E2 D.weights.length k2)/\W.cell? ⟨tb,9,none⟩=some (.int .u16 D.start)/\W.cell? ⟨tb,10,none⟩=some (.slice E3 D.next.length k3))/\(W.cell? ⟨hb2,0,none⟩=some (Value.int .i64 (x:Nat))/\W.cell? ⟨hb2,1,none⟩=some (.int .i64 (y:Nat)))) (w:=wA) (⟨⟨(k00 ZA.1 0).trans rfl,(k00 ZA.1 1).trans rfl,(k00 ZA.1 2).trans rfl,(k00 ZA.1 3).trans rfl,(k00 ZA.1 4).trans rfl,(k00 ZA.1 5).trans rfl,(k00 ZA.1 6).trans rfl,(k00 ZA.1 7).trans rfl,(k00 ZA.1 8).trans rfl,(k00 ZA.1 9).trans rfl,(k00 ZA.1 10).trans rfl⟩,⟨(k00 YA.1 0).trans rfl,(k00 YA.1 1).trans rfl⟩⟩);refine WpL.rg HSA 99 zz2 ?_;refine WpL.E 0 HSA.1 ?_;refine WpL.E 1 HSA.1 ?_;refine WpL.E 2 HSA.1 ?_;refine WpL.E 4 HSA.1 ?_;refine WpL.E 5 HSA.1 ?_;refine WpL.E 6 HSA.1 ?_;refine WpL.E 7 HSA.1 ?_;refine WpL.E 8 HSA.1 ?_;refine WpL.E 10 HSA.1 ?_;refine WpL.one (i:=3) zz2 rfl (fun K hK=>?_);go_simp;refine(k28 (HFA.1.blw HFrA.1 ((Below.refl _ _).drew)) HG.1.1 x xn).mono ?_;rintro e wA1 ⟨rfl,rfl⟩;have HSA1:=HSA.to (wA.drew) (HSA.1);simp only[];refine hK.out _ _ (fun _=>HSA1.1) ?_;clear hK K
 try refine Sm ?_
 refine WpL.one (i:=9) zz2 rfl (fun K hK=>?_);go_simp;refine(k5h _ x y _ _ _ _ _ _ (PV.1.below (BPA.1.trans ((Below.refl _ wA).drew.mono BPA.1.size))) HG.1.1 xn xb).mono ?_;rintro e wA2 ⟨rfl,hb⟩;have BA2:=Ac (Below wA.heap.size wA wA2) (undrew hb);have HSA2:=HSA.to wA2 (by obtain⟨⟨k0,k1,k2,k3,k4,k5,k6,k7,k8,k9,k10⟩,m0,m1⟩:=HSA.1;exact⟨⟨k01 BA2.1 k0,k01 BA2.1 k1,k01 BA2.1 k2,k01 BA2.1 k3,k01 BA2.1 k4,k01 BA2.1 k5,k01 BA2.1 k6,k01 BA2.1 k7,k01 BA2.1 k8,k01 BA2.1 k9,k01 BA2.1 k10⟩,k01 BA2.1 m0,k01 BA2.1 m1⟩);clear hb;simp only[];refine hK.out _ _ (fun _=>HSA2.1) ?_;clear hK K
 try refine Sm ?_
 refine WpL.one (i:=11) zz2 rfl (fun K hK=>?_);go_simp;refine(k7q (k08 D x y) k ((HFA.1.blw HFrA.1 BA2.1).node x xn) HG.1.1 xn (HFrA.1.blw BA2.1) zz92 (k0Q xb) hk).mono ?_;rintro e wA3 ⟨rfl,hb⟩;have BA3:=Ac (Below wA.heap.size wA wA3) (BA2.1.trans (hb.mono BA2.1.size));have HSA3:=HSA.to wA3 (by obtain⟨⟨k0,k1,k2,k3,k4,k5,k6,k7,k8,k9,k10⟩,m0,m1⟩:=HSA.1;exact⟨⟨k01 BA3.1 k0,k01 BA3.1 k1,k01 BA3.1 k2,k01 BA3.1 k3,k01 BA3.1 k4,k01 BA3.1 k5,k01 BA3.1 k6,k01 BA3.1 k7,k01 BA3.1 k8,k01 BA3.1 k9,k01 BA3.1 k10⟩,k01 BA3.1 m0,k01 BA3.1 m1⟩);clear hb;simp only[];refine hK.out _ _ (fun _=>HSA3.1) ?_;clear hK K
 try refine Sm ?_
 refine WpL.E 12 HSA3.1 ?_;refine WpL.done zz2 ?_ _;go_wp2;obtain⟨wB,hwB⟩:∃wB,wB=wA3:=⟨_,rfl⟩;have TB:=Ac (Below w3.heap.size w3 wB) (by rw[hwB];exact BA.1.trans (BA3.1.mono BA.1.size));have HFB:=Ab (H3.1.1.blw H3.1.2 TB.1);have HFrB:=Ab (H3.1.2.blw TB.1);have BPB:=Ab (B3.1.trans (TB.1.mono B3.1.size));have HSB:=HSA.to wB (by rw[hwB];exact HSA3.1);rw[<- hwB];clear hwB;refine WpL.rg HSA 99 zz2 ?_;refine WpL.E 0 HSB.1 ?_;refine WpL.E 1 HSB.1 ?_;refine WpL.E 2 HSB.1 ?_;refine WpL.E 4 HSB.1 ?_;refine WpL.E 5 HSB.1 ?_;refine WpL.E 6 HSB.1 ?_;refine WpL.E 7 HSB.1 ?_;refine WpL.E 8 HSB.1 ?_;refine WpL.E 10 HSB.1 ?_;refine WpL.one (i:=3) zz2 rfl (fun K hK=>?_);go_simp;refine(k28 (HFB.1.blw HFrB.1 ((Below.refl _ _).drew)) HG.1.1 y yn).mono ?_;rintro e wB1 ⟨rfl,rfl⟩;have HSB1:=HSA.to (wB.drew) (HSB.1);simp only[];refine hK.out _ _ (fun _=>HSB1.1) ?_;clear hK K
 try refine Sm ?_
 refine WpL.one (i:=9) zz2 rfl (fun K hK=>?_);go_simp;refine(k5h _ y x _ _ _ _ _ _ (PV.1.below (BPB.1.trans ((Below.refl _ wB).drew.mono BPB.1.size))) HG.1.1 yn yb).mono ?_;rintro e wB2 ⟨rfl,hb⟩;have BB2:=Ac (Below wB.heap.size wB wB2) (undrew hb);have HSB2:=HSA.to wB2 (by obtain⟨⟨k0,k1,k2,k3,k4,k5,k6,k7,k8,k9,k10⟩,m0,m1⟩:=HSB.1;exact⟨⟨k01 BB2.1 k0,k01 BB2.1 k1,k01 BB2.1 k2,k01 BB2.1 k3,k01 BB2.1 k4,k01 BB2.1 k5,k01 BB2.1 k6,k01 BB2.1 k7,k01 BB2.1 k8,k01 BB2.1 k9,k01 BB2.1 k10⟩,k01 BB2.1 m0,k01 BB2.1 m1⟩);clear hb;simp only[];refine hK.out _ _ (fun _=>HSB2.1) ?_;clear hK K
 try refine Sm ?_
 refine WpL.one (i:=11) zz2 rfl (fun K hK=>?_);go_simp;refine(k6f (k08 D y x) k ((HFB.1.blw HFrB.1 BB2.1).node y yn) HG.1.1 yn (HFrB.1.blw BB2.1) zz92 (k0Q yb) hk).mono ?_;rintro e wB3 ⟨rfl,hb⟩;have BB3:=Ac (Below wB.heap.size wB wB3) (BB2.1.trans (hb.mono BB2.1.size));have HSB3:=HSA.to wB3 (by obtain⟨⟨k0,k1,k2,k3,k4,k5,k6,k7,k8,k9,k10⟩,m0,m1⟩:=HSB.1;exact⟨⟨k01 BB3.1 k0,k01 BB3.1 k1,k01 BB3.1 k2,k01 BB3.1 k3,k01 BB3.1 k4,k01 BB3.1 k5,k01 BB3.1 k6,k01 BB3.1 k7,k01 BB3.1 k8,k01 BB3.1 k9,k01 BB3.1 k10⟩,k01 BB3.1 m0,k01 BB3.1 m1⟩);clear hb;simp only[];refine hK.out _ _ (fun _=>HSB3.1) ?_;clear hK K
 try refine Sm ?_
 refine WpL.E 12 HSB3.1 ?_;refine WpL.done zz2 ?_ _;obtain⟨wC,hwC⟩:∃wC,wC=wB3:=⟨_,rfl⟩;have TC:=Ac (Below w3.heap.size w3 wC) (by rw[hwC];exact TB.1.trans (BB3.1.mono TB.1.size));rw[<- hwC];clear hwC;obtain⟨px,hpx⟩:∃px,px=k08 D x y:=⟨_,rfl⟩;obtain⟨py,hpy⟩:∃py,py=k08 D y x:=⟨_,rfl⟩;rw[<- hpx,<- hpy];have px1:1<=px:=by rw[hpx];unfold k08;omega
 have py1:1<=py:=by rw[hpy];unfold k08;omega
 have pxn:px<np D x:=by rw[hpx];exact k0Q xb
 have pyn:py<np D y:=by rw[hpy];exact k0Q yb
 clear hpx hpy;have FW:=Ab (fun(W:World) (b:Below w3.heap.size w3 W)=>H3.1.1.blw H3.1.2 b);have SW:=Ab (fun(W:World) (b:Below w3.heap.size w3 W)=>((FW.1 W b).node x xn).sndSt px k px1 pxn hk);have RW:=Ab (fun(W:World) (b:Below w3.heap.size w3 W)=>((FW.1 W b).node y yn).rcvSt py k py1 pyn hk);have NX:=Ab (HG.1.2.1 x xn).num;have NY:=Ab (HG.1.2.1 y yn).num;obtain⟨s,hs⟩:∃s,s=((st.node x).snd px k).1:=⟨_,rfl⟩;obtain⟨l,hl⟩:∃l,l=((st.node x).snd px k).2:=⟨_,rfl⟩;obtain⟨rx,hrx⟩:∃rx,rx=((st.node y).rcv py k).1:=⟨_,rfl⟩;obtain⟨rh,hrh⟩:∃rh,rh=((st.node y).rcv py k).2:=⟨_,rfl⟩;have BN:=Ac (0<=s/\s<=l/\l<=s+8/\s<=1000000/\0<=rx/\rx<=1000000/\0<=rh/\rh<=D.room/\D.room<=8) (by
  have:=NX.1.s0 px k px1 pxn hk;have:=NX.1.s1 px k px1 pxn hk;have:=NX.1.s2 px k px1 pxn hk;have:=NX.1.s3 px k px1 pxn hk;have:=NY.1.r0 py k py1 pyn hk;have:=NY.1.r1 py k py1 pyn hk;have:=NY.1.r2 py k py1 pyn hk;have:=NY.1.r3 py k py1 pyn hk;have:=HG.1.1.r1;omega)
 rw[<- hs,<- hl]at SW;rw[<- hrx,<- hrh]at RW;clear hs hl hrx hrh
 go_wp2_with(first
  |(go_at_call 82;refine(kbg _ _ _ _ _ _ (RW.1 _ T10.1)).mono ?_;rintro e w11 ⟨rfl,hs⟩;have T11:=Ac (Below w3.heap.size w3 w11) (T10.1.trans ((RcvSt.blw (RW.1 _ T10.1) hs).mono T10.1.size));clear hs)
  |(go_at_call 81;refine(k4n _ _ _ _ _ (SW.1 _ T9.1)).mono ?_;rintro e w10 ⟨rfl,hs⟩;have T10:=Ac (Below w3.heap.size w3 w10) (T9.1.trans ((SndSt.blw (SW.1 _ T9.1) hs).mono T9.1.size));clear hs)
  |(go_at_call 80;refine(k6y _ _ _ _ _ _ (RW.1 _ T8.1) zz75 zz75 zz75 zz75 zz75).mono ?_;rintro e w9 ⟨rfl,hs⟩;have T9:=Ac (Below w3.heap.size w3 w9) (T8.1.trans ((RcvSt.blw (RW.1 _ T8.1) hs).mono T8.1.size));clear hs)
  |(go_at_call 79;refine(k1t _ _ _ _ _ (SW.1 _ TC.1) zz75 zz75 zz75 zz75).mono ?_;rintro e w8 ⟨rfl,hs⟩;have T8:=Ac (Below w3.heap.size w3 w8) (TC.1.trans ((SndSt.blw (SW.1 _ TC.1) hs).mono TC.1.size));clear hs))
 obtain⟨u0,hu0⟩:∃u0,u0=l-s:=⟨_,rfl⟩;obtain⟨u1,hu1⟩:∃u1,u1=wrap64 (IntKind.u64.wrap (rx+(↑D.room-rh)-l)):=⟨_,rfl⟩;rw[<- hu0,<- hu1];clear hu0 hu1;obtain⟨ab,hab⟩:∃ab,ab=w11.heap.size:=⟨_,rfl⟩;obtain⟨w12,hw12⟩:∃w12,w12=w11.alloc (.cells #[.int .i64 u0,.int .i64 u1,.int .i64 0,.int .i64 rh,.int .i64 0] 104):=⟨_,rfl⟩;have T12:=Ac (Below w3.heap.size w3 w12) (by rw[hw12];exact T11.1.alloc T11.1.size _);have Z12:=Ac (w12.heap[ab]? = some (.cells #[.int .i64 u0,.int .i64 u1,.int .i64 0,.int .i64 rh,.int .i64 0] 104 (0,0))) (by rw[hw12,hab];exact heap_alloc_new w11 _);have AB:=Ac (w3.heap.size<=ab) (by rw[hab];exact T11.1.size);rw[<- hab,<- hw12];clear hab hw12;refine(k5T ((FW.1 _ T12.1).link (x,y) (List.mem_of_getElem? HG.1.2.2.1))).mono ?_;rintro e w13 ⟨A13,k13,he,hn13,hb13⟩;obtain⟨rfl,rfl⟩:=hn13 HG.1.2.2.2;rw[HG.1.2.2.2]at he;subst he;have T13:=Ac (Below w3.heap.size w3 w13) (T12.1.trans (hb13.mono T12.1.size));have Z13:=Ab ((hb13.block _ (k03 Z12.1)).trans Z12.1);clear hb13 hn13
 go_wp2_with(first
  |(go_at_call 83;refine(k8T k rx s _).mono ?_;rintro e w16 ⟨rfl,hb⟩;have T16:=Ac (Below w3.heap.size w3 w16) (T15.1.1.trans (hb.mono T15.1.1.size));have Z16:=Ab ((hb.block _ (k03 T15.1.2)).trans T15.1.2);have c16:=fun j=>k00 Z16.1 j;have f16:=fun j=>k02 Z16.1 j;clear hb)
  |(go_at_call 85;refine(k1M _ _ _ _ _ (SW.1 _ T14.1.1)).mono ?_;rintro e w15 ⟨rfl,hs⟩;have BX:=SndSt.blw (SW.1 _ T14.1.1) hs;have T15:=Ac (Below w3.heap.size w3 w15/\w15.heap[ab]? = some (.cells #[.int .i64 u0,.int .i64 u1,.int .i64 0,.int .i64 rh,.int .i64 0] 104 (0,0))) (⟨T14.1.1.trans (BX.mono T14.1.1.size),(BX.block _ (k03 T14.1.2)).trans T14.1.2⟩);clear hs BX)
  |(go_at_call 84;refine(k4A _ _ _ _ _ _ (RW.1 _ T13.1)).mono ?_;rintro e w14 ⟨rfl,hs⟩;have BX:=RcvSt.blw (RW.1 _ T13.1) hs;have T14:=Ac (Below w3.heap.size w3 w14/\w14.heap[ab]? = some (.cells #[.int .i64 u0,.int .i64 u1,.int .i64 0,.int .i64 rh,.int .i64 0] 104 (0,0))) (⟨T13.1.trans (BX.mono T13.1.size),(BX.block _ (k03 Z13.1)).trans Z13.1⟩);clear hs BX))
 obtain⟨w17,hw17⟩:∃w17,w17=w16.setCell ⟨ab,2,none⟩ (.int .i64 0):=⟨_,rfl⟩;have Z17:=Ac (w17.heap[ab]? = some (.cells #[.int .i64 u0,.int .i64 u1,.int .i64 0,.int .i64 rh,.int .i64 0] 104 (0,0))) (by rw[hw17];exact k05 Z16.1 2 _);have T17:=Ac (Below w3.heap.size w3 w17) (by rw[hw17];exact T16.1.setCell (show w3.heap.size<=ab from AB.1) _);rw[<- hw17];clear hw17 c16 f16;have HS17:=Sat.mk (S:=fun(W:World)=>W.cell? ⟨ab,0,none⟩=some (Value.int .i64 u0)/\W.cell? ⟨ab,1,none⟩=some (.int .i64 u1)/\W.cell? ⟨ab,2,none⟩=some (.int .i64 0)/\W.cell? ⟨ab,3,none⟩=some (.int .i64 rh)/\W.cell? ⟨ab,4,none⟩=some (.int .i64 0)) (w:=w17) (⟨(k00 Z17.1 0).trans rfl,(k00 Z17.1 1).trans rfl,(k00 Z17.1 2).trans rfl,(k00 Z17.1 3).trans rfl,(k00 Z17.1 4).trans rfl⟩);refine WpL.rg HS17 10 zz2 ?_;refine WpL.T 0 [] HS17.1 ?_;refine WpL.T 2 [] HS17.1 ?_;refine WpL.T 6 [] HS17.1 ?_;refine WpL.T 7 [] HS17.1 ?_;refine WpL.one (i:=1) zz2 rfl (fun K hK=>?_);go_simp;refine(k1M _ _ _ _ _ (SW.1 _ (T17.1.trans ((Below.refl _ w17).drew.mono T17.1.size)))).mono ?_;rintro e w18 ⟨rfl,hs⟩;have B18:=Ac (Below w17.heap.size w17 w18) (undrew (SndSt.blw (SW.1 _ (T17.1.trans ((Below.refl _ w17).drew.mono T17.1.size))) hs));have T18:=Ac (Below w3.heap.size w3 w18) (T17.1.trans (B18.1.mono T17.1.size));have Z18:=Ab ((B18.1.block _ (k03 Z17.1)).trans Z17.1);have HS18:=HS17.to w18 (⟨(k00 Z18.1 0).trans rfl,(k00 Z18.1 1).trans rfl,(k00 Z18.1 2).trans rfl,(k00 Z18.1 3).trans rfl,(k00 Z18.1 4).trans rfl⟩);clear hs;simp only[];refine hK.out _ _ (fun _=>HS18.1) ?_;clear hK K
 try refine Sm ?_
 refine WpL.one (i:=3) zz2 rfl (fun K hK=>?_);go_simp;refine(k4A _ _ _ _ _ _ (RW.1 _ T18.1)).mono ?_;rintro e w19 ⟨rfl,hs⟩;have B19:=Ab (RcvSt.blw (RW.1 _ T18.1) hs);have T19:=Ac (Below w3.heap.size w3 w19) (T18.1.trans (B19.1.mono T18.1.size));have Z19:=Ab ((B19.1.block _ (k03 Z18.1)).trans Z18.1);have HS19:=HS17.to w19 (⟨(k00 Z19.1 0).trans rfl,(k00 Z19.1 1).trans rfl,(k00 Z19.1 2).trans rfl,(k00 Z19.1 3).trans rfl,(k00 Z19.1 4).trans rfl⟩);have c19:=fun j=>k00 Z19.1 j
 have f19:=fun j=>k02 Z19.1 j
 have hl19:=k03 Z19.1;have Z19r:=Ac (w19.heap[w.heap.size]? = some (.cells #[.int .i64 0,.int .i64 0,.int .i64 0,.int .i64 0,.int .i64 0] 104 (0,0))) ((T19.1.block _ zz1).trans ((T3.1.block _ zz1).trans Z1.1));have r19:=fun j=>k00 Z19r.1 j
 have g19:=fun j=>k02 Z19r.1 j
 have hne19:ab≠w.heap.size:=by have:=AB.1;omega
 clear hs;simp only[];refine hK.out _ _ (fun _=>HS19.1) ?_;clear hK K
 try refine Sm ?_
 refine WpL.T 4 [] HS19.1 ?_;refine WpL.T 5 [] HS19.1 ?_;refine WpL.T 8 [] HS19.1 ?_;refine WpL.T 9 [] HS19.1 ?_;refine WpL.one (i:=10) zz2 rfl (fun K hK=>?_);go_simp;refine hK.out _ _ (fun h=>absurd rfl h) ?_;clear hK K
 try refine Sm ?_
 refine WpL.done zz2 ?_ _;go_wp2;obtain⟨u4,hu4⟩:∃u4,u4=wrap64 (wrap64 (IntKind.u64.wrap (s-rx))):=⟨_,rfl⟩;rw[<- hu4];clear hu4;have ZA:=(Below.heap_setCell w19 ⟨ab,4,none⟩ (.int .i64 u4) w.heap.size (Ne.symm hne19)).trans Z19r.1;have O20:Only (fun b=>w.heap.size<=b) w19 (w19.setCell ⟨ab,4,none⟩ (.int .i64 u4)):=(Only.refl _ _).set (p:=⟨ab,4,none⟩) (fun _=>by have:=AB.1;show w.heap.size<=ab;omega) _;obtain⟨w20,hw20⟩:∃w20,w20=w19.setCell ⟨ab,4,none⟩ (.int .i64 u4):=⟨_,rfl⟩;rw[<- hw20]at ZA O20 ⊢;have z0:=k05 ZA 0 (.int .i64 u0);simp only[List.setIfInBounds_toArray,List.set_cons_zero,List.set_cons_succ]at z0;have z1:=k05 z0 1 (.int .i64 u1);simp only[List.setIfInBounds_toArray,List.set_cons_zero,List.set_cons_succ]at z1;have z2:=k05 z1 2 (.int .i64 0);simp only[List.setIfInBounds_toArray,List.set_cons_zero,List.set_cons_succ]at z2;have z3:=k05 z2 3 (.int .i64 rh);simp only[List.setIfInBounds_toArray,List.set_cons_zero,List.set_cons_succ]at z3;have z4:=k05 z3 4 (.int .i64 u4);simp only[List.setIfInBounds_toArray,List.set_cons_zero,List.set_cons_succ]at z4;have o1:=O20.set (p:=⟨w.heap.size,0,none⟩) (fun _=>Nat.le_refl _) (.int .i64 u0);have o2:=o1.set (p:=⟨w.heap.size,1,none⟩) (fun _=>Nat.le_refl _) (.int .i64 u1);have o3:=o2.set (p:=⟨w.heap.size,2,none⟩) (fun _=>Nat.le_refl _) (.int .i64 0);have o4:=o3.set (p:=⟨w.heap.size,3,none⟩) (fun _=>Nat.le_refl _) (.int .i64 rh);have o5:=o4.set (p:=⟨w.heap.size,4,none⟩) (fun _=>Nat.le_refl _) (.int .i64 u4);refine bodyPost_ret (k0E rfl _ _ ⟨w.heap.size,0,none⟩ _ rfl (kc0 z4)) rfl ⟨u0,u1,rh,u4,rfl,?_⟩;have b19:Below w.heap.size w w19:=L1.1.trans ((T3.1.trans (T19.1.mono W31)).mono (Nat.le_succ _));exact⟨o5.os.trans b19.os,o5.tape.trans b19.tape,o5.output.trans b19.output,Nat.le_trans b19.size o5.size,fun b hb=>(o5.keep b (Nat.lt_of_lt_of_le hb b19.size) zz1).trans (b19.block b hb)⟩
end
theorem kcn:(Tryz.prog.info? 104).map (fun i=>(i.zero,i.size,i.bytes))=some (some (.agg #[.int .i64 0,.int .i64 0,.int .i64 0,.int .i64 0,.int .i64 0]),5,40):=by kernel_rfl
def k0I(l:List (Int×Int×Int×Int)):List Value:=l.flatMap fun p=>[.int .i64 p.1,.int .i64 p.2.1,.int .i64 0,.int .i64 p.2.2.1,.int .i64 p.2.2.2]
theorem k3S:∀(l:List (Int×Int×Int×Int))(i:Nat)(p:Int×Int×Int×Int),l[i]? = some p->(k0I l)[i*5]? = some (.int .i64 p.1)/\(k0I l)[i*5+1]? = some (.int .i64 p.2.1)/\(k0I l)[i*5+2]? = some (.int .i64 0)/\(k0I l)[i*5+3]? = some (.int .i64 p.2.2.1)/\(k0I l)[i*5+4]? = some (.int .i64 p.2.2.2)
 |[],i,p,h=>by simp at h
 |a :: l,0,p,h=>by
  simp at h;subst h;exact⟨rfl,rfl,rfl,rfl,rfl⟩
 |a :: l,i+1,p,h=>by
  have ih:=k3S l i p zz74;have e:k0I (a :: l)=[.int .i64 a.1,.int .i64 a.2.1,.int .i64 0,.int .i64 a.2.2.1,.int .i64 a.2.2.2]++k0I l:=rfl;rw[e];rw[show(i+1)*5=i*5+5 by omega];refine⟨?_,?_,?_,?_,?_⟩
  ·rw[List.getElem?_append_right zz6];simpa using ih.1
  ·rw[List.getElem?_append_right zz6];rw[show i*5+5+1-_=i*5+1 by simp];exact ih.2.1
  ·rw[List.getElem?_append_right zz6];rw[show i*5+5+2-_=i*5+2 by simp];exact ih.2.2.1
  ·rw[List.getElem?_append_right zz6];rw[show i*5+5+3-_=i*5+3 by simp];exact ih.2.2.2.1
  ·rw[List.getElem?_append_right zz6];rw[show i*5+5+4-_=i*5+4 by simp];exact ih.2.2.2.2
theorem k6j(l:List (Int×Int×Int×Int)):(k0I l).length=l.length*5:=by
 induction l with
 |nil=>rfl
 |cons a l ih=>simp[k0I]at ih ⊢;omega
theorem Only.toB{w0 w w':World}{P:Nat->Prop}(b:Below w0.heap.size w0 w)(O:Only P w w')(hP:∀x,P x->w0.heap.size<=x):Below w0.heap.size w0 w':=
 ⟨O.os.trans b.os,O.tape.trans b.tape,O.output.trans b.output,Nat.le_trans b.size O.size,fun x hx=>(O.keep x (Nat.lt_of_lt_of_le hx b.size) (fun h=>by have:=hP x h;omega)).trans (b.block x hx)⟩
theorem k7z(W:World)(D:PlanD)(E1:Option Addr)(k1:Nat)(E2:Option Addr)(k2:Nat)(E3:Option Addr)(k3:Nat):(Instr.field 32 (pagg D E1 k1 E2 k2 E3 k3) 0).run Tryz.prog W=.ok (.int .i64 D.nodes) W:=by kernel_rfl
theorem k4H(W:World)(D:PlanD)(E1:Option Addr)(k1:Nat)(E2:Option Addr)(k2:Nat)(E3:Option Addr)(k3:Nat):(Instr.field 32 (pagg D E1 k1 E2 k2 E3 k3) 2).run Tryz.prog W=.ok (.int .i64 D.lanes) W:=by kernel_rfl
section
variable{w:World}{o:Nat->Col}{D:PlanD}{F:FTab}{st:FSt}
def AllAt(D:PlanD)(w:World)(e:Ending)(w':World):Prop:=∃V l g,e=.returned V/\Row w' V 104 5 (D.hops.length*D.lanes) (k0I l) g/\l.length=D.hops.length*D.lanes/\Below w.heap.size w w'
theorem k6G(M:Int)(C:Nat)(H:FabAt w o D F st)(G:Good D)(hf:Fresh o w)(K:FOk D M C st)(hl:∀a∈D.hops,st.link a=[]) :
 Calls Tryz.prog 21 #[.pointer (some ⟨F.g,0,none⟩)] w (AllAt D w):=by
 have hn6:D.hops.length<=30:=zz17
 have hl3:=G.l1;obtain⟨n,hn⟩:∃n,n=D.hops.length:=⟨_,rfl⟩;rw[<- hn]at hn6;have ch:=k4a H G;obtain⟨L,hL⟩:∃L,L=D.lanes:=⟨_,rfl⟩;rw[<- hL]at hl3;have HN:=Ac (_/\_) (⟨hn,hL⟩);have HA:=Ac (_/\_/\_/\_/\_) (⟨H,G,hf,K,hl⟩);have FW:=Ab (fun(W:World) (b:Below w.heap.size w W)=>(show FabAt W o D F st/\Fresh o W from⟨H.blw hf b,hf.blw b⟩));clear H G hf K hl hn hL;go_enter Tryz.func21,Tryz.ntmps21
 go_wp2_with(go_at_call 25;refine ch.mono ?_;rintro e w1 ⟨v1,g1,rfl,hr,hb,_⟩;rw[<- HN.1.1]at hr;obtain⟨A1,k1,rfl,_⟩:=hr.size;have B1:=Ab hb;clear hr hb ch)
 go_loopw [3,11] (fun s3 s11 wr=>∃(i:Nat)(l:List (Int×Int×Int×Int))(g:Option Nat),i<=n/\s11=.int .i64 i/\k07 (Below w.heap.size w wr/\Row wr s3 104 5 (i*L) (k0I l) g/\l.length=i*L/\∀b,g=some b->w.heap.size<=b)) (fun _ s11 _=>n-ixOf s11)
 case atStart=>exact⟨0,[],none,zz1,rfl,⟨B1.1,by rw[Nat.zero_mul];exact Row.nil _ _ _,zz6,zz6⟩⟩
 case round=>
  obtain⟨i,l,g,hi,rfl,R⟩:=hrel;by_cases hlt:i<n
  ·have e1:(i:Int)<(n:Int):=by omega
   obtain⟨a,ha⟩:∃a,D.hops[i]? = some a:=⟨_,List.getElem?_eq_getElem (by have:=HN.1.1;omega)⟩;have HH:=Ab ha;clear ha
   go_wp2_with(go_at_call 44;refine(k3m (FW.1 _ R.1.1).1 HA.1.2.1 (FW.1 _ R.1.1).2).mono ?_;rintro e w2 ⟨E1,k1',E2,k2,E3,k3,rfl,_,hb⟩;have L2:=Ac (Below w.heap.size w w2) (R.1.1.trans (hb.mono R.1.1.size));have R2:=Ab (R.1.2.1.below hb);have fp:∀W:World,(Instr.field 32 (pagg D E1 k1' E2 k2 E3 k3) 2).run Tryz.prog W=.ok (.int .i64 (L:Nat)) W:=(fun W=>(by rw[HN.1.2];exact k4H W D _ _ _ _ _ _));clear hb)
   go_loopw [3,17] (fun s3 s17 wr=>∃(k:Nat)(l:List (Int×Int×Int×Int))(g:Option Nat),k<=L/\s17=.int .i64 k/\k07 (Below w.heap.size w wr/\Row wr s3 104 5 (i*L+k) (k0I l) g/\l.length=i*L+k/\∀b,g=some b->w.heap.size<=b)) (fun _ s17 _=>L-ixOf s17)
   case atStart=>exact⟨0,l,g,zz1,rfl,⟨L2.1,by rw[Nat.add_zero];exact R2.1,by rw[Nat.add_zero];exact R.1.2.2.1,R.1.2.2.2⟩⟩
   case round=>
    obtain⟨k,l,g,hk,rfl,Q⟩:=hrel;have hil:i*L+k<=90:=by have:i*L<=29*3:=Nat.mul_le_mul zz1 hl3;omega
    by_cases hlk:k<L
    ·have e2:(k:Int)<(L:Int):=by omega
     obtain⟨A3,k3',rfl,_⟩:=Q.1.2.1.size
     go_wp2_with(first
      |(at_builtin;refine k0z rfl _ _ 65 104 (.agg #[.int .i64 0,.int .i64 0,.int .i64 0,.int .i64 0,.int .i64 0]) 5 40 rfl Tryz.underlying65 kcn rfl zz7 zz7 (.slice A3 (i*L+k) k3') (i*L+k) (k0I l) [.int .i64 x0,.int .i64 x1,.int .i64 0,.int .i64 x3,.int .i64 x4] g (Q4.1.2) rfl rfl (World.size_alloc _ _).symm rfl (by intro u hu;simp at hu;rcases hu with rfl|rfl|rfl|rfl|rfl<;>rfl) zz1 ?_;intro v6 w6 g6 R6 O6 G6;have K6:=Ac (_/\Only (fun b=>g=some b) _ w6/\_) (⟨R6,O6,G6⟩);obtain⟨A6,k6,rfl,_⟩:=R6.size;clear R6 O6 G6)
      |(go_at_call 46;refine(k68 M C (FW.1 _ Q.1.1).1 HA.1.2.1 (FW.1 _ Q.1.1).2 HA.1.2.2.2.1 i k a HH.1 (HA.1.2.2.2.2 a (List.mem_of_getElem? HH.1)) (by have:=HN.1.2;omega)).mono ?_;rintro e w4 ⟨x0,x1,x3,x4,rfl,hb⟩;have B4:Below wr.heap.size wr (w4.alloc (.cells #[.int .i64 x0,.int .i64 x1,.int .i64 0,.int .i64 x3,.int .i64 x4] 104)):=hb.alloc hb.size _;have Q4:=Ac (Below w.heap.size w _/\Row _ _ 104 5 (i*L+k) (k0I l) g) (⟨Q.1.1.trans (B4.mono Q.1.1.size),Q.1.2.1.below B4⟩);clear hb B4))
     have hw4:w.heap.size<=(World.alloc _ _).heap.size:=Q4.1.1.size;refine⟨⟨k+1,l++[(x0,x1,x3,x4)],g6,zz1,rfl,⟨?_,?_,?_,?_⟩⟩,?_⟩
     ·exact Only.toB Q4.1.1 K6.1.2.1 Q.1.2.2.2
     ·have e:k0I (l++[(x0,x1,x3,x4)])=k0I l++[.int .i64 x0,.int .i64 x1,.int .i64 0,.int .i64 x3,.int .i64 x4]:=by simp[k0I]
      rw[e];exact K6.1.1
     ·rw[List.length_append,Q.1.2.2.1];rfl
     ·intro b e
      rcases K6.1.2.2 with e2|⟨b2,e2,hb2⟩
      ·exact Q.1.2.2.2 b (by rw[<- e2];exact e)
      ·rw[e]at e2;cases e2;exact Nat.le_trans hw4 hb2
     ·show L-ixOf (.int .i64 ((k:Int)+1))<L-ixOf (.int .i64 (k:Int))
      simp only[ixOf];exact zz1
    ·have e2:¬(k:Int)<(L:Int):=by omega
     obtain rfl:L=k:=by omega
     go_wp2;refine⟨⟨i+1,l,g,zz1,rfl,⟨Q.1.1,by rw[Nat.add_mul,Nat.one_mul];exact Q.1.2.1,by rw[Nat.add_mul,Nat.one_mul];exact Q.1.2.2.1,Q.1.2.2.2⟩⟩,?_⟩;exact zz23
  ·have e1:¬(i:Int)<(n:Int):=by omega
   obtain rfl:n=i:=by omega
   go_wp2;go_ret;exact⟨_,l,g,rfl,by rw[<- HN.1.1,<- HN.1.2];exact R.1.2.1,by rw[<- HN.1.1,<- HN.1.2];exact R.1.2.2.1,R.1.1⟩
end
section
variable{w:World}{o:Nat->Col}{D:PlanD}{F:FTab}{st:FSt}
theorem k6t(H:FabAt w o D F st)(G:Good D)(hf:Fresh o w)(v:Nat)(hv:v<D.nodes)(hw:∀k,k<D.lanes->(st.node v).waits k=[])(hq:∀a,(st.node v).q a=[]) :
 Calls Tryz.prog 45 #[.pointer (some ⟨F.g,0,none⟩),.int .i64 v] w fun e w'=>e=.returned (.int .i64 0)/\Below w.heap.size w w':=by
 have hl3:=G.l1;have hb5:=G.bl v hv;have cn:=k28 H G v hv;obtain⟨L,hL⟩:∃L,L=D.lanes:=⟨_,rfl⟩;rw[<- hL]at hl3;obtain⟨m,hm⟩:∃m,m=(D.bs v).length:=⟨_,rfl⟩;rw[<- hm]at hb5;have HN:=Ac (L=D.lanes/\m=(D.bs v).length/\np D v=m+1) (⟨hL,hm,by unfold np;omega⟩);have HA:=Ac (_/\_/\_/\_/\_) (⟨H,G,hf,hw,hq⟩);have FW:=Ab (fun(W:World) (b:Below w.heap.size w W)=>(show FabAt W o D F st/\Fresh o W from⟨H.blw hf b,hf.blw b⟩));clear H G hf hw hq hL hm;go_enter Tryz.func45,Tryz.ntmps45
 go_wp2_with(go_at_call 16;refine cn.mono ?_;rintro e w1 ⟨rfl,rfl⟩;clear cn)
 go_wp2_with(first
  |(go_at_call 63;refine(k1r _ _ D v _ PL.1 HA.1.2.1 hv).mono ?_;rintro e w3 ⟨pb,po,c,rfl,_,_,hb⟩;rw[<- HN.1.2.1];have L3:=Ac (Below w.heap.size w w3) (L2.1.trans (hb.mono L2.1.size));clear hb)
  |(go_at_call 44;refine(k3m HA.1.1 HA.1.2.1 HA.1.2.2.1).mono ?_;rintro e w2 ⟨E1,k1,E2,k2,E3,k3,rfl,hp,hb⟩;have PL:=Ab hp;have L2:=Ac (Below w.heap.size w w2) (hb);clear hp hb))
 go_at_call 44;refine(k3m (FW.1 _ L3.1).1 HA.1.2.1 (FW.1 _ L3.1).2).mono ?_;rintro e w4 ⟨F1,j1,F2,j2,F3,j3,rfl,_,hb⟩;have L4:=Ac (Below w.heap.size w w4) (L3.1.trans (hb.mono L3.1.size));have fp:∀W:World,(Instr.field 32 (pagg D F1 j1 F2 j2 F3 j3) 2).run Tryz.prog W=.ok (.int .i64 (L:Nat)) W:=fun W=>by rw[HN.1.1];exact k4H W D _ _ _ _ _ _
 clear hb;go_wp2
 go_loopw [6,23] (fun s6 s23 wr=>∃k:Nat,k<=L/\s6=.int .i64 0/\s23=.int .i64 k/\k07 (Below w.heap.size w wr)) (fun _ s23 _=>L-ixOf s23)
 case atStart=>exact⟨0,zz1,rfl,rfl,L4⟩
 case round=>
  obtain⟨k,hk,rfl,rfl,R⟩:=hrel;by_cases hlk:k<L
  ·have e1:(k:Int)<(L:Int):=by omega
   have hkl:k<D.lanes:=by have:=HN.1.1;omega
   have hz:(((st.node v).waits k).length:Int)=0:=by rw[HA.1.2.2.2.1 k hkl];rfl
   have HZ:=Ab hz;clear hz
   go_wp2_with(first
    |(go_at_call 73;refine(k3I k ((FW.1 _ R.1).1.node v hv).host zz1).mono ?_;rintro e w6 ⟨rfl,rfl⟩;rw[HZ.1])
    |(go_at_call 18;refine(k4x ((FW.1 _ R.1).1.node v hv)).mono ?_;rintro e w5 ⟨rfl,rfl⟩))
   go_loopw [6,33] (fun s6 s33 wr=>∃i:Nat,i<=m+1/\s6=.int .i64 0/\s33=.int .i64 i/\k07 (Below w.heap.size w wr)) (fun _ s33 _=>m+1-ixOf s33)
   case atStart=>exact⟨0,zz1,rfl,rfl,R⟩
   case round=>
    clear R;obtain⟨i,hi,rfl,rfl,R⟩:=hrel;by_cases hli:i<m+1
    ·have e2:(i:Int)<(m:Int)+1:=by omega
     go_wp2
     go_loopw [6,37] (fun s6 s37 wr=>∃j:Nat,j<=m+1/\s6=.int .i64 0/\s37=.int .i64 j/\k07 (Below w.heap.size w wr)) (fun _ s37 _=>m+1-ixOf s37)
     case atStart=>exact⟨0,zz1,rfl,rfl,R⟩
     case round=>
      clear R;obtain⟨j,hj,rfl,rfl,R⟩:=hrel;by_cases hlj:j<m+1
      ·have e3:(j:Int)<(m:Int)+1:=by omega
       have HQ:=Ac ((((st.node v).q (i,j,k)).length:Int)=0) (by rw[HA.1.2.2.2.2];rfl)
       go_wp2_with(first
        |(go_at_call 75;refine(k4s i j k ((FW.1 _ R.1).1.node v hv).rings zz1 zz1 zz1).mono ?_;rintro e w6 ⟨rfl,rfl⟩;rw[HQ.1])
        |(go_at_call 74;refine(k8m ((FW.1 _ R.1).1.node v hv)).mono ?_;rintro e w5 ⟨rfl,rfl⟩))
       refine⟨⟨j+1,zz1,rfl,rfl,R⟩,?_⟩;show m+1-ixOf (.int .i64 ((j:Int)+1))<m+1-ixOf (.int .i64 (j:Int));exact zz9
      ·have e3:¬(j:Int)<(m:Int)+1:=by omega
       obtain rfl:j=m+1:=by omega
       go_wp2;refine⟨⟨i+1,zz1,rfl,rfl,R⟩,?_⟩;show m+1-ixOf (.int .i64 ((i:Int)+1))<m+1-ixOf (.int .i64 (i:Int));exact zz9
    ·have e2:¬(i:Int)<(m:Int)+1:=by omega
     obtain rfl:i=m+1:=by omega
     go_wp2;refine⟨⟨k+1,zz1,rfl,rfl,R⟩,?_⟩;show L-ixOf (.int .i64 ((k:Int)+1))<L-ixOf (.int .i64 (k:Int));exact zz9
  ·have e1:¬(k:Int)<(L:Int):=by omega
   obtain rfl:L=k:=by omega
   go_wp2;go_ret;exact⟨rfl,R.1⟩
theorem k8e(M:Int)(C:Nat)(H:FabAt w o D F st)(G:Good D)(hf:Fresh o w)(K:FOk D M C st)(hw:∀v,v<D.nodes->∀k,k<D.lanes->(st.node v).waits k=[])(hq:∀v,v<D.nodes->∀a,(st.node v).q a=[])(hl:∀a∈D.hops,st.link a=[]) :
 Calls Tryz.prog 20 #[.pointer (some ⟨F.g,0,none⟩)] w fun e w'=>e=.returned (.int .i64 0)/\Below w.heap.size w w':=by
 have hl3:=G.l1;have hn6:=G.n1;have hh6:D.hops.length<=30:=zz17
 obtain⟨n,hn⟩:∃n,n=D.nodes:=⟨_,rfl⟩;rw[<- hn]at hn6;obtain⟨q,hq2⟩:∃q,q=D.hops.length*D.lanes:=⟨_,rfl⟩;have hq90:q<=90:=by have:D.hops.length*D.lanes<=30*3:=Nat.mul_le_mul hh6 hl3;omega
 have HN:=Ac (n=D.nodes/\q=D.hops.length*D.lanes) (⟨hn,hq2⟩);have HA:=Ac (_/\_/\_/\_/\_/\_/\_) (⟨H,G,hf,K,hw,hq,hl⟩);have FW:=Ab (fun(W:World) (b:Below w.heap.size w W)=>(show FabAt W o D F st/\Fresh o W from⟨H.blw hf b,hf.blw b⟩));clear H G hf K hw hq hl hn hq2 hl3 hh6;go_enter Tryz.func20,Tryz.ntmps20
 go_wp2_with(go_at_call 44;refine(k3m HA.1.1 HA.1.2.1 HA.1.2.2.1).mono ?_;rintro e w2 ⟨E1,k1,E2,k2,E3,k3,rfl,_,hb⟩;have L2:=Ac (Below w.heap.size w w2) (hb);have fp:∀W:World,(Instr.field 32 (pagg D E1 k1 E2 k2 E3 k3) 0).run Tryz.prog W=.ok (.int .i64 (n:Nat)) W:=(fun W=>(by rw[HN.1.1];exact k7z W D _ _ _ _ _ _));clear hb)
 go_loopw [3,10] (fun s3 s10 wr=>∃i:Nat,i<=n/\s3=.int .i64 0/\s10=.int .i64 i/\k07 (Below w.heap.size w wr)) (fun _ s10 _=>n-ixOf s10)
 case atStart=>exact⟨0,zz1,rfl,rfl,L2⟩
 case round=>
  obtain⟨i,hi,rfl,rfl,R⟩:=hrel;by_cases hli:i<n
  ·have e1:(i:Int)<(n:Int):=by omega
   have hin:i<D.nodes:=by have:=HN.1.1;omega
   go_wp2_with(go_at_call 45;refine(k6t (FW.1 _ R.1).1 HA.1.2.1 (FW.1 _ R.1).2 i hin (HA.1.2.2.2.2.1 i hin) (HA.1.2.2.2.2.2.1 i hin)).mono ?_;rintro e w3 ⟨rfl,hb⟩;have L3:=Ac (Below w.heap.size w w3) (R.1.trans (hb.mono R.1.size));clear hb)
   refine⟨⟨i+1,zz1,rfl,rfl,L3⟩,?_⟩;exact zz23
  ·have e1:¬(i:Int)<(n:Int):=by omega
   obtain rfl:n=i:=by omega
   go_wp2_with(go_at_call 21;refine(k6G M C (FW.1 _ R.1).1 HA.1.2.1 (FW.1 _ R.1).2 HA.1.2.2.2.1 HA.1.2.2.2.2.2.2).mono ?_;rintro e w3 ⟨V,l,g,rfl,hr,hll,hb⟩;rw[<- HN.1.2]at hr hll;obtain⟨A3,k3',rfl,_⟩:=hr.size;have L3:=Ac (Below w.heap.size w w3/\Row w3 (.slice A3 q k3') 104 5 q (k0I l) g/\l.length=q) (⟨R.1.trans (hb.mono R.1.size),hr,hll⟩);clear hb hr hll)
   go_loopw [3,22] (fun s3 s22 wr=>∃j:Nat,j<=q/\s3=.int .i64 0/\s22=.int .i64 j/\k07 (Below w3.heap.size w3 wr)) (fun _ s22 _=>q-ixOf s22)
   case atStart=>exact⟨0,zz1,rfl,rfl,⟨Below.refl _ _⟩⟩
   case round=>
    obtain⟨j,hj,rfl,rfl,Q⟩:=hrel;by_cases hlj:j<q
    ·have e2:(j:Int)<(q:Int):=by omega
     obtain⟨p,hp⟩:∃p,l[j]? = some p:=⟨_,List.getElem?_eq_getElem (by have:=L3.1.2.2;omega)⟩;obtain⟨g0,g1,g2,g3,g4⟩:=k3S l j p hp;obtain⟨pb,po,pc,_,hA,_,_,hc⟩:=(L3.1.2.1.below Q.1).open zz1;simp only[Value.slice.injEq]at hA;obtain⟨rfl,-,rfl⟩:=hA;have hal:=k6j l;have hll:=L3.1.2.2;have c0:=(hc (j*5) zz1).trans g0;have c1:wr.cell? ⟨pb,po+j*5+1,none⟩=some (.int .i64 (p.2.1)):=(hc (j*5+1) zz1).trans g1;have c2:wr.cell? ⟨pb,po+j*5+2,none⟩=some (.int .i64 0):=(hc (j*5+2) zz1).trans g2;have c3:wr.cell? ⟨pb,po+j*5+3,none⟩=some (.int .i64 (p.2.2.1)):=(hc (j*5+3) zz1).trans g3;have c4:wr.cell? ⟨pb,po+j*5+4,none⟩=some (.int .i64 (p.2.2.2)):=(hc (j*5+4) zz1).trans g4;clear hc g0 g1 g2 g3 g4 hp hal hll;go_wp2;refine⟨⟨j+1,zz1,rfl,rfl,⟨Q.1.alloc Q.1.size _⟩⟩,?_⟩;show q-ixOf (.int .i64 ((j:Int)+1))<q-ixOf (.int .i64 (j:Int));exact zz9
    ·have e2:¬(j:Int)<(q:Int):=by omega
     obtain rfl:q=j:=by omega
     go_wp2;go_ret;exact⟨rfl,L3.1.1.trans (Q.1.mono L3.1.1.size)⟩
end
end Go.Proofs.YtdopmlopafgonaaGreatDoor.Own
namespace Go.Proofs.YtdopmlopafgonaaGreatDoor.Own
section
variable{D:PlanD}{v:Nat}{st st':NSt}
theorem k8Z(f:Nat->Bool)(n:Nat):k1m f n=0 ↔ ∀j,j<n->f j=false:=by
 constructor
 ·intro h j hj
  have:=k1V f j n;rw[h,Nat.zero_testBit]at this;simpa[hj] using this.symm
 ·intro h
  apply Nat.eq_of_testBit_eq;intro j;rw[k1V,Nat.zero_testBit];by_cases hj:j<n
  ·simp[h j hj]
  ·simp[hj]
theorem k7X(i j:Nat):askB D st i j=true ↔ ∃k,k<D.lanes/\mayB st i j k=true:=by
 unfold askB mayM;rw[decide_eq_true_iff,Ne,k8Z];constructor
 ·intro h
  rcases Classical.em (∃k,k<D.lanes/\mayB st i j k=true) with h2|h2
  ·exact h2
  ·refine absurd (fun k hk=>?_) h
   cases e:mayB st i j k with
   |false=>rfl
   |true=>exact absurd ⟨k,hk,e⟩ h2
 ·rintro⟨k,hk,h⟩ h2
  rw[h2 k hk]at h;exact zz52
theorem k7O{i k:Nat}(hi:i<np D v)(hk:k<np D v):((k42 D v st).getD i 0).testBit k=askB D st i k:=by
 unfold k42;rw[List.getD_eq_getElem?_getD,List.getElem?_map,List.getElem?_range hi];simp only[Option.map_some,Option.getD_some];rw[k1V];simp[hk]
theorem FedTo.none_{n:Nat}(hw:∀k,k<n->st.waits k=[]):∀{m:Nat}{s:NSt},m<=n->FedTo D v st m s->s=st
 |0,s,_,f=>f
 |m+1,s,hm,f=>by
  obtain⟨s1,f1,f2⟩:=f;obtain rfl:=FedTo.none_ hw (m:=m) zz1 f1;rcases f2 with⟨_,h⟩|⟨_,_,h⟩|⟨x,r,_,h,_⟩
  ·exact h
  ·exact h
  ·rw[hw m zz1]at h;cases h
theorem MovesTo.none_{ms:Nat->Int}:∀{n:Nat}{s':NSt}{os:List OutP},(∀i,i<n->ms i<0)->MovesTo D v ms n st s' os->s'=st/\os=[]
 |0,s',os,_,h=>h
 |n+1,s',os,hm,h=>by
  obtain⟨s1,o1,o2,h1,h2,rfl⟩:=h;obtain⟨rfl,rfl⟩:=MovesTo.none_ (n:=n) (fun i hi=>hm i zz1) h1;have:=hm n zz1;rcases h2 with⟨h0,_⟩|⟨_,rfl,rfl⟩
  ·exact zz1
  ·exact⟨rfl,rfl⟩
theorem MovesTo.one_{ms:Nat->Int}{i0:Nat}(h0:0<=ms i0):∀{n:Nat}{s':NSt}{os:List OutP},i0<n->(∀i,i<n->i≠i0->ms i<0)->MovesTo D v ms n st s' os->MoveRel D v i0 (ms i0).toNat st s' os
 |0,s',os,h,_,_=>by omega
 |n+1,s',os,hn,hm,h=>by
  obtain⟨s1,o1,o2,h1,h2,rfl⟩:=h;by_cases e:i0=n
  ·subst e
   obtain⟨rfl,rfl⟩:=MovesTo.none_ (n:=i0) (fun i hi=>hm i zz1 zz1) h1;rcases h2 with⟨_,h2⟩|⟨h2,_⟩
   ·exact h2
   ·exact zz1
  ·have h3:=MovesTo.one_ h0 (n:=n) zz1 (fun i hi=>hm i zz1) h1
   have:=hm n zz1 (fun e2=>e e2.symm);rcases h2 with⟨h4,_⟩|⟨_,rfl,rfl⟩
   ·exact zz1
   ·rw[List.append_nil];exact h3
theorem k8q{os:List OutP}(hw:∀k,k<D.lanes->st.waits k=[])(hq:∀a,st.q a=[])(t:TickRel D v st st' os):st' = { st with ticks:=st.ticks+1 }/\os=if(st.ticks+1) % D.every=0 then k1f D v st (np D v) else[]:=by
 obtain⟨s1,ms,s2,o2,hf,hm,_,hmv,rfl,rfl⟩:=t;obtain rfl:=FedTo.none_ hw (Nat.le_refl _) hf;have h:∀i,i<np D v->ms i<0:=fun i hi=>by
  rcases hm i hi with e|⟨k,hk,e,hb⟩
  ·exact zz1
  ·rw[k7O hi hk,k7X]at hb
   obtain⟨j,_,hj⟩:=hb;simp[mayB,hq]at hj
 obtain⟨rfl,rfl⟩:=MovesTo.none_ h hmv;exact⟨rfl,rfl⟩
def k0L(st:NSt)(i0 j0:Nat)(x:Pk):NSt:=if j0=0 then k21 (k0F (k0N st i0 0 0 []) i0 0) x else k3n (k0F (k0N st i0 j0 0 []) i0 0) j0 0
def out1(D:PlanD)(v:Nat)(st:NSt)(j0:Nat)(x:Pk):List OutP:=if j0=0 then[] else[(k0G D v j0,(k2H 0 (st.snd j0 0).1 x).bytes)]
theorem ka7(G:Good D){i0 j0:Nat}{x:Pk}(hi:i0<np D v)(hj:j0<np D v)(hq:∀a,st.q a=if a=(i0,j0,0) then[x] else[])(hu:j0=0\/(st.snd j0 0).1<(st.snd j0 0).2){ms:Nat->Int}{s2:NSt}{o2:List OutP}
 (hm:k2W (k42 D v st) (np D v) ms) (hs:∀i0 k0,k2k (k42 D v st) (np D v) i0 k0->ms i0=(k0:Nat)) (hmv:MovesTo D v ms (np D v) st s2 o2):s2=k0L st i0 j0 x/\o2=out1 D v st j0 x:=by
 have hl:=G.l0;have hb:∀i j k,mayB st i j k=true ↔ i=i0/\j=j0/\k=0:=fun i j k=>by
  unfold mayB;rw[hq];by_cases e:(i,j,k)=(i0,j0,0)
  ·rw[if_pos e]
   simp only[Prod.mk.injEq]at e;obtain⟨rfl,rfl,rfl⟩:=e;rcases hu with rfl|hu
   ·exact zz6
   ·simp[hu]
  ·rw[if_neg e]
   simp only[Prod.mk.injEq]at e;simp[e]
 have ha:∀i,i<np D v->∀k,k<np D v->((k42 D v st).getD i 0).testBit k=(i == i0 && k == j0):=fun i h1 k h2=>by
  rw[k7O h1 h2];rw[Bool.eq_iff_iff,k7X];simp only[hb,Bool.and_eq_true,beq_iff_eq];constructor
  ·rintro⟨_,_,a,b,_⟩;exact⟨a,b⟩
  ·rintro⟨a,b⟩;exact⟨0,zz1,a,b,rfl⟩
 have hm0:=hs i0 j0 ⟨hi,hj,ha⟩;have hmn:∀i,i<np D v->i≠i0->ms i<0:=fun i h1 h2=>by
  rcases hm i h1 with e|⟨k,hk,e,hb2⟩
  ·exact zz1
  ·rw[ha i h1 k hk]at hb2
   simp only[Bool.and_eq_true,beq_iff_eq]at hb2;exact absurd hb2.1 h2
 have mv:=MovesTo.one_ zz1 hi hmn hmv;rw[hm0,Int.toNat_natCast]at mv;rcases mv with⟨h,_,_⟩|⟨k,y,r,hk,hbk,hqk,h⟩
 ·have:=h 0 zz1
  rw[(hb i0 j0 0).2 ⟨rfl,rfl,rfl⟩]at this;cases this
 ·obtain⟨_,_,rfl⟩:=(hb _ _ _).1 hbk
  rw[hq,if_pos rfl]at hqk;simp only[List.cons.injEq]at hqk;obtain⟨rfl,rfl⟩:=hqk;unfold k0L out1;rcases h with⟨h0,rfl,rfl⟩|⟨h0,rfl,rfl⟩
  ·subst h0;exact⟨by rw[if_pos rfl],by rw[if_pos rfl]⟩
  ·exact⟨by rw[if_neg h0],by rw[if_neg h0]⟩
theorem kbt(G:Good D){i0 j0:Nat}{x:Pk}{os:List OutP}(hw:∀k,k<D.lanes->st.waits k=[])(hi:i0<np D v)(hj:j0<np D v)(hq:∀a,st.q a=if a=(i0,j0,0) then[x] else[])(hu:j0=0\/(st.snd j0 0).1<(st.snd j0 0).2)(t:TickRel D v st st' os) :
 st' = { k0L st i0 j0 x with ticks:=(k0L st i0 j0 x).ticks+1 }/\os=out1 D v st j0 x++(if((k0L st i0 j0 x).ticks+1) % D.every=0 then k1f D v (k0L st i0 j0 x) (np D v) else[]):=by
 obtain⟨s1,ms,s2,o2,hf,hm,hs,hmv,rfl,rfl⟩:=t;obtain rfl:=FedTo.none_ hw (Nat.le_refl _) hf;obtain⟨rfl,rfl⟩:=ka7 G hi hj hq hu hm hs hmv;exact⟨rfl,rfl⟩
theorem k5w(k:Nat)(h:∀j,st.q (0,j,k)=[]):∀n,k43 st k n=0
 |0=>rfl
 |n+1=>by simp[k43,k5w k h n,h]
def fed1(D:PlanD)(v:Nat)(st:NSt)(x:Pk):NSt:={ st with waits:=upd st.waits 0 [],q:=updw st.q (0,tw D v (dstN x),0) [x] }
theorem k9m(G:Good D){x:Pk}(hw0:st.waits 0=[x])(hw:∀k,1<=k->k<D.lanes->st.waits k=[])(hq:∀a,st.q a=[]):∀{n:Nat}{s:NSt},1<=n->n<=D.lanes->FedTo D v st n s->s=fed1 D v st x
 |0,s,h,_,_=>by omega
 |n+1,s,_,hn,f=>by
  obtain⟨s1,f1,f2⟩:=f;have hr:=G.r0;by_cases e:n=0
  ·subst e
   obtain rfl:s1=st:=f1;rcases f2 with⟨h,_⟩|⟨_,h,_⟩|⟨y,r,_,h,q',rfl,hq'⟩
   ·rw[k5w 0 (fun j=>hq _)]at h;omega
   ·rw[hw0]at h;cases h
   ·rw[hw0]at h
    simp only[List.cons.injEq]at h;obtain⟨rfl,rfl⟩:=h;rcases hq' with rfl|⟨_,a,ha⟩
    ·unfold fed1
     rw[hq (0,tw D v (dstN x),0)];rfl
    ·exact absurd (hq a) ha
  ·obtain rfl:=k9m G hw0 hw hq (n:=n) zz1 zz1 f1
   rcases f2 with⟨_,h⟩|⟨_,_,h⟩|⟨y,r,_,h,_⟩
   ·exact h
   ·exact h
   ·have h2:(upd st.waits 0 []) n=y :: r:=h
    rw[k06 _ _ e,hw n zz1 zz1]at h2;cases h2
theorem k8d(G:Good D){x:Pk}{os:List OutP}(hw0:st.waits 0=[x])(hw:∀k,1<=k->k<D.lanes->st.waits k=[])(hq:∀a,st.q a=[])(hj:tw D v (dstN x)<np D v)(hu:tw D v (dstN x)=0\/(st.snd (tw D v (dstN x)) 0).1<(st.snd (tw D v (dstN x)) 0).2)(t:TickRel D v st st' os) :
 st' = { k0L (fed1 D v st x) 0 (tw D v (dstN x)) x with ticks:=(k0L (fed1 D v st x) 0 (tw D v (dstN x)) x).ticks+1 }/\os=out1 D v st (tw D v (dstN x)) x++(if((k0L (fed1 D v st x) 0 (tw D v (dstN x)) x).ticks+1) % D.every=0 then k1f D v (k0L (fed1 D v st x) 0 (tw D v (dstN x)) x) (np D v) else[]):=by
 obtain⟨s1,ms,s2,o2,hf,hm,hs,hmv,rfl,rfl⟩:=t;obtain rfl:=k9m G hw0 hw hq G.l0 (Nat.le_refl _) hf;obtain⟨rfl,rfl⟩:=ka7 (st:=fed1 D v st x) (i0:=0) (j0:=tw D v (dstN x)) (x:=x) G (by unfold np;omega) hj (fun a=>by
  show updw st.q _ _ a=_;unfold updw;rw[hq]) hu hm hs hmv
 exact⟨rfl,rfl⟩
theorem k8M(i0 j0:Nat)(x:Pk)(i k:Nat):(k0L st i0 j0 x).snd i k=if j0≠0/\i=j0/\k=0 then((st.snd i k).1+1,(st.snd i k).2) else st.snd i k:=by
 unfold k0L;by_cases e:j0=0
 ·rw[if_pos e,if_neg (fun h=>h.1 e)]
  show(k0F _ _ _).snd i k=_;rw[k3k];rfl
 ·rw[if_neg e]
  show upd2 (k0F _ _ _).snd j0 0 _ i k=_;rw[k3k];by_cases e2:i=j0/\k=0
  ·obtain⟨rfl,rfl⟩:=e2
   rw[k0l,if_pos ⟨e,rfl,rfl⟩];rfl
  ·rw[k0h _ _ _ _ e2,if_neg (fun h=>e2 h.2)];rfl
theorem k91(i0 j0:Nat)(x:Pk)(i k:Nat):(k0L st i0 j0 x).rcv i k=if i0≠0/\i=i0/\k=0 then((st.rcv i k).1,if(st.rcv i k).2=0 then 0 else(st.rcv i k).2-1) else st.rcv i k:=by
 have h:(k0L st i0 j0 x).rcv=(k0F (k0N st i0 j0 0 []) i0 0).rcv:=by
  unfold k0L;by_cases e:j0=0
  ·rw[if_pos e,e];rfl
  ·rw[if_neg e];rfl
 rw[h];unfold k0F;by_cases e:i0=0
 ·rw[if_pos e,if_neg (fun h=>h.1 e)];rfl
 ·rw[if_neg e]
  show upd2 _ i0 0 _ i k=_;by_cases e2:i=i0/\k=0
  ·obtain⟨rfl,rfl⟩:=e2
   rw[k0l,if_pos (show i≠0/\i=i/\(0:Nat)=0 from⟨e,rfl,rfl⟩)];rfl
  ·rw[k0h _ _ _ _ e2,if_neg (fun h=>e2 h.2)];rfl
theorem kaD(i0 j0:Nat)(x:Pk)(a:Way):(k0L st i0 j0 x).q a=if a=(i0,j0,0) then[] else st.q a:=by
 unfold k0L;by_cases e:j0=0
 ·rw[if_pos e,e]
  show(k0F _ _ _).q a=_;rw[k5X];rfl
 ·rw[if_neg e]
  show(k0F _ _ _).q a=_;rw[k5X];rfl
theorem k3L(i0 j0:Nat)(x:Pk):(k0L st i0 j0 x).waits=if j0=0 then upd st.waits 3 (st.waits 3++[x]) else st.waits:=by
 unfold k0L;by_cases e:j0=0
 ·rw[if_pos e,if_pos e]
  show upd (k0F _ _ _).waits 3 ((k0F _ _ _).waits 3++[x])=_;rw[k26];rfl
 ·rw[if_neg e,if_neg e]
  show(k0F _ _ _).waits=_;rw[k26];rfl
end
end Go.Proofs.YtdopmlopafgonaaGreatDoor.Own
