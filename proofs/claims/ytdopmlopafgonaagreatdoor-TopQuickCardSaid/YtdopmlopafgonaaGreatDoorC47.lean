/- TopQuick: one packet alone is brought from host to host (a part of the walks and of the plain laws). -/
import Derived.Test.YtdopmlopafgonaaGreatDoorC0
import Derived.Test.YtdopmlopafgonaaGreatDoorC43
import Derived.Test.YtdopmlopafgonaaGreatDoorC46
set_option linter.unusedVariables false
set_option linter.unusedSimpArgs false
set_option maxHeartbeats 4000000
set_option maxRecDepth 100000
namespace Go.Proofs.YtdopmlopafgonaaGreatDoor.Own
open Go.RowKit Go.Proofs.YtdopmlopafgonaaGreatDoorW.PrintWords Go.Proofs.YtdopmlopafgonaaGreatDoorW.PrintLast Go.Proofs.YtdopmlopafgonaaGreatDoorW.PrintMore
open Go.Proofs.YtdopmlopafgonaaGreatDoor.PTopQuick
theorem k3W {α : Type} {d:Kd α} {e base:Nat} {ok:Nat->Prop} {w:World} {v:Value} {xs:List α} (h:d.R e w base ok v xs):∃ inner g ok',Row w v e d.sz xs.length inner g/\(∀ b,g=some b->base<=b)/\Reps (d.M w base ok') d.sz xs inner:=by
 obtain ⟨_,inner,⟨hl,ho⟩,hr⟩:=h;rcases ho with ⟨hv,hn⟩ | ⟨g,cap,cur,hv,hg,hh,hc,_,hs,ht⟩
 · exact ⟨inner,none,_,⟨hl,.inl ⟨hv,hn,rfl⟩⟩,zz17,hr⟩
 · refine ⟨inner,some g,_,⟨hl,.inr ⟨g,0,cap,cur,rfl,hv,hh,hc,zz1,fun j hj=>?_⟩⟩,fun b e=>by cases e;exact hg,hr⟩
   rw [Nat.zero_add,<- ht,List.getElem?_take,if_pos (by rw [<- hl];exact hj)];exact zz17
theorem k64 {inner:List Value} {l:List Nat} {w:World} {base:Nat} {ok:Nat->Prop} (h:Reps ((Kd.int .i64).M w base ok) (Kd.int .i64).sz (ints l) inner):inner=i64s l:=by
 obtain ⟨h1,h2⟩:=h;have hs:(Kd.int .i64).sz=1:=rfl;rw [hs,Nat.mul_one] at h1;have hl:(ints l).length=l.length:=by simp [ints]
 refine List.ext_getElem? fun j=>?_
 by_cases hj:j<l.length
 · have h3:=h2 j (l[j]:Int) (by unfold ints;rw [List.getElem?_map,List.getElem?_eq_getElem hj];rfl)
   have h4:(inner.drop (j*1)).take 1=[Value.int .i64 (l[j]:Nat)]:=h3;rw [Nat.mul_one] at h4;have h5:((inner.drop j).take 1)[0]? = some (Value.int .i64 (l[j]:Nat)):=by rw [h4];rfl
   rw [List.getElem?_take,if_pos zz1,List.getElem?_drop,Nat.add_zero] at h5;rw [h5];simp [i64s,hj]
 · rw [List.getElem?_eq_none zz1,List.getElem?_eq_none zz40]
theorem k7V {inner:List Value} {E:List S131} {l:List (Nat × Nat)} {w:World} {base:Nat} {ok:Nat->Prop} (h:Reps (k131.M w base ok) k131.sz E inner) (he:k24 E=l.map fun p=>((p.1:Int),(p.2:Int))):inner=k0d l:=by
 obtain ⟨h1,h2⟩:=h;have hs:k131.sz=2:=rfl;rw [hs] at h1;have hl:E.length=l.length:=by have:=congrArg List.length he;simpa [k24] using this
 have he2:=k0Y l;have key:∀ j,j<l.length->inner[j*2]? = (k0d l)[j*2]? /\ inner[j*2+1]? = (k0d l)[j*2+1]?:=fun j hj=>by
  have hE:E[j]? = some E[j]:=List.getElem?_eq_getElem zz1;have h3:=k84 (h2 j _ hE);have h6:(k24 E)[j]? = (l.map fun p=>((p.1:Int),(p.2:Int)))[j]?:=by rw [he]
  unfold k24 at h6;rw [List.getElem?_map,hE,List.getElem?_map,List.getElem?_eq_getElem hj] at h6;simp only [Option.map_some,Option.some.injEq,Prod.mk.injEq] at h6;obtain ⟨g0,g1⟩:=k0L l j l[j] (List.getElem?_eq_getElem hj);have h7:((inner.drop (j*2)).take 2)[0]? = some (.int .i64 E[j].f0):=by
   have:(inner.drop (j*2)).take 2=[.int .i64 E[j].f0,.int .i64 E[j].f1]:=h3;rw [this];rfl
  have h8:((inner.drop (j*2)).take 2)[1]? = some (.int .i64 E[j].f1):=by
   have:(inner.drop (j*2)).take 2=[.int .i64 E[j].f0,.int .i64 E[j].f1]:=h3;rw [this];rfl
  rw [List.getElem?_take,if_pos zz1,List.getElem?_drop] at h7 h8;rw [g0,g1,<- h6.1,<- h6.2];exact ⟨h7,h8⟩
 refine List.ext_getElem? fun i=>?_
 by_cases hi:i<l.length*2
 · rcases Nat.mod_two_eq_zero_or_one i with e | e
   · have:=(key (i / 2) zz1).1
     rwa [show i / 2*2=i by omega] at this
   · have:=(key (i / 2) zz1).2
     rwa [show i / 2*2+1=i by omega] at this
 · rw [List.getElem?_eq_none zz1,List.getElem?_eq_none zz1]
theorem kaA {w:World} {A:Option Addr} {n c:Nat} {ws:List Nat} {g:Option Nat} (h:Row w (.slice A n c) 3 1 n (i64s ws) g) (hn:ws.length=n) (hb:n<=1000):Kd.C (Kd.int .i64) w A n (ints ws):=by
 refine ⟨by simp [ints,hn],zz1,fun h0=>?_⟩;obtain ⟨b,off,cap,_,hA,_,_,hc⟩:=h.open h0;simp only [Value.slice.injEq] at hA;obtain ⟨rfl,-,rfl⟩:=hA;refine ⟨_,rfl,fun j p hp=>⟨[.int .i64 p],rfl,rfl,fun i u hu=>?_⟩⟩;obtain ⟨rfl,rfl⟩:i=0/\u = .int .i64 p:=by
  cases i with
  | zero=>simp at hu;exact ⟨rfl,hu.symm⟩
  | succ i=>simp at hu
 have hj:=(List.getElem?_eq_some_iff.1 hp).1;have hs:(Kd.int .i64).sz=1:=rfl;have hl:j<ws.length:=by simpa [ints] using hj
 have:=hc j zz40;rw [hs];rw [Addr.add_lit];show w.cell? ⟨b,off+(j*1+0),none⟩=_;rw [show off+(j*1+0)=off+j by omega,this];unfold ints at hp;rw [List.getElem?_map,List.getElem?_eq_getElem hl] at hp;simp only [Option.map_some,Option.some.injEq] at hp;simp [i64s,hl,<- hp]
def k1z (l:List Nat) (a1 a2 s:Nat):PlanD:=k8h (k0S l) (1+a2 % 3) (1+a1 % 8) (1+a1 / 8 % 8) (1+a2 / 3 % 4) (1+a2 / 12 % 8) s (wgts a2 (1+a2 % 3))
theorem k2O (l:List Nat) (a1 a2 s:Nat) (h:s<65536):Good (k1z l a1 a2 s):=by
 refine k89 (k0S l) (k4b l).1 (k4b l).2 (k7C l) _ _ _ _ _ _ _ zz1 zz1 zz1 zz1 zz1 zz1 zz1 zz1 zz1 zz1 h (by simp [wgts]) (fun x hx=>?_);obtain ⟨i,_,rfl⟩:=List.mem_map.1 hx;exact zz1
theorem ka1 {w:World} {base:Nat} {l:List Nat} {a1 a2 s:Nat} {E:List S131} {v1 v8 v10:Value} {ok1 ok8 ok10:Nat->Prop} (hE:k24 E=(k0T (k0S l)).map fun p=>((p.1:Int),(p.2:Int)))
 (r1:Kd.R k131 131 w base ok1 v1 E) (r8:Kd.R (Kd.int .i64) 3 w base ok8 v8 (ints (wgts a2 (1+a2 % 3)))) (r10:Kd.R (Kd.slice 3 (Kd.int .i64)) 29 w base ok10 v10 ((k0Z (k0S l)).map ints)) :
 ∃ E1 k1 E2 k2 E3 k3,v1 = .slice E1 (k0T (k0S l)).length k1/\v8 = .slice E2 (1+a2 % 3:Nat) k2/\v10 = .slice E3 (k0Z (k0S l)).length k3/\PlanV w (fun b=>base<=b) (pagg (k1z l a1 a2 s) E1 k1 E2 k2 E3 k3) (k1z l a1 a2 s):=by
 obtain ⟨i1,g1,_,R1,B1,Q1⟩:=k3W r1;obtain ⟨i8,g8,_,R8,B8,Q8⟩:=k3W r8;obtain ⟨i10,g10,ok',R10,B10,Q10⟩:=k3W r10;have e1:=k7V Q1 hE;have e8:=k64 Q8;subst e1 e8;have l1:E.length=(k0T (k0S l)).length:=by have:=congrArg List.length hE;simpa [k24] using this
 have l8:(ints (wgts a2 (1+a2 % 3))).length=1+a2 % 3:=by simp [ints,wgts]
 have l10:((k0Z (k0S l)).map ints).length=(k0Z (k0S l)).length:=by simp
 rw [l1] at R1;rw [l8] at R8;rw [l10] at R10;obtain ⟨E1,k1,rfl,_⟩:=R1.size;obtain ⟨E2,k2,rfl,_⟩:=R8.size;obtain ⟨E3,k3,rfl,_⟩:=R10.size;have hw:(wgts a2 (1+a2 % 3)).length=1+a2 % 3:=by simp [wgts]
 obtain ⟨gs,hgs⟩:=k8A (D:=k1z l a1 a2 s) (W:=w) (rs:=i10) (lo:=base) (fun i r hr=>by
  have hr':(k0Z (k0S l))[i]? = some r:=hr;have h2:=Q10.2 i (ints r) (by rw [List.getElem?_map,hr'];rfl);obtain ⟨v,hv,hR⟩:=h2;obtain ⟨ir,gr,_,Rr,Br,Qr⟩:=k3W hR;have er:=k64 Qr;subst er;have hs:(Kd.slice 3 (Kd.int .i64)).sz=1:=rfl;rw [hs,Nat.mul_one] at hv;have h3:((i10.drop i).take 1)[0]? = some v:=by rw [hv];rfl
  rw [List.getElem?_take,if_pos zz1,List.getElem?_drop,Nat.add_zero] at h3;have hl:(ints r).length=r.length:=by simp [ints]
  rw [hl] at Rr;exact ⟨v,h3,gr,Rr,Br⟩)
 refine ⟨E1,k1,E2,k2,E3,k3,rfl,rfl,rfl,.slice E1 (k0T (k0S l)).length k1,.slice E2 (1+a2 % 3:Nat) k2,.slice E3 (k0Z (k0S l)).length k3,i10,g1,g8,g10,gs,?_,R1,?_,R10,hgs,B1,B8,B10⟩
 · show pagg _ _ _ _ _ _ _=_
   unfold pagg k1z k8h;simp only [hw]
 · show Row w _ 3 1 (wgts a2 (1+a2 % 3)).length _ _
   rw [hw];exact R8
theorem k4W (A:Option Addr) (c:Nat) (l:List Nat) (hx:∀ x∈l,x<256) (a1 a2 s:Nat) (w:World) (h1:a1<256) (h2:a2<256) (h3:s<65536) (hr:Kd.C (Kd.int .u8) w A (ints l).length (ints l)) (hc:(ints l).length<=c) :
 Calls Tryz.prog 15 #[.slice A (ints l).length c,.int .u8 a1,.int .u8 a2,.int .u16 s] w fun e w'=>∃ v,e = .returned v/\PlanV w' (fun b=>w.heap.size<=b) v (k1z l a1 a2 s)/\Below w.heap.size w w':=by
 have HR:=Ab (show _/\_ from ⟨hr,hc⟩);have HT:=Ab (show _/\_/\_ from ⟨k4b l,k7C l,kbr l hx⟩);have L1:=Ab ((Below.refl w.heap.size w).alloc (Nat.le_refl _) (.cells #[.int .i64 0,.slice none 0 0,.int .i64 0,.int .i64 0,.int .i64 0,.int .i64 0,.int .i64 0,.int .i64 0,.slice none 0 0,.int .u16 0,.slice none 0 0] 32));have Z1:=Ab (heap_alloc_new w (.cells #[.int .i64 0,.slice none 0 0,.int .i64 0,.int .i64 0,.int .i64 0,.int .i64 0,.int .i64 0,.int .i64 0,.slice none 0 0,.int .u16 0,.slice none 0 0] 32));clear hr hc hx;go_enter Tryz.func15,Tryz.ntmps15
 go_wp2_with fail
 go_at_call 41;refine (k7P a1 a2 s _ h1 h2 h3).mono ?_;rintro e w3 ⟨A1,n1,c1,A2,c2,A3,n3,c3,gw,rfl,rw3,hgw,hb⟩;have WW:=Ab (show Kd.C (Kd.int .i64) w3 A2 (1+a2 % 3) (ints (wgts a2 (1+a2 % 3)))/\1+a2 % 3<=c2 from ⟨kaA rw3 (by simp [wgts]) zz1,by obtain ⟨A',c',e,h⟩:=rw3.size;simp only [Value.slice.injEq] at e;omega⟩);have WB:=Ab (show Below w.heap.size w w3/\w3.heap[w.heap.size]? = some (Obj.cells _ 32 (0,0)) from ⟨L1.out.trans (hb.mono L1.out.size),(hb.block _ zz17).trans Z1.out⟩);clear rw3 hgw hb
 go_wp2_with fail
 go_at_call 42;refine (rOf.calls 20 A c (ints l) (ints (k0S l)) _ (Kd.C_below HR.out.1 WB.out.1) HR.out.2 HT.out.2.2).mono ?_;rintro e w4 ⟨vT,rfl,hT,hb⟩;obtain ⟨AT,cT,rfl,hcT,hrT⟩:=Kd.R_reads hT;have TL:=Ab (show _/\_/\Below w.heap.size w w4/\w4.heap[w.heap.size]? = some (Obj.cells _ 32 (0,0)) from ⟨hcT,hrT,WB.out.1.trans (hb.mono WB.out.1.size),(hb.block _ (k03 WB.out.2)).trans WB.out.2⟩);have WL:=Ab (show _/\Kd.C (Kd.int .i64) w4 A2 (1+a2 % 3) (ints (wgts a2 (1+a2 % 3)))/\_ from ⟨show (ints (wgts a2 (1+a2 % 3))).length=1+a2 % 3 by simp [ints,wgts],Kd.C_below WW.out.1 hb,WW.out.2⟩);clear hT hb hcT hrT
 go_wp2_with fail
 go_at_call 40;obtain ⟨E,he,hE⟩:=ka4 (k0S l) HT.out.1.1 HT.out.1.2 HT.out.2.1 2 (List.replicate n1 z131) (1+(a2:Int) % 3) (1+(a1:Int) % 8) (1+(a1:Int) / 8 % 8) (1+(a2:Int) / 3 % 4) (1+(a2:Int) / 12 % 8) 64 (ints (wgts a2 (1+a2 % 3))) s (List.replicate n3 []) (by simp [ints,wgts];omega);have hl:=rLay.calls 100 2 A1 c1 (List.replicate n1 z131) (1+(a2:Int) % 3) (1+(a1:Int) % 8) (1+(a1:Int) / 8 % 8) (1+(a2:Int) / 3 % 4) (1+(a2:Int) / 12 % 8) 64 A2 c2 (ints (wgts a2 (1+a2 % 3))) s A3 c3 (List.replicate n3 []) AT cT (ints (k0S l)) _ _ _ _ _ _ _ _ _ _ _ _ w4 (by rw [WL.out.1];exact WL.out.2.1) (by rw [WL.out.1];exact WL.out.2.2) TL.out.2.1 TL.out.1 he;rw [List.length_replicate,List.length_replicate,WL.out.1] at hl;refine hl.mono ?_;rintro e w5 ⟨v1,v8,v10,rfl,r1,r8,r10,hb⟩;obtain ⟨E1,k1,E2,k2,E3,k3,rfl,rfl,rfl,hp⟩:=ka1 (a1:=a1) (s:=s) hE r1 r8 (Kd.S_R r10);have KP:=Ab (show PlanV w5 (fun b=>w.heap.size<b) (pagg (k1z l a1 a2 s) E1 k1 E2 k2 E3 k3) (k1z l a1 a2 s)/\Below w.heap.size w w5 from ⟨hp.mono (fun b h=>Nat.lt_of_lt_of_le (k03 TL.out.2.2.2) h),TL.out.2.2.1.trans (hb.mono TL.out.2.2.1.size)⟩);have ZR:=Ab ((hb.block _ (k03 TL.out.2.2.2)).trans TL.out.2.2.2);have z5:=fun i=>k00 ZR.out i
 have f5:=fun i=>k02 ZR.out i
 have hlt:=k03 ZR.out;clear r1 r8 r10 hb hE he hl hp;go_wp2;obtain ⟨ZF,oF⟩:=kaV (W:=w5) ZR.out rfl (.int .i64 (((k0S l).length:Int)+1)) (.slice E1 (k0T (k0S l)).length k1) (.int .i64 (1+(a2:Int) % 3)) (.int .i64 (1+(a1:Int) % 8)) (.int .i64 (1+(a1:Int) / 8 % 8)) (.int .i64 (1+(a2:Int) / 3 % 4)) (.int .i64 (1+(a2:Int) / 12 % 8)) (.int .i64 64) (.slice E2 (1+a2 % 3:Nat) k2) (.int .u16 s) (.slice E3 (k0Z (k0S l)).length k3);obtain ⟨wf,hwf⟩:∃ wf,wf=k4Z w5 w.heap.size (.int .i64 (((k0S l).length:Int)+1)) (.slice E1 (k0T (k0S l)).length k1) (.int .i64 (1+(a2:Int) % 3)) (.int .i64 (1+(a1:Int) % 8)) (.int .i64 (1+(a1:Int) / 8 % 8)) (.int .i64 (1+(a2:Int) / 3 % 4)) (.int .i64 (1+(a2:Int) / 12 % 8)) (.int .i64 64) (.slice E2 (1+a2 % 3:Nat) k2) (.int .u16 s) (.slice E3 (k0Z (k0S l)).length k3):=⟨_,rfl⟩;rw [<- hwf] at ZF oF;show bodyPost _ _ _ _ _ ((k4Z w5 w.heap.size (.int .i64 (((k0S l).length:Int)+1)) (.slice E1 (k0T (k0S l)).length k1) (.int .i64 (1+(a2:Int) % 3)) (.int .i64 (1+(a1:Int) % 8)) (.int .i64 (1+(a1:Int) / 8 % 8)) (.int .i64 (1+(a2:Int) / 3 % 4)) (.int .i64 (1+(a2:Int) / 12 % 8)) (.int .i64 64) (.slice E2 (1+a2 % 3:Nat) k2) (.int .u16 s) (.slice E3 (k0Z (k0S l)).length k3)).alloc (.cells #[.int .i64 (((k0S l).length:Int)+1),.slice E1 (k0T (k0S l)).length k1,.int .i64 (1+(a2:Int) % 3),.int .i64 (1+(a1:Int) % 8),.int .i64 (1+(a1:Int) / 8 % 8),.int .i64 (1+(a2:Int) / 3 % 4),.int .i64 (1+(a2:Int) / 12 % 8),.int .i64 64,.slice E2 (1+a2 % 3:Nat) k2,.int .u16 s,.slice E3 (k0Z (k0S l)).length k3] 32));rw [<- hwf];have BG:Below wf.heap.size wf (wf.alloc (.cells #[.int .i64 (((k0S l).length:Int)+1),.slice E1 (k0T (k0S l)).length k1,.int .i64 (1+(a2:Int) % 3),.int .i64 (1+(a1:Int) % 8),.int .i64 (1+(a1:Int) / 8 % 8),.int .i64 (1+(a2:Int) / 3 % 4),.int .i64 (1+(a2:Int) / 12 % 8),.int .i64 64,.slice E2 (1+a2 % 3:Nat) k2,.int .u16 s,.slice E3 (k0Z (k0S l)).length k3] 32)):=(Below.refl _ wf).alloc (Nat.le_refl _) _;refine bodyPost_ret (results_cell_row rfl _ _ w.heap.size 32 _ (0,0) _ rfl ((BG.block _ (k03 ZF)).trans ZF) Tryz.underlying32 rfl zz3) rfl ?_;refine ⟨pagg (k1z l a1 a2 s) E1 k1 E2 k2 E3 k3,?_,((KP.out.1.keep (fun b hb hb2=>oF.keep b hb zz1)).mono (fun b hb=>Nat.le_of_lt hb)).below BG,?_⟩
 · unfold pagg k1z k8h
   simp [wgts]
 · refine Below.trans ⟨oF.os.trans KP.out.2.os,oF.tape.trans KP.out.2.tape,oF.output.trans KP.out.2.output,Nat.le_trans KP.out.2.size oF.size,fun b hb=>(oF.keep b (Nat.lt_of_lt_of_le hb KP.out.2.size) zz1).trans (KP.out.2.block b hb)⟩ (BG.mono (Nat.le_trans KP.out.2.size oF.size))
end Go.Proofs.YtdopmlopafgonaaGreatDoor.Own
namespace Go.Proofs.YtdopmlopafgonaaGreatDoor.Own
open Go.RowKit Go.Proofs.YtdopmlopafgonaaGreatDoorW.PrintWords Go.Proofs.YtdopmlopafgonaaGreatDoorW.PrintLast Go.Proofs.YtdopmlopafgonaaGreatDoorW.PrintMore
theorem FabAt.recol {w:World} {o o':Nat->Col} {D:PlanD} {F:FTab} {st:FSt} (h:FabAt w o D F st) (k:k4a o o'):FabAt w o' D F st where
 og:=k _ _ zz17 h.og
 blk:=h.blk
 plan:=h.plan.mono fun b hb=>k _ _ zz17 hb
 hops:=h.hops
 oh:=k _ _ zz17 h.oh
 nodes:=h.nodes
 on:=k _ _ zz17 h.on
 map:=h.map
 om:=k _ _ zz17 h.om
 node:=fun v hv=>(h.node v hv).recol k
 link:=fun a ha=>(h.link a ha).recol k zz17
section
variable {w:World} {o:Nat->Col}
def Began (w:World) (o:Nat->Col) (D:PlanD) (e:Ending) (w':World):Prop:=∃ Y:PTab,e = .returned (.pointer (some ⟨Y.g,0,none⟩))/\∃ o' F,PlayAt w' o' D F Y (fst0 D) [] (.slice none 0 0) none 0/\NewB w.heap.size o w o' w'
theorem k78 (A:Option Addr) (c:Nat) (l:List Nat) (hx:∀ x∈l,x<256) (a1 a2 s:Nat) (h1:a1<256) (h2:a2<256) (h3:s<65536) (hr:Kd.C (Kd.int .u8) w A (ints l).length (ints l)) (hc:(ints l).length<=c) (hf:Fresh o w) (hT:Tab w) (h0:o 0 = .fix) :
 Calls Tryz.prog 6 #[.slice A (ints l).length c,.int .u8 a1,.int .u8 a2,.int .u16 s] w (Began w o (k1z l a1 a2 s)):=by
 have G:=k2O l a1 a2 s h3;have HG:=Ab (show _/\_/\_/\_ from ⟨G,hf,hT,h0⟩);have cp:=k4W A c l hx a1 a2 s w h1 h2 h3 hr hc;obtain ⟨D,hD⟩:∃ D,D=k1z l a1 a2 s:=⟨_,rfl⟩;rw [<- hD] at cp HG ⊢;clear hD hr hc hf hT h0 G;go_enter Tryz.func6,Tryz.ntmps6
 go_wp2_with fail
 go_at_call 15;refine cp.mono ?_;rintro e wp ⟨vp,rfl,hp,hb⟩;obtain ⟨A1,c1,A2,c2,A3,c3,rfl⟩:=hp.shape;have P1:=Ab (show _/\Below w.heap.size w wp from ⟨hp,hb⟩);clear hp hb cp
 go_wp2_with fail
 go_at_call 14;obtain ⟨w1,hw1⟩:∃ w1,w1=wp.alloc (pbox D A1 c1 A2 c2 A3 c3):=⟨_,rfl⟩;have B1:=Ab (show Below wp.heap.size wp w1 from by rw [hw1];exact (Below.refl _ wp).alloc (Nat.le_refl _) _);have Z1:=Ab (show w1.heap[wp.heap.size]? = some (pbox D A1 c1 A2 c2 A3 c3) from by rw [hw1];exact heap_alloc_new wp _);rw [<- hw1];clear hw1;have F1:=Ab (show Fresh o w1 from HG.out.2.1.blw (P1.out.2.trans (B1.out.mono P1.out.2.size)));refine (k8P (o:=o) _ _ (P1.out.1.below B1.out) HG.out.1 F1.out).mono ?_;rintro e w3 ⟨F,o2,rfl,hF,hN⟩;have F3:=Ab (show _/\_ from ⟨hF,hN⟩);have Z3:=Ab ((F3.out.2.below.block _ (k03 Z1.out)).trans Z1.out);have z3:=fun j=>k00 Z3.out j
 have hl3:=k03 Z3.out;clear hF hN;go_wp2;obtain ⟨Y,hY⟩:∃ Y:PTab,Y=⟨w3.heap.size,A1,c1,A2,c2,A3,c3⟩:=⟨_,rfl⟩;obtain ⟨w4,hw4⟩:∃ w4,w4=w3.alloc (k5s D F ⟨w3.heap.size,A1,c1,A2,c2,A3,c3⟩ (.slice none 0 0) 0):=⟨_,rfl⟩;have B4:Below w3.heap.size w3 w4:=by rw [hw4];exact (Below.refl _ w3).alloc (Nat.le_refl _) _
 have Z4:w4.heap[w3.heap.size]? = some (k5s D F Y (.slice none 0 0) 0):=by rw [hw4,hY];exact heap_alloc_new w3 _
 show bodyPost _ _ _ _ _ (w3.alloc (k5s D F ⟨w3.heap.size,A1,c1,A2,c2,A3,c3⟩ (.slice none 0 0) 0));rw [<- hw4];have hs4:w4.heap.size=w3.heap.size+1:=by rw [hw4];simp
 clear hw4;have s1:w.heap.size<=wp.heap.size:=P1.out.2.size;have s2:wp.heap.size<=w1.heap.size:=B1.out.size;have s3:w1.heap.size<=w3.heap.size:=F3.out.2.below.size;obtain ⟨o',ho'⟩:∃ o':Nat->Col,o'=fun b=>if w.heap.size<=b/\b<wp.heap.size then .fix else o2 b:=⟨_,rfl⟩
 have rc:k4a o2 o':=fun b c hc e=>by
  rw [ho'];show (if _ then Col.fix else o2 b)=c;rw [if_neg];exact e;rintro ⟨e1,e2⟩;rw [F3.out.2.own b zz1,HG.out.2.1 b e1] at e;exact hc e.symm
 have fx:∀ b,w.heap.size<=b->b<wp.heap.size->o' b = .fix:=fun b e1 e2=>by rw [ho'];exact if_pos ⟨e1,e2⟩
 have old:∀ b,b<w.heap.size->o' b=o b:=fun b hb=>by
  rw [ho'];show (if _ then Col.fix else o2 b)=_;rw [if_neg zz1];exact F3.out.2.own b zz1
 have Fr:Fresh o' w4:=fun b hb=>by
  rw [ho'];show (if _ then Col.fix else o2 b)=_;rw [if_neg zz1];exact F3.out.2.fresh b zz1
 have FA:=(F3.out.1.blw F3.out.2.fresh B4).recol rc;have bw4:Below w.heap.size w w4:=P1.out.2.trans ((B1.out.trans ((F3.out.2.below.trans (B4.mono s3)).mono s2)).mono s1);have P4:=((P1.out.1.inside.below B1.out).below F3.out.2.below).below B4;have ht:=HG.out.2.2.1.lt;go_ret;refine ⟨Y,by rw [hY];rfl,o',F,⟨?_,by rw [hY];exact Z4.trans (by rw [hY]),?_,Row.nil _ _ _,zz17,FA,Fr,HG.out.2.2.1.below bw4,by rw [old 0 ht];exact HG.out.2.2.2⟩,⟨bw4,old,Fr⟩⟩
 · rw [hY,ho']
   show (if w.heap.size<=w3.heap.size/\w3.heap.size<wp.heap.size then Col.fix else o2 w3.heap.size)=_;rw [if_neg (show ¬ (w.heap.size<=w3.heap.size/\w3.heap.size<wp.heap.size) by omega)];exact F3.out.2.fresh _ (Nat.le_refl _)
 · rw [hY];exact P4.mono (fun b h=>fx b h.1 h.2)
end
section
variable {w:World} {o:Nat->Col} {D:PlanD}
theorem k54 (B:Nat->Prop) (x y:Nat) (A1:Option Addr) (c1:Nat) (A2:Option Addr) (c2:Nat) (A3:Option Addr) (c3:Nat) (hP:PlanV w B (pagg D A1 c1 A2 c2 A3 c3) D) (G:Good D) (hx:x<D.nodes) (hy:y∈D.bs x) :
 Calls Tryz.prog 77 #[pagg D A1 c1 A2 c2 A3 c3,.int .i64 x,.int .i64 y] w fun e w'=>e = .returned (.int .i64 (k07 D x y:Nat))/\Below w.heap.size w w':=by
 have L1:=Ab ((Below.refl w.heap.size w).alloc (Nat.le_refl _) (pbox D A1 c1 A2 c2 A3 c3));have HY:=Ab (show _/\_ from ⟨hy,G⟩);have cb:=k1n B _ D x _ (hP.below L1.out) G hx;have hb5:=G.bl x hx;obtain ⟨q,hq⟩:∃ q,q=(D.bs x).idxOf y:=⟨_,rfl⟩;have hq5:q<=5:=by have:=List.idxOf_lt_length_of_mem hy;omega
 have HQ:=Ab hq;clear hP G hy hq;go_enter Tryz.func77,Tryz.ntmps77
 go_wp2_with (first
  | (go_at_call 113;refine (kaU _ (D.bs x) y _ _ R2.out.1 zz1).mono ?_;rintro e w3 ⟨⟨r,rfl,hr⟩,rfl⟩;have er:=k2S (k3V D x) HY.out.1 hr;rw [<- HQ.out] at er;subst er;clear hr)
  | (go_at_call 63;refine cb.mono ?_;rintro e w2 ⟨pb,po,c,rfl,hr,_,hb⟩;have R2:=Ab (show _/\Below w.heap.size w w2 from ⟨hr,L1.out.trans (hb.mono L1.out.size)⟩);clear hr hb cb))
 go_ret;refine ⟨?_,R2.out.2⟩;show Ending.returned (.int .i64 ((q:Int)+1))=_;unfold k07;rw [<- HQ.out];push_cast;rfl
end
section
variable {w:World} {o:Nat->Col} {v:Nat} {D:PlanD} {T:NTab} {st:NSt}
theorem k8i (H:NodeAt w o v D T st) :
 Calls Tryz.prog 74 #[.pointer (some ⟨T.g,0,none⟩)] w fun e w'=>e = .returned (.pointer (some ⟨T.rings,0,none⟩))/\w=w':=by
 have b0:=fun j=>k00 H.blk j
 clear H;go_enter Tryz.func74,Tryz.ntmps74;exact zz12
theorem k7b (i k:Nat) (H:NodeAt w o v D T st) (G:Good D) (hv:v<D.nodes) (hf:Fresh o w) (h1:1<=i) (hi:i<np D v) (hk:k<D.lanes) :
 Calls Tryz.prog 76 #[.pointer (some ⟨T.g,0,none⟩),.int .i64 i,.int .i64 k] w fun e w'=>e = .returned (.pointer (some ⟨T.snd i k,0,none⟩))/\Below w.heap.size w w':=by
 have ce:=k1L i k H G hv hf h1 hi hk;clear H G hf;go_enter Tryz.func76,Tryz.ntmps76
 go_wp2_with (go_at_call 97;refine ce.mono ?_;rintro e w1 ⟨rfl,hb⟩;have L1:=Ab hb;clear hb ce)
 go_ret;exact ⟨rfl,L1.out.alloc L1.out.size _⟩
theorem k5D (i k:Nat) (H:NodeAt w o v D T st) (G:Good D) (hv:v<D.nodes) (hf:Fresh o w) (h1:1<=i) (hi:i<np D v) (hk:k<D.lanes) :
 Calls Tryz.prog 78 #[.pointer (some ⟨T.g,0,none⟩),.int .i64 i,.int .i64 k] w fun e w'=>e = .returned (.pointer (some ⟨T.rcv i k,0,none⟩))/\Below w.heap.size w w':=by
 have ce:=k1L i k H G hv hf h1 hi hk;clear H G hf;go_enter Tryz.func78,Tryz.ntmps78
 go_wp2_with (go_at_call 97;refine ce.mono ?_;rintro e w1 ⟨rfl,hb⟩;have L1:=Ab hb;clear hb ce)
 go_ret;exact ⟨rfl,L1.out.alloc L1.out.size _⟩
end
theorem k8u (k:Nat) (a b:Int) (w:World) :
 Calls Tryz.prog 83 #[.slice none 0 0,.int .i64 k,.int .u64 a,.int .u64 b] w fun e w'=>e = .returned (.int .i64 0)/\Below w.heap.size w w':=by
 have hmm:=@run_makeMap Tryz.prog;go_enter Tryz.func83,Tryz.ntmps83;go_wp2
 go_loopw [18] (fun s18 wr=>s18 = .int .i64 0/\wr=w.alloc (.map #[] 0)) (fun _ _=>0)
 case atStart=>exact ⟨rfl,rfl⟩
 case round=>
  obtain ⟨rfl,rfl⟩:=hrel;have hz:=heap_alloc_new w (.map #[] 0);have hu:Tryz.prog.underlying 205=some (.map (Tryz.prog.mapKeyOf 205) (Tryz.prog.mapElemOf 205)):=by kernel_rfl
  have hln:=run_len_map (P:=Tryz.prog) (w.alloc (.map #[] 0)) 205 3 w.heap.size #[] 0 hu hz;simp only [goInt,List.size_toArray,List.length_nil] at hln;exact zz52
theorem kbP {w:World} {g:Nat} {T:TypeId} {fr:Nat × Nat} {a b c d e:Value} (hg:w.heap[g]? = some (.cells #[a,b,c,d,e] T fr)):(loadVar 104 ⟨g,0,none⟩).run Tryz.prog w = .ok (.agg #[a,b,c,d,e]) w:=
 run_loadVar_row w g T 104 _ fr _ hg Tryz.underlying104 rfl zz3
section
variable {w:World} {o:Nat->Col} {D:PlanD} {F:FTab} {st:FSt}
theorem k5Q (M:Int) (C:Nat) (H:FabAt w o D F st) (G:Good D) (hf:Fresh o w) (K:FOk D M C st) (i k:Nat) (a:Nat × Nat) (ha:D.hops[i]? = some a) (hl:st.link a=[]) (hk:k<D.lanes) :
 Calls Tryz.prog 46 #[.pointer (some ⟨F.g,0,none⟩),.int .i64 i,.int .i64 k] w fun e w'=>∃ x0 x1 x3 x4,e = .returned (.tuple #[.agg #[.int .i64 x0,.int .i64 x1,.int .i64 0,.int .i64 x3,.int .i64 x4],.bool true])/\Below w.heap.size w w':=by
 have hmem:=List.mem_of_getElem? ha;have xn:=(k0M hmem).1;have yn:=(k0M hmem).2;have xb:=(k0s.1 hmem).2;have yb:=k2U xb xn;have hi:=(List.getElem?_eq_some_iff.1 ha).1;have hn6:D.hops.length<=30:=by have:=k0N D G D.nodes (Nat.le_refl _);have:=G.n1;unfold PlanD.hops;omega
 have hl3:=G.l1;obtain ⟨x,y⟩:=a;simp only at xn yn xb yb;obtain ⟨n,hn⟩:∃ n,n=D.hops.length:=⟨_,rfl⟩;rw [<- hn] at hi hn6;have HN:=Ab hn;have HG:=Ab (show _/\_/\_/\_ from ⟨G,K,ha,hl⟩);have L1:=Ab ((Below.refl w.heap.size w).alloc (Nat.le_refl _) (.cells #[.int .i64 0,.int .i64 0,.int .i64 0,.int .i64 0,.int .i64 0] 104));have Z1:=Ab (heap_alloc_new w (.cells #[.int .i64 0,.int .i64 0,.int .i64 0,.int .i64 0,.int .i64 0] 104));have H1:=Ab (show _/\_ from ⟨H.blw hf L1.out,hf.blw L1.out⟩);have cp:=k39 H1.out.1 G H1.out.2;clear H G hf K ha hl hmem hn;go_enter Tryz.func46,Tryz.ntmps46
 go_wp2_with fail
 go_at_call 44;refine cp.mono ?_;rintro e w2 ⟨E1,k1,E2,k2,E3,k3,rfl,hp,hb⟩;have PV:=Ab hp;have B2:=Ab (show Below (w.heap.size+1) (w.alloc (.cells #[.int .i64 0,.int .i64 0,.int .i64 0,.int .i64 0,.int .i64 0] 104)) w2 from by simpa using hb);obtain ⟨tb,htb⟩:∃ tb,tb=w2.heap.size:=⟨_,rfl⟩;clear hp hb cp
 go_wp2_with fail
 go_at_call 17;obtain ⟨w3,hw3⟩:∃ w3,w3=w2.alloc (pbox D E1 k1 E2 k2 E3 k3):=⟨_,rfl⟩;have B3:=Ab (show Below w2.heap.size w2 w3 from by rw [hw3];exact (Below.refl _ w2).alloc (Nat.le_refl _) _);have Z3:=Ab (show w3.heap[tb]? = some (pbox D E1 k1 E2 k2 E3 k3) from by rw [hw3,htb];exact heap_alloc_new w2 _);have T3:=Ab (show Below (w.heap.size+1) (w.alloc (.cells #[.int .i64 0,.int .i64 0,.int .i64 0,.int .i64 0,.int .i64 0] 104)) w3 from B2.out.trans (B3.out.mono (by have:=B2.out.size;simpa using this)));have W31:w.heap.size+1<=w3.heap.size:=by have:=T3.out.size;simpa using this
 rw [<- hw3,<- htb];clear hw3 htb;have H3:=Ab (show FabAt w3 o D F st/\Fresh o w3 from by
  have b:Below (w.alloc (.cells #[.int .i64 0,.int .i64 0,.int .i64 0,.int .i64 0,.int .i64 0] 104)).heap.size (w.alloc (.cells #[.int .i64 0,.int .i64 0,.int .i64 0,.int .i64 0,.int .i64 0] 104)) w3:=by simpa using T3.out
  exact ⟨H1.out.1.blw H1.out.2 b,H1.out.2.blw b⟩)
 refine (k3j H3.out.1 HG.out.1 i (x,y) HG.out.2.2.1).mono ?_;rintro e w4 ⟨rfl,hb4⟩;have B4:=Ab hb4;have Z4:=Ab ((hb4.block _ (k03 Z3.out)).trans Z3.out);have b4:=fun j=>k00 Z4.out j
 have e1:=decide_eq_false (show ¬ (k:Int)<0 by omega);have e2:=decide_eq_false (show ¬ ((D.lanes:Nat):Int)<=(k:Int) by omega);have e2':=decide_eq_false (show ¬ (D.lanes:Nat)<=k by omega);have H4:=Ab (show FabAt w4 o D F st/\Fresh o w4 from ⟨H3.out.1.blw H3.out.2 hb4,H3.out.2.blw hb4⟩);clear hb4
 go_wp2_with fail
 go_at_call 25;refine (k5O H4.out.1 HG.out.1).mono ?_;rintro e w5 ⟨v5,g5,rfl,hr5,hb5,_⟩;rw [<- HN.out] at hr5;obtain ⟨xb5,xo5,xc5,_,rfl,_,_,hc5⟩:=hr5.open zz1;have hx5:w5.cell? ⟨xb5,xo5+i*2,none⟩=some (.int .i64 (x:Nat))/\w5.cell? ⟨xb5,xo5+i*2+1,none⟩=some (.int .i64 (y:Nat)):=by
  obtain ⟨g0,g1⟩:=k0L D.hops i (x,y) HG.out.2.2.1;have hl:=k0Y D.hops;have:=HN.out;exact ⟨(hc5 _ zz1).trans g0,(hc5 (i*2+1) zz1).trans g1⟩
 have hx50:=hx5.1;have hx51:=hx5.2;have B5:=Ab (show Below w3.heap.size w3 w5 from B4.out.trans (hb5.mono B4.out.size));have Z5:=Ab ((B5.out.block _ (k03 Z3.out)).trans Z3.out);clear hr5 hb5 hc5 hx5 b4;go_wp2;obtain ⟨hb2,hhb2⟩:∃ hb2,hb2=w5.heap.size:=⟨_,rfl⟩;obtain ⟨wA,hwA⟩:∃ wA,wA=w5.alloc (.cells #[.int .i64 (x:Nat),.int .i64 (y:Nat)] 90):=⟨_,rfl⟩;have BA:=Ab (show Below w3.heap.size w3 wA from by rw [hwA];exact B5.out.alloc B5.out.size _);have ZA:=Ab ((BA.out.block _ (k03 Z3.out)).trans Z3.out);have YA:=Ab (show wA.heap[hb2]? = some (.cells #[.int .i64 (x:Nat),.int .i64 (y:Nat)] 90 (0,0)) from by rw [hwA,hhb2];exact heap_alloc_new w5 _);rw [<- hwA,<- hhb2];clear hwA hhb2 hx50 hx51;have HFA:=Ab (H3.out.1.blw H3.out.2 BA.out);have HFrA:=Ab (H3.out.2.blw BA.out);have BPA:=Ab (B3.out.trans (BA.out.mono B3.out.size));have HSA:=Ab (show (fun (W:World)=>(W.cell? ⟨tb,0,none⟩=some (Value.int .i64 D.nodes)/\W.cell? ⟨tb,1,none⟩=some (.slice E1 D.edges.length k1)/\W.cell? ⟨tb,2,none⟩=some (.int .i64 D.lanes)/\W.cell? ⟨tb,3,none⟩=some (.int .i64 D.room)/\W.cell? ⟨tb,4,none⟩=some (.int .i64 D.queue)/\W.cell? ⟨tb,5,none⟩=some (.int .i64 D.rounds)/\W.cell? ⟨tb,6,none⟩=some (.int .i64 D.every)/\W.cell? ⟨tb,7,none⟩=some (.int .i64 D.bag)/\W.cell? ⟨tb,8,none⟩=some (.slice E2 D.weights.length k2)/\W.cell? ⟨tb,9,none⟩=some (.int .u16 D.start)/\W.cell? ⟨tb,10,none⟩=some (.slice E3 D.next.length k3))/\(W.cell? ⟨hb2,0,none⟩=some (Value.int .i64 (x:Nat))/\W.cell? ⟨hb2,1,none⟩=some (.int .i64 (y:Nat)))) wA from ⟨⟨(k00 ZA.out 0).trans rfl,(k00 ZA.out 1).trans rfl,(k00 ZA.out 2).trans rfl,(k00 ZA.out 3).trans rfl,(k00 ZA.out 4).trans rfl,(k00 ZA.out 5).trans rfl,(k00 ZA.out 6).trans rfl,(k00 ZA.out 7).trans rfl,(k00 ZA.out 8).trans rfl,(k00 ZA.out 9).trans rfl,(k00 ZA.out 10).trans rfl⟩,⟨(k00 YA.out 0).trans rfl,(k00 YA.out 1).trans rfl⟩⟩);refine WpL.region (fun (W:World)=>(W.cell? ⟨tb,0,none⟩=some (Value.int .i64 D.nodes)/\W.cell? ⟨tb,1,none⟩=some (.slice E1 D.edges.length k1)/\W.cell? ⟨tb,2,none⟩=some (.int .i64 D.lanes)/\W.cell? ⟨tb,3,none⟩=some (.int .i64 D.room)/\W.cell? ⟨tb,4,none⟩=some (.int .i64 D.queue)/\W.cell? ⟨tb,5,none⟩=some (.int .i64 D.rounds)/\W.cell? ⟨tb,6,none⟩=some (.int .i64 D.every)/\W.cell? ⟨tb,7,none⟩=some (.int .i64 D.bag)/\W.cell? ⟨tb,8,none⟩=some (.slice E2 D.weights.length k2)/\W.cell? ⟨tb,9,none⟩=some (.int .u16 D.start)/\W.cell? ⟨tb,10,none⟩=some (.slice E3 D.next.length k3))/\(W.cell? ⟨hb2,0,none⟩=some (Value.int .i64 (x:Nat))/\W.cell? ⟨hb2,1,none⟩=some (.int .i64 (y:Nat)))) 99 zz3 ?_;refine WpL.E 0 HSA.out ?_;refine WpL.E 1 HSA.out ?_;refine WpL.E 2 HSA.out ?_;refine WpL.E 4 HSA.out ?_;refine WpL.E 5 HSA.out ?_;refine WpL.E 6 HSA.out ?_;refine WpL.E 7 HSA.out ?_;refine WpL.E 8 HSA.out ?_;refine WpL.E 10 HSA.out ?_;refine WpL.one (i:=3) zz3 rfl (fun K hK=>?_);go_simp;refine (k1Z (HFA.out.blw HFrA.out ((Below.refl _ _).drew)) HG.out.1 x xn).mono ?_;rintro e wA1 ⟨rfl,rfl⟩;have HSA1:=Ab (show (fun (W:World)=>(W.cell? ⟨tb,0,none⟩=some (Value.int .i64 D.nodes)/\W.cell? ⟨tb,1,none⟩=some (.slice E1 D.edges.length k1)/\W.cell? ⟨tb,2,none⟩=some (.int .i64 D.lanes)/\W.cell? ⟨tb,3,none⟩=some (.int .i64 D.room)/\W.cell? ⟨tb,4,none⟩=some (.int .i64 D.queue)/\W.cell? ⟨tb,5,none⟩=some (.int .i64 D.rounds)/\W.cell? ⟨tb,6,none⟩=some (.int .i64 D.every)/\W.cell? ⟨tb,7,none⟩=some (.int .i64 D.bag)/\W.cell? ⟨tb,8,none⟩=some (.slice E2 D.weights.length k2)/\W.cell? ⟨tb,9,none⟩=some (.int .u16 D.start)/\W.cell? ⟨tb,10,none⟩=some (.slice E3 D.next.length k3))/\(W.cell? ⟨hb2,0,none⟩=some (Value.int .i64 (x:Nat))/\W.cell? ⟨hb2,1,none⟩=some (.int .i64 (y:Nat)))) (wA.drew) from HSA.out);simp only [];refine hK.out _ _ (fun _=>HSA1.out) ?_;clear hK K
 try refine Sm ?_
 refine WpL.one (i:=9) zz3 rfl (fun K hK=>?_);go_simp;refine (k54 _ x y _ _ _ _ _ _ (PV.out.below (BPA.out.trans ((Below.refl _ wA).drew.mono BPA.out.size))) HG.out.1 xn xb).mono ?_;rintro e wA2 ⟨rfl,hb⟩;have BA2:=Ab (show Below wA.heap.size wA wA2 from undrew hb);have HSA2:=Ab (show (fun (W:World)=>(W.cell? ⟨tb,0,none⟩=some (Value.int .i64 D.nodes)/\W.cell? ⟨tb,1,none⟩=some (.slice E1 D.edges.length k1)/\W.cell? ⟨tb,2,none⟩=some (.int .i64 D.lanes)/\W.cell? ⟨tb,3,none⟩=some (.int .i64 D.room)/\W.cell? ⟨tb,4,none⟩=some (.int .i64 D.queue)/\W.cell? ⟨tb,5,none⟩=some (.int .i64 D.rounds)/\W.cell? ⟨tb,6,none⟩=some (.int .i64 D.every)/\W.cell? ⟨tb,7,none⟩=some (.int .i64 D.bag)/\W.cell? ⟨tb,8,none⟩=some (.slice E2 D.weights.length k2)/\W.cell? ⟨tb,9,none⟩=some (.int .u16 D.start)/\W.cell? ⟨tb,10,none⟩=some (.slice E3 D.next.length k3))/\(W.cell? ⟨hb2,0,none⟩=some (Value.int .i64 (x:Nat))/\W.cell? ⟨hb2,1,none⟩=some (.int .i64 (y:Nat)))) wA2 from by obtain ⟨⟨k0,k1,k2,k3,k4,k5,k6,k7,k8,k9,k10⟩,m0,m1⟩:=HSA.out;exact ⟨⟨k01 BA2.out k0,k01 BA2.out k1,k01 BA2.out k2,k01 BA2.out k3,k01 BA2.out k4,k01 BA2.out k5,k01 BA2.out k6,k01 BA2.out k7,k01 BA2.out k8,k01 BA2.out k9,k01 BA2.out k10⟩,k01 BA2.out m0,k01 BA2.out m1⟩);clear hb;simp only [];refine hK.out _ _ (fun _=>HSA2.out) ?_;clear hK K
 try refine Sm ?_
 refine WpL.one (i:=11) zz3 rfl (fun K hK=>?_);go_simp;refine (k7b (k07 D x y) k ((HFA.out.blw HFrA.out BA2.out).node x xn) HG.out.1 xn (HFrA.out.blw BA2.out) (by unfold k07;omega) (k0O xb) hk).mono ?_;rintro e wA3 ⟨rfl,hb⟩;have BA3:=Ab (show Below wA.heap.size wA wA3 from BA2.out.trans (hb.mono BA2.out.size));have HSA3:=Ab (show (fun (W:World)=>(W.cell? ⟨tb,0,none⟩=some (Value.int .i64 D.nodes)/\W.cell? ⟨tb,1,none⟩=some (.slice E1 D.edges.length k1)/\W.cell? ⟨tb,2,none⟩=some (.int .i64 D.lanes)/\W.cell? ⟨tb,3,none⟩=some (.int .i64 D.room)/\W.cell? ⟨tb,4,none⟩=some (.int .i64 D.queue)/\W.cell? ⟨tb,5,none⟩=some (.int .i64 D.rounds)/\W.cell? ⟨tb,6,none⟩=some (.int .i64 D.every)/\W.cell? ⟨tb,7,none⟩=some (.int .i64 D.bag)/\W.cell? ⟨tb,8,none⟩=some (.slice E2 D.weights.length k2)/\W.cell? ⟨tb,9,none⟩=some (.int .u16 D.start)/\W.cell? ⟨tb,10,none⟩=some (.slice E3 D.next.length k3))/\(W.cell? ⟨hb2,0,none⟩=some (Value.int .i64 (x:Nat))/\W.cell? ⟨hb2,1,none⟩=some (.int .i64 (y:Nat)))) wA3 from by obtain ⟨⟨k0,k1,k2,k3,k4,k5,k6,k7,k8,k9,k10⟩,m0,m1⟩:=HSA.out;exact ⟨⟨k01 BA3.out k0,k01 BA3.out k1,k01 BA3.out k2,k01 BA3.out k3,k01 BA3.out k4,k01 BA3.out k5,k01 BA3.out k6,k01 BA3.out k7,k01 BA3.out k8,k01 BA3.out k9,k01 BA3.out k10⟩,k01 BA3.out m0,k01 BA3.out m1⟩);clear hb;simp only [];refine hK.out _ _ (fun _=>HSA3.out) ?_;clear hK K
 try refine Sm ?_
 refine WpL.E 12 HSA3.out ?_;refine WpL.done zz3 ?_ _;go_wp2;obtain ⟨wB,hwB⟩:∃ wB,wB=wA3:=⟨_,rfl⟩;have TB:=Ab (show Below w3.heap.size w3 wB from by rw [hwB];exact BA.out.trans (BA3.out.mono BA.out.size));have HFB:=Ab (H3.out.1.blw H3.out.2 TB.out);have HFrB:=Ab (H3.out.2.blw TB.out);have BPB:=Ab (B3.out.trans (TB.out.mono B3.out.size));have HSB:=Ab (show (fun (W:World)=>(W.cell? ⟨tb,0,none⟩=some (Value.int .i64 D.nodes)/\W.cell? ⟨tb,1,none⟩=some (.slice E1 D.edges.length k1)/\W.cell? ⟨tb,2,none⟩=some (.int .i64 D.lanes)/\W.cell? ⟨tb,3,none⟩=some (.int .i64 D.room)/\W.cell? ⟨tb,4,none⟩=some (.int .i64 D.queue)/\W.cell? ⟨tb,5,none⟩=some (.int .i64 D.rounds)/\W.cell? ⟨tb,6,none⟩=some (.int .i64 D.every)/\W.cell? ⟨tb,7,none⟩=some (.int .i64 D.bag)/\W.cell? ⟨tb,8,none⟩=some (.slice E2 D.weights.length k2)/\W.cell? ⟨tb,9,none⟩=some (.int .u16 D.start)/\W.cell? ⟨tb,10,none⟩=some (.slice E3 D.next.length k3))/\(W.cell? ⟨hb2,0,none⟩=some (Value.int .i64 (x:Nat))/\W.cell? ⟨hb2,1,none⟩=some (.int .i64 (y:Nat)))) wB from by rw [hwB];exact HSA3.out);rw [<- hwB];clear hwB;refine WpL.region (fun (W:World)=>(W.cell? ⟨tb,0,none⟩=some (Value.int .i64 D.nodes)/\W.cell? ⟨tb,1,none⟩=some (.slice E1 D.edges.length k1)/\W.cell? ⟨tb,2,none⟩=some (.int .i64 D.lanes)/\W.cell? ⟨tb,3,none⟩=some (.int .i64 D.room)/\W.cell? ⟨tb,4,none⟩=some (.int .i64 D.queue)/\W.cell? ⟨tb,5,none⟩=some (.int .i64 D.rounds)/\W.cell? ⟨tb,6,none⟩=some (.int .i64 D.every)/\W.cell? ⟨tb,7,none⟩=some (.int .i64 D.bag)/\W.cell? ⟨tb,8,none⟩=some (.slice E2 D.weights.length k2)/\W.cell? ⟨tb,9,none⟩=some (.int .u16 D.start)/\W.cell? ⟨tb,10,none⟩=some (.slice E3 D.next.length k3))/\(W.cell? ⟨hb2,0,none⟩=some (Value.int .i64 (x:Nat))/\W.cell? ⟨hb2,1,none⟩=some (.int .i64 (y:Nat)))) 99 zz3 ?_;refine WpL.E 0 HSB.out ?_;refine WpL.E 1 HSB.out ?_;refine WpL.E 2 HSB.out ?_;refine WpL.E 4 HSB.out ?_;refine WpL.E 5 HSB.out ?_;refine WpL.E 6 HSB.out ?_;refine WpL.E 7 HSB.out ?_;refine WpL.E 8 HSB.out ?_;refine WpL.E 10 HSB.out ?_;refine WpL.one (i:=3) zz3 rfl (fun K hK=>?_);go_simp;refine (k1Z (HFB.out.blw HFrB.out ((Below.refl _ _).drew)) HG.out.1 y yn).mono ?_;rintro e wB1 ⟨rfl,rfl⟩;have HSB1:=Ab (show (fun (W:World)=>(W.cell? ⟨tb,0,none⟩=some (Value.int .i64 D.nodes)/\W.cell? ⟨tb,1,none⟩=some (.slice E1 D.edges.length k1)/\W.cell? ⟨tb,2,none⟩=some (.int .i64 D.lanes)/\W.cell? ⟨tb,3,none⟩=some (.int .i64 D.room)/\W.cell? ⟨tb,4,none⟩=some (.int .i64 D.queue)/\W.cell? ⟨tb,5,none⟩=some (.int .i64 D.rounds)/\W.cell? ⟨tb,6,none⟩=some (.int .i64 D.every)/\W.cell? ⟨tb,7,none⟩=some (.int .i64 D.bag)/\W.cell? ⟨tb,8,none⟩=some (.slice E2 D.weights.length k2)/\W.cell? ⟨tb,9,none⟩=some (.int .u16 D.start)/\W.cell? ⟨tb,10,none⟩=some (.slice E3 D.next.length k3))/\(W.cell? ⟨hb2,0,none⟩=some (Value.int .i64 (x:Nat))/\W.cell? ⟨hb2,1,none⟩=some (.int .i64 (y:Nat)))) (wB.drew) from HSB.out);simp only [];refine hK.out _ _ (fun _=>HSB1.out) ?_;clear hK K
 try refine Sm ?_
 refine WpL.one (i:=9) zz3 rfl (fun K hK=>?_);go_simp;refine (k54 _ y x _ _ _ _ _ _ (PV.out.below (BPB.out.trans ((Below.refl _ wB).drew.mono BPB.out.size))) HG.out.1 yn yb).mono ?_;rintro e wB2 ⟨rfl,hb⟩;have BB2:=Ab (show Below wB.heap.size wB wB2 from undrew hb);have HSB2:=Ab (show (fun (W:World)=>(W.cell? ⟨tb,0,none⟩=some (Value.int .i64 D.nodes)/\W.cell? ⟨tb,1,none⟩=some (.slice E1 D.edges.length k1)/\W.cell? ⟨tb,2,none⟩=some (.int .i64 D.lanes)/\W.cell? ⟨tb,3,none⟩=some (.int .i64 D.room)/\W.cell? ⟨tb,4,none⟩=some (.int .i64 D.queue)/\W.cell? ⟨tb,5,none⟩=some (.int .i64 D.rounds)/\W.cell? ⟨tb,6,none⟩=some (.int .i64 D.every)/\W.cell? ⟨tb,7,none⟩=some (.int .i64 D.bag)/\W.cell? ⟨tb,8,none⟩=some (.slice E2 D.weights.length k2)/\W.cell? ⟨tb,9,none⟩=some (.int .u16 D.start)/\W.cell? ⟨tb,10,none⟩=some (.slice E3 D.next.length k3))/\(W.cell? ⟨hb2,0,none⟩=some (Value.int .i64 (x:Nat))/\W.cell? ⟨hb2,1,none⟩=some (.int .i64 (y:Nat)))) wB2 from by obtain ⟨⟨k0,k1,k2,k3,k4,k5,k6,k7,k8,k9,k10⟩,m0,m1⟩:=HSB.out;exact ⟨⟨k01 BB2.out k0,k01 BB2.out k1,k01 BB2.out k2,k01 BB2.out k3,k01 BB2.out k4,k01 BB2.out k5,k01 BB2.out k6,k01 BB2.out k7,k01 BB2.out k8,k01 BB2.out k9,k01 BB2.out k10⟩,k01 BB2.out m0,k01 BB2.out m1⟩);clear hb;simp only [];refine hK.out _ _ (fun _=>HSB2.out) ?_;clear hK K
 try refine Sm ?_
 refine WpL.one (i:=11) zz3 rfl (fun K hK=>?_);go_simp;refine (k5D (k07 D y x) k ((HFB.out.blw HFrB.out BB2.out).node y yn) HG.out.1 yn (HFrB.out.blw BB2.out) (by unfold k07;omega) (k0O yb) hk).mono ?_;rintro e wB3 ⟨rfl,hb⟩;have BB3:=Ab (show Below wB.heap.size wB wB3 from BB2.out.trans (hb.mono BB2.out.size));have HSB3:=Ab (show (fun (W:World)=>(W.cell? ⟨tb,0,none⟩=some (Value.int .i64 D.nodes)/\W.cell? ⟨tb,1,none⟩=some (.slice E1 D.edges.length k1)/\W.cell? ⟨tb,2,none⟩=some (.int .i64 D.lanes)/\W.cell? ⟨tb,3,none⟩=some (.int .i64 D.room)/\W.cell? ⟨tb,4,none⟩=some (.int .i64 D.queue)/\W.cell? ⟨tb,5,none⟩=some (.int .i64 D.rounds)/\W.cell? ⟨tb,6,none⟩=some (.int .i64 D.every)/\W.cell? ⟨tb,7,none⟩=some (.int .i64 D.bag)/\W.cell? ⟨tb,8,none⟩=some (.slice E2 D.weights.length k2)/\W.cell? ⟨tb,9,none⟩=some (.int .u16 D.start)/\W.cell? ⟨tb,10,none⟩=some (.slice E3 D.next.length k3))/\(W.cell? ⟨hb2,0,none⟩=some (Value.int .i64 (x:Nat))/\W.cell? ⟨hb2,1,none⟩=some (.int .i64 (y:Nat)))) wB3 from by obtain ⟨⟨k0,k1,k2,k3,k4,k5,k6,k7,k8,k9,k10⟩,m0,m1⟩:=HSB.out;exact ⟨⟨k01 BB3.out k0,k01 BB3.out k1,k01 BB3.out k2,k01 BB3.out k3,k01 BB3.out k4,k01 BB3.out k5,k01 BB3.out k6,k01 BB3.out k7,k01 BB3.out k8,k01 BB3.out k9,k01 BB3.out k10⟩,k01 BB3.out m0,k01 BB3.out m1⟩);clear hb;simp only [];refine hK.out _ _ (fun _=>HSB3.out) ?_;clear hK K
 try refine Sm ?_
 refine WpL.E 12 HSB3.out ?_;refine WpL.done zz3 ?_ _;obtain ⟨wC,hwC⟩:∃ wC,wC=wB3:=⟨_,rfl⟩;have TC:=Ab (show Below w3.heap.size w3 wC from by rw [hwC];exact TB.out.trans (BB3.out.mono TB.out.size));rw [<- hwC];clear hwC;obtain ⟨px,hpx⟩:∃ px,px=k07 D x y:=⟨_,rfl⟩;obtain ⟨py,hpy⟩:∃ py,py=k07 D y x:=⟨_,rfl⟩;rw [<- hpx,<- hpy];have px1:1<=px:=by rw [hpx];unfold k07;omega
 have py1:1<=py:=by rw [hpy];unfold k07;omega
 have pxn:px<np D x:=by rw [hpx];exact k0O xb
 have pyn:py<np D y:=by rw [hpy];exact k0O yb
 clear hpx hpy;have FW:=Ab (fun (W:World) (b:Below w3.heap.size w3 W)=>H3.out.1.blw H3.out.2 b);have SW:=Ab (fun (W:World) (b:Below w3.heap.size w3 W)=>((FW.out W b).node x xn).sndSt px k px1 pxn hk);have RW:=Ab (fun (W:World) (b:Below w3.heap.size w3 W)=>((FW.out W b).node y yn).rcvSt py k py1 pyn hk);have NX:=Ab (HG.out.2.1 x xn).num;have NY:=Ab (HG.out.2.1 y yn).num;obtain ⟨s,hs⟩:∃ s,s=((st.node x).snd px k).1:=⟨_,rfl⟩;obtain ⟨l,hl⟩:∃ l,l=((st.node x).snd px k).2:=⟨_,rfl⟩;obtain ⟨rx,hrx⟩:∃ rx,rx=((st.node y).rcv py k).1:=⟨_,rfl⟩;obtain ⟨rh,hrh⟩:∃ rh,rh=((st.node y).rcv py k).2:=⟨_,rfl⟩;have BN:=Ab (show 0<=s/\s<=l/\l<=s+8/\s<=1000000/\0<=rx/\rx<=1000000/\0<=rh/\rh<=D.room/\D.room<=8 from by
  have:=NX.out.s0 px k px1 pxn hk;have:=NX.out.s1 px k px1 pxn hk;have:=NX.out.s2 px k px1 pxn hk;have:=NX.out.s3 px k px1 pxn hk;have:=NY.out.r0 py k py1 pyn hk;have:=NY.out.r1 py k py1 pyn hk;have:=NY.out.r2 py k py1 pyn hk;have:=NY.out.r3 py k py1 pyn hk;have:=HG.out.1.r1;omega)
 rw [<- hs,<- hl] at SW;rw [<- hrx,<- hrh] at RW;clear hs hl hrx hrh
 go_wp2_with (first
  | (go_at_call 82;refine (kad _ _ _ _ _ _ (RW.out _ T10.out)).mono ?_;rintro e w11 ⟨rfl,hs⟩;have T11:=Ab (show Below w3.heap.size w3 w11 from T10.out.trans ((RcvSt.blw (RW.out _ T10.out) hs).mono T10.out.size));clear hs)
  | (go_at_call 81;refine (k3Z _ _ _ _ _ (SW.out _ T9.out)).mono ?_;rintro e w10 ⟨rfl,hs⟩;have T10:=Ab (show Below w3.heap.size w3 w10 from T9.out.trans ((SndSt.blw (SW.out _ T9.out) hs).mono T9.out.size));clear hs)
  | (go_at_call 80;refine (k6a _ _ _ _ _ _ (RW.out _ T8.out) zz53 zz53 zz53 zz53 zz53).mono ?_;rintro e w9 ⟨rfl,hs⟩;have T9:=Ab (show Below w3.heap.size w3 w9 from T8.out.trans ((RcvSt.blw (RW.out _ T8.out) hs).mono T8.out.size));clear hs)
  | (go_at_call 79;refine (k1p _ _ _ _ _ (SW.out _ TC.out) zz53 zz53 zz53 zz53).mono ?_;rintro e w8 ⟨rfl,hs⟩;have T8:=Ab (show Below w3.heap.size w3 w8 from TC.out.trans ((SndSt.blw (SW.out _ TC.out) hs).mono TC.out.size));clear hs))
 obtain ⟨u0,hu0⟩:∃ u0,u0=l-s:=⟨_,rfl⟩;obtain ⟨u1,hu1⟩:∃ u1,u1=wrap64 (IntKind.u64.wrap (rx+(↑D.room-rh)-l)):=⟨_,rfl⟩;rw [<- hu0,<- hu1];clear hu0 hu1;obtain ⟨ab,hab⟩:∃ ab,ab=w11.heap.size:=⟨_,rfl⟩;obtain ⟨w12,hw12⟩:∃ w12,w12=w11.alloc (.cells #[.int .i64 u0,.int .i64 u1,.int .i64 0,.int .i64 rh,.int .i64 0] 104):=⟨_,rfl⟩;have T12:=Ab (show Below w3.heap.size w3 w12 from by rw [hw12];exact T11.out.alloc T11.out.size _);have Z12:=Ab (show w12.heap[ab]? = some (.cells #[.int .i64 u0,.int .i64 u1,.int .i64 0,.int .i64 rh,.int .i64 0] 104 (0,0)) from by rw [hw12,hab];exact heap_alloc_new w11 _);have AB:=Ab (show w3.heap.size<=ab from by rw [hab];exact T11.out.size);rw [<- hab,<- hw12];clear hab hw12;refine (k5H ((FW.out _ T12.out).link (x,y) (List.mem_of_getElem? HG.out.2.2.1))).mono ?_;rintro e w13 ⟨A13,k13,he,hn13,hb13⟩;obtain ⟨rfl,rfl⟩:=hn13 HG.out.2.2.2;rw [HG.out.2.2.2] at he;subst he;have T13:=Ab (show Below w3.heap.size w3 w13 from T12.out.trans (hb13.mono T12.out.size));have Z13:=Ab ((hb13.block _ (k03 Z12.out)).trans Z12.out);clear hb13 hn13
 go_wp2_with (first
  | (go_at_call 83;refine (k8u k rx s _).mono ?_;rintro e w16 ⟨rfl,hb⟩;have T16:=Ab (show Below w3.heap.size w3 w16 from T15.out.1.trans (hb.mono T15.out.1.size));have Z16:=Ab ((hb.block _ (k03 T15.out.2)).trans T15.out.2);have c16:=fun j=>k00 Z16.out j;have f16:=fun j=>k02 Z16.out j;clear hb)
  | (go_at_call 85;refine (k1G _ _ _ _ _ (SW.out _ T14.out.1)).mono ?_;rintro e w15 ⟨rfl,hs⟩;have BX:=SndSt.blw (SW.out _ T14.out.1) hs;have T15:=Ab (show Below w3.heap.size w3 w15/\w15.heap[ab]? = some (.cells #[.int .i64 u0,.int .i64 u1,.int .i64 0,.int .i64 rh,.int .i64 0] 104 (0,0)) from ⟨T14.out.1.trans (BX.mono T14.out.1.size),(BX.block _ (k03 T14.out.2)).trans T14.out.2⟩);clear hs BX)
  | (go_at_call 84;refine (k4u _ _ _ _ _ _ (RW.out _ T13.out)).mono ?_;rintro e w14 ⟨rfl,hs⟩;have BX:=RcvSt.blw (RW.out _ T13.out) hs;have T14:=Ab (show Below w3.heap.size w3 w14/\w14.heap[ab]? = some (.cells #[.int .i64 u0,.int .i64 u1,.int .i64 0,.int .i64 rh,.int .i64 0] 104 (0,0)) from ⟨T13.out.trans (BX.mono T13.out.size),(BX.block _ (k03 Z13.out)).trans Z13.out⟩);clear hs BX))
 obtain ⟨w17,hw17⟩:∃ w17,w17=w16.setCell ⟨ab,2,none⟩ (.int .i64 0):=⟨_,rfl⟩;have Z17:=Ab (show w17.heap[ab]? = some (.cells #[.int .i64 u0,.int .i64 u1,.int .i64 0,.int .i64 rh,.int .i64 0] 104 (0,0)) from by rw [hw17];exact k05 Z16.out 2 _);have T17:=Ab (show Below w3.heap.size w3 w17 from by rw [hw17];exact T16.out.setCell (show w3.heap.size<=ab from AB.out) _);rw [<- hw17];clear hw17 c16 f16;have HS17:=Ab (show (fun (W:World)=>W.cell? ⟨ab,0,none⟩=some (Value.int .i64 u0)/\W.cell? ⟨ab,1,none⟩=some (.int .i64 u1)/\W.cell? ⟨ab,2,none⟩=some (.int .i64 0)/\W.cell? ⟨ab,3,none⟩=some (.int .i64 rh)/\W.cell? ⟨ab,4,none⟩=some (.int .i64 0)) w17 from ⟨(k00 Z17.out 0).trans rfl,(k00 Z17.out 1).trans rfl,(k00 Z17.out 2).trans rfl,(k00 Z17.out 3).trans rfl,(k00 Z17.out 4).trans rfl⟩);refine WpL.region (fun (W:World)=>W.cell? ⟨ab,0,none⟩=some (Value.int .i64 u0)/\W.cell? ⟨ab,1,none⟩=some (.int .i64 u1)/\W.cell? ⟨ab,2,none⟩=some (.int .i64 0)/\W.cell? ⟨ab,3,none⟩=some (.int .i64 rh)/\W.cell? ⟨ab,4,none⟩=some (.int .i64 0)) 10 zz3 ?_;refine WpL.T 0 [] HS17.out ?_;refine WpL.T 2 [] HS17.out ?_;refine WpL.T 6 [] HS17.out ?_;refine WpL.T 7 [] HS17.out ?_;refine WpL.one (i:=1) zz3 rfl (fun K hK=>?_);go_simp;refine (k1G _ _ _ _ _ (SW.out _ (T17.out.trans ((Below.refl _ w17).drew.mono T17.out.size)))).mono ?_;rintro e w18 ⟨rfl,hs⟩;have B18:=Ab (show Below w17.heap.size w17 w18 from undrew (SndSt.blw (SW.out _ (T17.out.trans ((Below.refl _ w17).drew.mono T17.out.size))) hs));have T18:=Ab (show Below w3.heap.size w3 w18 from T17.out.trans (B18.out.mono T17.out.size));have Z18:=Ab ((B18.out.block _ (k03 Z17.out)).trans Z17.out);have HS18:=Ab (show (fun (W:World)=>W.cell? ⟨ab,0,none⟩=some (Value.int .i64 u0)/\W.cell? ⟨ab,1,none⟩=some (.int .i64 u1)/\W.cell? ⟨ab,2,none⟩=some (.int .i64 0)/\W.cell? ⟨ab,3,none⟩=some (.int .i64 rh)/\W.cell? ⟨ab,4,none⟩=some (.int .i64 0)) w18 from ⟨(k00 Z18.out 0).trans rfl,(k00 Z18.out 1).trans rfl,(k00 Z18.out 2).trans rfl,(k00 Z18.out 3).trans rfl,(k00 Z18.out 4).trans rfl⟩);clear hs;simp only [];refine hK.out _ _ (fun _=>HS18.out) ?_;clear hK K
 try refine Sm ?_
 refine WpL.one (i:=3) zz3 rfl (fun K hK=>?_);go_simp;refine (k4u _ _ _ _ _ _ (RW.out _ T18.out)).mono ?_;rintro e w19 ⟨rfl,hs⟩;have B19:=Ab (RcvSt.blw (RW.out _ T18.out) hs);have T19:=Ab (show Below w3.heap.size w3 w19 from T18.out.trans (B19.out.mono T18.out.size));have Z19:=Ab ((B19.out.block _ (k03 Z18.out)).trans Z18.out);have HS19:=Ab (show (fun (W:World)=>W.cell? ⟨ab,0,none⟩=some (Value.int .i64 u0)/\W.cell? ⟨ab,1,none⟩=some (.int .i64 u1)/\W.cell? ⟨ab,2,none⟩=some (.int .i64 0)/\W.cell? ⟨ab,3,none⟩=some (.int .i64 rh)/\W.cell? ⟨ab,4,none⟩=some (.int .i64 0)) w19 from ⟨(k00 Z19.out 0).trans rfl,(k00 Z19.out 1).trans rfl,(k00 Z19.out 2).trans rfl,(k00 Z19.out 3).trans rfl,(k00 Z19.out 4).trans rfl⟩);have c19:=fun j=>k00 Z19.out j
 have f19:=fun j=>k02 Z19.out j
 have hl19:=k03 Z19.out;have Z19r:=Ab (show w19.heap[w.heap.size]? = some (.cells #[.int .i64 0,.int .i64 0,.int .i64 0,.int .i64 0,.int .i64 0] 104 (0,0)) from (T19.out.block _ zz1).trans ((T3.out.block _ zz1).trans Z1.out));have r19:=fun j=>k00 Z19r.out j
 have g19:=fun j=>k02 Z19r.out j
 have hne19:ab≠w.heap.size:=by have:=AB.out;omega
 clear hs;simp only [];refine hK.out _ _ (fun _=>HS19.out) ?_;clear hK K
 try refine Sm ?_
 refine WpL.T 4 [] HS19.out ?_;refine WpL.T 5 [] HS19.out ?_;refine WpL.T 8 [] HS19.out ?_;refine WpL.T 9 [] HS19.out ?_;refine WpL.one (i:=10) zz3 rfl (fun K hK=>?_);go_simp;refine hK.out _ _ (fun h=>absurd rfl h) ?_;clear hK K
 try refine Sm ?_
 refine WpL.done zz3 ?_ _;go_wp2;obtain ⟨u4,hu4⟩:∃ u4,u4=wrap64 (wrap64 (IntKind.u64.wrap (s-rx))):=⟨_,rfl⟩;rw [<- hu4];clear hu4;have ZA:=(Below.heap_setCell w19 ⟨ab,4,none⟩ (.int .i64 u4) w.heap.size (Ne.symm hne19)).trans Z19r.out;have O20:Only (fun b=>w.heap.size<=b) w19 (w19.setCell ⟨ab,4,none⟩ (.int .i64 u4)):=(Only.refl _ _).set (p:=⟨ab,4,none⟩) (fun _=>by have:=AB.out;show w.heap.size<=ab;omega) _;obtain ⟨w20,hw20⟩:∃ w20,w20=w19.setCell ⟨ab,4,none⟩ (.int .i64 u4):=⟨_,rfl⟩;rw [<- hw20] at ZA O20 ⊢;have z0:=k05 ZA 0 (.int .i64 u0);simp only [List.setIfInBounds_toArray,List.set_cons_zero,List.set_cons_succ] at z0;have z1:=k05 z0 1 (.int .i64 u1);simp only [List.setIfInBounds_toArray,List.set_cons_zero,List.set_cons_succ] at z1;have z2:=k05 z1 2 (.int .i64 0);simp only [List.setIfInBounds_toArray,List.set_cons_zero,List.set_cons_succ] at z2;have z3:=k05 z2 3 (.int .i64 rh);simp only [List.setIfInBounds_toArray,List.set_cons_zero,List.set_cons_succ] at z3;have z4:=k05 z3 4 (.int .i64 u4);simp only [List.setIfInBounds_toArray,List.set_cons_zero,List.set_cons_succ] at z4;have o1:=O20.set (p:=⟨w.heap.size,0,none⟩) (fun _=>Nat.le_refl _) (.int .i64 u0);have o2:=o1.set (p:=⟨w.heap.size,1,none⟩) (fun _=>Nat.le_refl _) (.int .i64 u1);have o3:=o2.set (p:=⟨w.heap.size,2,none⟩) (fun _=>Nat.le_refl _) (.int .i64 0);have o4:=o3.set (p:=⟨w.heap.size,3,none⟩) (fun _=>Nat.le_refl _) (.int .i64 rh);have o5:=o4.set (p:=⟨w.heap.size,4,none⟩) (fun _=>Nat.le_refl _) (.int .i64 u4);refine bodyPost_ret (k0C rfl _ _ ⟨w.heap.size,0,none⟩ _ rfl (kbP z4)) rfl ⟨⟨u0,u1,rh,u4,rfl⟩,?_⟩;have b19:Below w.heap.size w w19:=L1.out.trans ((T3.out.trans (T19.out.mono W31)).mono (Nat.le_succ _));exact ⟨o5.os.trans b19.os,o5.tape.trans b19.tape,o5.output.trans b19.output,Nat.le_trans b19.size o5.size,fun b hb=>(o5.keep b (Nat.lt_of_lt_of_le hb b19.size) zz1).trans (b19.block b hb)⟩
end
theorem kbq:(Tryz.prog.info? 104).map (fun i=>(i.zero,i.size,i.bytes))=some (some (.agg #[.int .i64 0,.int .i64 0,.int .i64 0,.int .i64 0,.int .i64 0]),5,40):=by kernel_rfl
def k0H (l:List (Int × Int × Int × Int)):List Value:=l.flatMap fun p=>[.int .i64 p.1,.int .i64 p.2.1,.int .i64 0,.int .i64 p.2.2.1,.int .i64 p.2.2.2]
theorem k3M:∀ (l:List (Int × Int × Int × Int)) (i:Nat) (p:Int × Int × Int × Int),l[i]? = some p->(k0H l)[i*5]? = some (.int .i64 p.1)/\(k0H l)[i*5+1]? = some (.int .i64 p.2.1)/\(k0H l)[i*5+2]? = some (.int .i64 0)/\(k0H l)[i*5+3]? = some (.int .i64 p.2.2.1)/\(k0H l)[i*5+4]? = some (.int .i64 p.2.2.2)
 | [],i,p,h=>by simp at h
 | a :: l,0,p,h=>by
   simp at h;subst h;exact ⟨rfl,rfl,rfl,rfl,rfl⟩
 | a :: l,i+1,p,h=>by
   have ih:=k3M l i p (by simpa using h);have e:k0H (a :: l)=[.int .i64 a.1,.int .i64 a.2.1,.int .i64 0,.int .i64 a.2.2.1,.int .i64 a.2.2.2]++k0H l:=rfl;rw [e];rw [show (i+1)*5=i*5+5 by omega];refine ⟨?_,?_,?_,?_,?_⟩
   · rw [List.getElem?_append_right zz17];simpa using ih.1
   · rw [List.getElem?_append_right zz17];rw [show i*5+5+1-_=i*5+1 by simp];exact ih.2.1
   · rw [List.getElem?_append_right zz17];rw [show i*5+5+2-_=i*5+2 by simp];exact ih.2.2.1
   · rw [List.getElem?_append_right zz17];rw [show i*5+5+3-_=i*5+3 by simp];exact ih.2.2.2.1
   · rw [List.getElem?_append_right zz17];rw [show i*5+5+4-_=i*5+4 by simp];exact ih.2.2.2.2
theorem k6F (l:List (Int × Int × Int × Int)):(k0H l).length=l.length*5:=by
 induction l with
 | nil=>rfl
 | cons a l ih=>simp [k0H] at ih ⊢;omega
theorem Only.toB {w0 w w':World} {P:Nat->Prop} (b:Below w0.heap.size w0 w) (O:Only P w w') (hP:∀ x,P x->w0.heap.size<=x):Below w0.heap.size w0 w':=
 ⟨O.os.trans b.os,O.tape.trans b.tape,O.output.trans b.output,Nat.le_trans b.size O.size,fun x hx=>(O.keep x (Nat.lt_of_lt_of_le hx b.size) (fun h=>by have:=hP x h;omega)).trans (b.block x hx)⟩
theorem k74 (W:World) (D:PlanD) (E1:Option Addr) (k1:Nat) (E2:Option Addr) (k2:Nat) (E3:Option Addr) (k3:Nat):(Instr.field 32 (pagg D E1 k1 E2 k2 E3 k3) 0).run Tryz.prog W = .ok (.int .i64 D.nodes) W:=by kernel_rfl
theorem k40 (W:World) (D:PlanD) (E1:Option Addr) (k1:Nat) (E2:Option Addr) (k2:Nat) (E3:Option Addr) (k3:Nat):(Instr.field 32 (pagg D E1 k1 E2 k2 E3 k3) 2).run Tryz.prog W = .ok (.int .i64 D.lanes) W:=by kernel_rfl
section
variable {w:World} {o:Nat->Col} {D:PlanD} {F:FTab} {st:FSt}
def AllAt (D:PlanD) (w:World) (e:Ending) (w':World):Prop:=∃ V l g,e = .returned V/\Row w' V 104 5 (D.hops.length*D.lanes) (k0H l) g/\l.length=D.hops.length*D.lanes/\Below w.heap.size w w'
theorem k6f (M:Int) (C:Nat) (H:FabAt w o D F st) (G:Good D) (hf:Fresh o w) (K:FOk D M C st) (hl:∀ a∈D.hops,st.link a=[]) :
 Calls Tryz.prog 21 #[.pointer (some ⟨F.g,0,none⟩)] w (AllAt D w):=by
 have hn6:D.hops.length<=30:=by have:=k0N D G D.nodes (Nat.le_refl _);have:=G.n1;unfold PlanD.hops;omega
 have hl3:=G.l1;obtain ⟨n,hn⟩:∃ n,n=D.hops.length:=⟨_,rfl⟩;rw [<- hn] at hn6;have ch:=k5O H G;obtain ⟨L,hL⟩:∃ L,L=D.lanes:=⟨_,rfl⟩;rw [<- hL] at hl3;have HN:=Ab (show _/\_ from ⟨hn,hL⟩);have HA:=Ab (show _/\_/\_/\_/\_ from ⟨H,G,hf,K,hl⟩);have FW:=Ab (fun (W:World) (b:Below w.heap.size w W)=>(show FabAt W o D F st/\Fresh o W from ⟨H.blw hf b,hf.blw b⟩));clear H G hf K hl hn hL;go_enter Tryz.func21,Tryz.ntmps21
 go_wp2_with (go_at_call 25;refine ch.mono ?_;rintro e w1 ⟨v1,g1,rfl,hr,hb,_⟩;rw [<- HN.out.1] at hr;obtain ⟨A1,k1,rfl,_⟩:=hr.size;have B1:=Ab hb;clear hr hb ch)
 go_loopw [3,11] (fun s3 s11 wr=>∃ (i:Nat) (l:List (Int × Int × Int × Int)) (g:Option Nat),i<=n/\s11 = .int .i64 i/\k08 (Below w.heap.size w wr/\Row wr s3 104 5 (i*L) (k0H l) g/\l.length=i*L/\∀ b,g=some b->w.heap.size<=b)) (fun _ s11 _=>n-ixOf s11)
 case atStart=>exact ⟨0,[],none,zz1,rfl,⟨B1.out,by rw [Nat.zero_mul];exact Row.nil _ _ _,zz17,zz17⟩⟩
 case round=>
  obtain ⟨i,l,g,hi,rfl,R⟩:=hrel;by_cases hlt:i<n
  · have e1:(i:Int)<(n:Int):=by omega
    obtain ⟨a,ha⟩:∃ a,D.hops[i]? = some a:=⟨_,List.getElem?_eq_getElem (by have:=HN.out.1;omega)⟩;have HH:=Ab ha;clear ha
    go_wp2_with (go_at_call 44;refine (k39 (FW.out _ R.out.1).1 HA.out.2.1 (FW.out _ R.out.1).2).mono ?_;rintro e w2 ⟨E1,k1',E2,k2,E3,k3,rfl,_,hb⟩;have L2:=Ab (show Below w.heap.size w w2 from R.out.1.trans (hb.mono R.out.1.size));have R2:=Ab (R.out.2.1.below hb);have fp:∀ W:World,(Instr.field 32 (pagg D E1 k1' E2 k2 E3 k3) 2).run Tryz.prog W = .ok (.int .i64 (L:Nat)) W:=(fun W=>(by rw [HN.out.2];exact k40 W D _ _ _ _ _ _));clear hb)
    go_loopw [3,17] (fun s3 s17 wr=>∃ (k:Nat) (l:List (Int × Int × Int × Int)) (g:Option Nat),k<=L/\s17 = .int .i64 k/\k08 (Below w.heap.size w wr/\Row wr s3 104 5 (i*L+k) (k0H l) g/\l.length=i*L+k/\∀ b,g=some b->w.heap.size<=b)) (fun _ s17 _=>L-ixOf s17)
    case atStart=>exact ⟨0,l,g,zz1,rfl,⟨L2.out,by rw [Nat.add_zero];exact R2.out,by rw [Nat.add_zero];exact R.out.2.2.1,R.out.2.2.2⟩⟩
    case round=>
     obtain ⟨k,l,g,hk,rfl,Q⟩:=hrel;have hil:i*L+k<=90:=by have:i*L<=29*3:=Nat.mul_le_mul zz1 hl3;omega
     by_cases hlk:k<L
     · have e2:(k:Int)<(L:Int):=by omega
       obtain ⟨A3,k3',rfl,_⟩:=Q.out.2.1.size
       go_wp2_with (first
        | (at_builtin;refine k0P rfl _ _ 65 104 (.agg #[.int .i64 0,.int .i64 0,.int .i64 0,.int .i64 0,.int .i64 0]) 5 40 rfl Tryz.underlying65 kbq rfl zz8 zz8 (.slice A3 (i*L+k) k3') (i*L+k) (k0H l) [.int .i64 x0,.int .i64 x1,.int .i64 0,.int .i64 x3,.int .i64 x4] g (Q4.out.2) rfl rfl (World.size_alloc _ _).symm rfl (by intro u hu;simp at hu;rcases hu with rfl | rfl | rfl | rfl | rfl <;> rfl) zz1 ?_;intro v6 w6 g6 R6 O6 G6;have K6:=Ab (show _/\Only (fun b=>g=some b) _ w6/\_ from ⟨R6,O6,G6⟩);obtain ⟨A6,k6,rfl,_⟩:=R6.size;clear R6 O6 G6)
        | (go_at_call 46;refine (k5Q M C (FW.out _ Q.out.1).1 HA.out.2.1 (FW.out _ Q.out.1).2 HA.out.2.2.2.1 i k a HH.out (HA.out.2.2.2.2 a (List.mem_of_getElem? HH.out)) (by have:=HN.out.2;omega)).mono ?_;rintro e w4 ⟨x0,x1,x3,x4,rfl,hb⟩;have B4:Below wr.heap.size wr (w4.alloc (.cells #[.int .i64 x0,.int .i64 x1,.int .i64 0,.int .i64 x3,.int .i64 x4] 104)):=hb.alloc hb.size _;have Q4:=Ab (show Below w.heap.size w _/\Row _ _ 104 5 (i*L+k) (k0H l) g from ⟨Q.out.1.trans (B4.mono Q.out.1.size),Q.out.2.1.below B4⟩);clear hb B4))
       have hw4:w.heap.size<=(World.alloc _ _).heap.size:=Q4.out.1.size;refine ⟨⟨k+1,l++[(x0,x1,x3,x4)],g6,zz1,rfl,⟨?_,?_,?_,?_⟩⟩,?_⟩
       · exact Only.toB Q4.out.1 K6.out.2.1 Q.out.2.2.2
       · have e:k0H (l++[(x0,x1,x3,x4)])=k0H l++[.int .i64 x0,.int .i64 x1,.int .i64 0,.int .i64 x3,.int .i64 x4]:=by simp [k0H]
         rw [e];exact K6.out.1
       · rw [List.length_append,Q.out.2.2.1];rfl
       · intro b e
         rcases K6.out.2.2 with e2 | ⟨b2,e2,hb2⟩
         · exact Q.out.2.2.2 b (by rw [<- e2];exact e)
         · rw [e] at e2;cases e2;exact Nat.le_trans hw4 hb2
       · show L-ixOf (.int .i64 ((k:Int)+1))<L-ixOf (.int .i64 (k:Int))
         simp only [ixOf];exact zz1
     · have e2:¬ (k:Int)<(L:Int):=by omega
       obtain rfl:L=k:=by omega
       go_wp2;refine ⟨⟨i+1,l,g,zz1,rfl,⟨Q.out.1,by rw [Nat.add_mul,Nat.one_mul];exact Q.out.2.1,by rw [Nat.add_mul,Nat.one_mul];exact Q.out.2.2.1,Q.out.2.2.2⟩⟩,?_⟩;exact zz20
  · have e1:¬ (i:Int)<(n:Int):=by omega
    obtain rfl:n=i:=by omega
    go_wp2;go_ret;exact ⟨_,l,g,rfl,by rw [<- HN.out.1,<- HN.out.2];exact R.out.2.1,by rw [<- HN.out.1,<- HN.out.2];exact R.out.2.2.1,R.out.1⟩
end
end Go.Proofs.YtdopmlopafgonaaGreatDoor.Own
