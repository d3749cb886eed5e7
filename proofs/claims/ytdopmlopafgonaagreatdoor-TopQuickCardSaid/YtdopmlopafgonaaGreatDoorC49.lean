/- TopQuick: one packet alone is brought from host to host (a part of the walks and of the plain laws). -/
import Derived.Test.YtdopmlopafgonaaGreatDoorC0
import Derived.Test.YtdopmlopafgonaaGreatDoorC48
set_option linter.unusedVariables false
set_option linter.unusedSimpArgs false
set_option maxHeartbeats 4000000
set_option maxRecDepth 100000
namespace Go.Proofs.YtdopmlopafgonaaGreatDoor.Own
open Go.RowKit Go.Proofs.YtdopmlopafgonaaGreatDoorW.PrintWords Go.Proofs.YtdopmlopafgonaaGreatDoorW.PrintLast Go.Proofs.YtdopmlopafgonaaGreatDoorW.PrintMore
theorem Good.ways {D:PlanD} (G:Good D):∃ P,Ways D P:=by
 have h:∀ v w,∃ l,v<D.nodes->w<D.nodes->IsPath D v w l:=fun v w=>by
  by_cases hv:v<D.nodes
  · by_cases hw:w<D.nodes
    · obtain ⟨l,hl⟩:=G.path v w hv hw;exact ⟨l,fun _ _=>hl⟩
    · exact ⟨[],fun _ h=>absurd h hw⟩
  · exact ⟨[],fun h=>absurd h hv⟩
 exact ⟨fun v w=>Classical.choose (h v w),fun v w hv hw=>Classical.choose_spec (h v w) hv hw⟩
theorem k2w {D:PlanD} {P:Nat->Nat->List Nat} (G:Good D) (W:Ways D P):Holds D P [] (D.start:Int) 0 (fst0 D):=Holds.new G W (fun _ _=>rfl) (fun _ _=>rfl) rfl
section
variable {w:World} {o:Nat->Col} {D:PlanD} {F:FTab} {st:FSt} {P:Nat->Nat->List Nat} {S:List Pk} {M:Int} {C:Nat}
theorem k48 (H:FabAt w o D F st) (G:Good D) (W:Ways D P) (hf:Fresh o w) (K:Holds D P S M C st) (hT:Tab w) (h0:o 0 = .fix) (hM:M+6<=D.start+30000) (hC:C+6<=9000) :
 Calls Tryz.prog 19 #[.pointer (some ⟨F.g,0,none⟩)] w fun e w'=>e = .returned (.tuple #[])/\∃ o' st',k6o D st st'/\Holds D P S (M+6) (C+6) st'/\FabAt w' o' D F st'/\Tr k1f o w o' w':=by
 have hs1:=G.s1;have htk:=K.tk;refine (k9t (M+6) (C+6) (fun s=>Holds D P S (M+6) (C+6) s) (fun s h=>⟨h.fok,h.lok⟩) (fun s s' a h ha d=>h.del G W hM ha d) (fun s' t=>K.tick G W zz1 t) M C H G hf K.fok K.lok hT h0 zz1 hC (fun v hv=>by have:=htk.1 v hv;omega) (by have:=htk.2;omega)).mono ?_;rintro e w' ⟨o',st',rfl,h1,h2,h3,h4⟩;exact ⟨rfl,o',st',h1,h2,h3,h4⟩
end
def planK:PlanD:=k1z [0] 1 0 0
theorem good_planK:Good planK:=k2O [0] 1 0 0 zz1
theorem k5c:planK.hops=[(0,1),(1,0)]:=by decide +kernel
theorem k1C:planK.nodes=2:=by decide +kernel
theorem k2T:planK.lanes=1:=by decide +kernel
theorem k7h:planK.start=0:=by decide +kernel
theorem k7H:planK.bs 0=[1]/\planK.bs 1=[0]/\planK.nxt 0 1=1:=by decide +kernel
theorem k3z:IsPath planK 0 1 [0,1] where
 len:=by rw [k1C];decide
 pos:=by decide
 first:=rfl
 last:=rfl
 nodup:=by decide
 step:=fun i a b h1 h2=>by
  obtain rfl:i=0:=by
   have:=(List.getElem?_eq_some_iff.1 h2).1;simp at this;exact zz1
  simp at h1 h2;subst h1;subst h2;exact ⟨by rw [k7H.1];simp,k7H.2.2,zz8⟩
def pkK:Pk:=⟨((0:Nat):Int),((1:Nat):Int),((0:Nat):Int),7⟩
theorem kaZ:PkIn planK 0 pkK:=⟨0,1,rfl,rfl,by rw [k1C];omega,by rw [k1C];omega,zz1,rfl,by show (0:Int)<=7;omega,by show (7:Int)<=4294967295;omega⟩
section
variable {w:World} {o:Nat->Col}
theorem k7c (hf:Fresh o w) (hT:Tab w) (ho:∀ b,b<w.heap.size->o b = .fix):Calls Tryz.prog 5 #[] w fun e w'=>e = .returned (.bool true)/\Below w.heap.size w w':=by
 obtain ⟨P,W⟩:=good_planK.ways;have h0:o 0 = .fix:=ho 0 hT.lt;have HO:=Ab ho;clear ho;have HG:=Ab (show Good planK/\Ways planK P/\Fresh o w/\Tab w/\o 0 = .fix from ⟨good_planK,W,hf,hT,h0⟩);obtain ⟨w1,hw1⟩:∃ w1,w1=w.alloc (.cells #[.int .u8 0] 5):=⟨_,rfl⟩;have L1:=Ab (show Below w.heap.size w w1 from by rw [hw1];exact (Below.refl _ w).alloc (Nat.le_refl _) _);have Z1:w1.heap[w.heap.size]? = some (.cells #[.int .u8 0] 5 (0,0)):=by rw [hw1];exact heap_alloc_new w _
 have cp:Calls Tryz.prog 15 #[.slice (some ⟨w.heap.size,0,none⟩) 1 1,.int .u8 1,.int .u8 0,.int .u16 0] w1 _:=k4W (some ⟨w.heap.size,0,none⟩) 1 [0] zz17 1 0 0 w1 zz1 zz1 zz1 ⟨rfl,by simp [ints],fun _=>⟨_,rfl,fun j p hp=>⟨[.int .u8 p],rfl,rfl,fun i u hu=>(by
  have hj:j=0:=by have:=(List.getElem?_eq_some_iff.1 hp).1;simp [ints] at this;exact this
  have hi:i=0:=by have:=(List.getElem?_eq_some_iff.1 hu).1;simp at this;exact this
  subst hj hi;simp [ints] at hp hu;subst hp hu;rw [Addr.add_lit];exact (k00 Z1 0).trans rfl)⟩⟩⟩ (by simp [ints])
 clear W hf hT h0 Z1;have HW:=Ab hw1;go_enter Tryz.func5,Tryz.ntmps5
 go_wp2_with fail
 go_at_call 15;rw [<- HW.out];refine cp.mono ?_;rintro e w2 ⟨v2,rfl,hp,hb⟩;have P2:=Ab (show PlanV w2 _ v2 planK/\Below w.heap.size w w2 from ⟨hp,L1.out.trans (hb.mono L1.out.size)⟩);clear hp hb cp HW hw1
 go_wp2_with fail
 go_at_call 14;refine (k8P (o:=o) _ _ P2.out.1 HG.out.1 (HG.out.2.2.1.blw P2.out.2)).mono ?_;rintro e w3 ⟨F,o3,rfl,hF,hN⟩;have K3:=Ab (show FabAt w3 o3 planK F (fst0 planK)/\NewB w.heap.size o w o3 w3 from ⟨hF,⟨P2.out.2.trans (hN.below.mono P2.out.2.size),fun b hb=>hN.own b (Nat.lt_of_lt_of_le hb P2.out.2.size),hN.fresh⟩⟩);clear hF hN;have n0:0<planK.nodes:=by rw [k1C];omega
 have n1:1<planK.nodes:=by rw [k1C];omega
 have hp0:planK.hops[0]? = some (0,1):=by rw [k5c];rfl
 have HP0:=Ab hp0;clear hp0
 go_wp2_with (first
  | (go_at_call 18;refine (k4l ((K3.out.1.blw K3.out.2.fresh B4.out).node 1 n1)).mono ?_;rintro e w5 ⟨rfl,rfl⟩)
  | (go_at_call 17;refine (k3j K3.out.1 HG.out.1 0 (0,1) HP0.out).mono ?_;rintro e w4 ⟨rfl,hb4⟩;have B4:=Ab hb4;clear hb4)
  | (go_at_call 16;refine (k1Z (K3.out.1.blw K3.out.2.fresh B4.out) HG.out.1 1 n1).mono ?_;rintro e w5 ⟨rfl,rfl⟩)
  | (go_at_call 16;refine (k1Z K3.out.1 HG.out.1 0 n0).mono ?_;rintro e w5 ⟨rfl,rfl⟩))
 have T4:=Ab (show Fresh o3 w4/\Tab w4/\o3 0 = .fix/\Below w.heap.size w w4 from ⟨K3.out.2.fresh.blw B4.out,(HG.out.2.2.2.1.below K3.out.2.below).below B4.out,(K3.out.2.own 0 HG.out.2.2.2.1.lt).trans HG.out.2.2.2.2,K3.out.2.below.trans (B4.out.mono K3.out.2.below.size)⟩);have TB:=Ab (fun (W:World) (o':Nat->Col) (t:Tr k1f o3 w4 o' W)=>(show Fresh o' W/\Tab W/\o' 0 = .fix/\Below w.heap.size w W from
  ⟨t.fresh,T4.out.2.1.tr t (by rw [T4.out.2.2.1];exact k1o),(t.own 0 T4.out.2.1.lt).trans T4.out.2.2.1,
   ⟨t.only.os.trans T4.out.2.2.2.os,t.only.tape.trans T4.out.2.2.2.tape,t.only.output.trans T4.out.2.2.2.output,Nat.le_trans T4.out.2.2.2.size t.only.size,fun b hb=>(t.only.keep b (Nat.lt_of_lt_of_le hb T4.out.2.2.2.size) (by rw [K3.out.2.own b hb,HO.out b hb];exact k1o)).trans (T4.out.2.2.2.block b hb)⟩⟩))
 have H4:=Ab (show FabAt w4 o3 planK F (fst0 planK)/\Holds planK P [] (planK.start:Int) 0 (fst0 planK) from ⟨K3.out.1.blw K3.out.2.fresh B4.out,k2w HG.out.1 HG.out.2.1⟩);have l0:0<planK.lanes:=by rw [k2T];omega
 refine (k3o 0 1 0 7 (planK.start:Int) 0 H4.out.1 HG.out.1 T4.out.1 H4.out.2.fok n0 n1 l0).mono ?_;rintro e w6 ⟨c,o6,s6,rfl,hr,hF6,ht6⟩;obtain ⟨rfl,hs6⟩:=k5a (st:=fst0 planK) HG.out.1 k3z n0 (show (0:Nat)≠1 by omega) (fun _ _=>rfl) (fun _ _=>rfl) hr;have hh6:=H4.out.2.inject HG.out.1 HG.out.2.1 n0 n1 l0 zz1 zz1 hr;rw [if_pos rfl] at hh6;have K6:=Ab (show Solo planK [0,1] pkK 0 _/\Holds planK P [pkK] (planK.start:Int) 0 _/\FabAt w6 o6 planK F { fst0 planK with node:=upd (fst0 planK).node 0 s6 } /\ Tr k1f o3 w4 o6 w6 from ⟨hs6,hh6,hF6,ht6.mono (fun c h=>.inl ⟨0,h⟩)⟩);clear hr hF6 ht6 hs6 hh6;obtain ⟨st6,hst6⟩:∃ st6,st6 = { fst0 planK with node:=upd (fst0 planK).node 0 s6 }:=⟨_,rfl⟩;rw [<- hst6] at K6;clear hst6;have hst:(planK.start:Int)=0:=by rw [k7h];rfl
 have HST:=Ab hst;clear hst
 go_wp2_with (first
  | (go_at_call 19;refine (k48 K7.out.2.2.1 HG.out.1 HG.out.2.1 (TB.out _ _ K7.out.2.2.2).1 K7.out.2.1 (TB.out _ _ K7.out.2.2.2).2.1 (TB.out _ _ K7.out.2.2.2).2.2.1 zz1 zz1).mono ?_;rintro e w8 ⟨rfl,o8,st8,hr8,hh8,hF8,ht8⟩;have hs8:=(k3A HG.out.1 HG.out.2.1 k3z n0 n1 rfl kaZ K7.out.1 (u:=1) rfl K7.out.2.1 (by have:=HST.out;omega) zz1 hr8).2 rfl;have K8:=Ab (show (One planK [0,1] 2 (Wf pkK 1) (fun _ _=>[]) none (fun _ _=>0) st8/\∀ a∈planK.hops,st8.link a=[])/\_/\_/\Tr k1f o3 w4 o8 w8 from ⟨hs8,hh8,hF8,K7.out.2.2.2.trans ht8⟩);clear hr8 hh8 hF8 ht8 hs8)
  | (go_at_call 19;refine (k48 K6.out.2.2.1 HG.out.1 HG.out.2.1 (TB.out _ _ K6.out.2.2.2).1 K6.out.2.1 (TB.out _ _ K6.out.2.2.2).2.1 (TB.out _ _ K6.out.2.2.2).2.2.1 zz1 zz1).mono ?_;rintro e w7 ⟨rfl,o7,st7,hr7,hh7,hF7,ht7⟩;have hs7:=(k3A HG.out.1 HG.out.2.1 k3z n0 n1 rfl kaZ K6.out.1 (u:=0) rfl K6.out.2.1 (by have:=HST.out;omega) zz1 hr7).1 1 rfl;have K7:=Ab (show Solo planK [0,1] pkK 1 st7/\_/\_/\Tr k1f o3 w4 o7 w7 from ⟨hs7,hh7,hF7,K6.out.2.2.2.trans ht7⟩);clear hr7 hh7 hF7 ht7 hs7))
 have hc:(st8.node 1).waits 3=[pkK]:=K8.out.1.1.wt 1 n1 3 zz1;have Q8:=Ab (show (∀ v,v<planK.nodes->∀ k,k<planK.lanes->(st8.node v).waits k=[])/\(∀ v,v<planK.nodes->∀ a,(st8.node v).q a=[]) from ⟨fun v hv k hk=>by
  rw [k2T] at hk;rw [K8.out.1.1.wt v hv k zz1];unfold Wf;rw [if_neg (fun e=>by omega)],fun v hv a=>K8.out.1.1.qu v hv a⟩)
 have HC:=Ab hc;have HL:=Ab (show planK.hops.length*planK.lanes=2 from by rw [k5c,k2T];rfl);have FR:=Ab (TB.out _ _ K8.out.2.2.2);clear hc
 go_wp2_with (first
  | (go_at_call 21;refine (k6f _ _ (K8.out.2.2.1.blw FR.out.1 L10.out) HG.out.1 (FR.out.1.blw L10.out) K8.out.2.1.fok K8.out.1.2).mono ?_;rintro e w11 ⟨V,l,g,rfl,hr,_,hb⟩;rw [HL.out] at hr;obtain ⟨A11,k11,rfl,_⟩:=hr.size;have L11:=Ab (show Below w8.heap.size w8 w11 from L10.out.trans (hb.mono L10.out.size));clear hr hb)
  | (go_at_call 20;refine (k8a _ _ (K8.out.2.2.1.blw FR.out.1 L9.out) HG.out.1 (FR.out.1.blw L9.out) K8.out.2.1.fok Q8.out.1 Q8.out.2 K8.out.1.2).mono ?_;rintro e w10 ⟨rfl,hb⟩;have L10:=Ab (show Below w8.heap.size w8 w10 from L9.out.trans (hb.mono L9.out.size));clear hb)
  | (go_at_call 8;refine (k7g 1 K8.out.2.2.1 HG.out.1 n1 (by rw [HC.out];simp)).mono ?_;rintro e w9 ⟨v9,g9,rfl,hr,hb,_⟩;rw [HC.out] at hr;obtain ⟨A9,k9,rfl,_⟩:=hr.size;have L9:=Ab hb;clear hr hb))
 go_ret;exact ⟨rfl,FR.out.2.2.2.trans (L11.out.mono FR.out.2.2.2.size)⟩
end
section
variable {w:World}
def col0 (w:World):Nat->Col:=fun b=>if b<w.heap.size then .fix else .junk
theorem k50 (w:World):Fresh (col0 w) w:=fun b hb=>if_neg (Nat.not_lt.2 hb)
theorem k5z (w:World):∀ b,b<w.heap.size->col0 w b = .fix:=fun b hb=>if_pos hb
theorem Tr.old {T:Col->Prop} {w1 w2:World} {o1 o2:Nat->Col} (t:Tr T o1 w1 o2 w2) (b:Below w.heap.size w w1) (h:∀ b,b<w.heap.size->o1 b = .fix) (hn:¬ T .fix):Below w.heap.size w w2:=
 ⟨t.only.os.trans b.os,t.only.tape.trans b.tape,t.only.output.trans b.output,Nat.le_trans b.size t.only.size,fun c hc=>(t.only.keep c (Nat.lt_of_lt_of_le hc b.size) (by rw [h c hc];exact hn)).trans (b.block c hc)⟩
theorem k4h (A:Option Addr) (c:Nat) (l:List Nat) (hx:∀ x∈l,x<256) (a1 a2 s p q:Nat) (z:Int) (h1:a1<256) (h2:a2<256) (h3:s<65536) (h4:p<256) (h5:q<256) (h6:0<=z) (h7:z<=4294967295) (hr:Kd.C (Kd.int .u8) w A (ints l).length (ints l)) (hc:(ints l).length<=c) (hT:Tab w) :
 Calls Tryz.prog 3 #[.slice A (ints l).length c,.int .u8 a1,.int .u8 a2,.int .u16 s,.int .u8 p,.int .u8 q,.int .u32 z] w fun e w'=>e = .returned (.bool true)/\Below w.heap.size w w':=by
 have ck:=k7c (w:=w) (k50 w) hT (k5z w);have HI:=Ab (show (∀ x∈l,x<256)/\a1<256/\a2<256/\s<65536/\Kd.C (Kd.int .u8) w A (ints l).length (ints l)/\(ints l).length<=c/\Tab w from ⟨hx,h1,h2,h3,hr,hc,hT⟩);have G:=k2O l a1 a2 s h3;obtain ⟨D,hD⟩:∃ D,D=k1z l a1 a2 s:=⟨_,rfl⟩;rw [<- hD] at G;obtain ⟨P,W⟩:=G.ways;have hn0:=G.n0;have hn6:=G.n1;have HG:=Ab (show Good D/\Ways D P/\D=k1z l a1 a2 s from ⟨G,W,hD⟩);obtain ⟨n,hn⟩:∃ n,n=D.nodes:=⟨_,rfl⟩;have HN:=Ab hn;rw [<- hn] at hn0 hn6;have l0:=G.l0;have L0:=Ab l0;have HL0:=Ab (show 1<=D.lanes from by have:=G.l0;omega);clear hx h1 h2 h3 hr hc hT hD W G hn l0;obtain ⟨m,hm⟩:∃ m,m=(ints l).length:=⟨_,rfl⟩;have HM:=Ab hm;rw [<- hm];clear hm;go_enter Tryz.func3,Tryz.ntmps3
 go_wp2_with fail
 go_at_call 5;refine ck.mono ?_;rintro e w1 ⟨rfl,hb1⟩;have B1:=Ab hb1;have F1:=Ab (show Fresh (col0 w) w1 from (k50 w).blw hb1);clear hb1 ck
 go_wp2_with fail
 go_at_call 6;have cb:=k78 (w:=w1) (o:=col0 w) A c l HI.out.1 a1 a2 s HI.out.2.1 HI.out.2.2.1 HI.out.2.2.2.1 ((Kd.int .u8).C_below HI.out.2.2.2.2.1 B1.out) HI.out.2.2.2.2.2.1 F1.out (HI.out.2.2.2.2.2.2.below B1.out) (k5z w 0 HI.out.2.2.2.2.2.2.lt);rw [HM.out];refine cb.mono ?_;rintro e w2 ⟨Y,rfl,o2,F,hP,hN⟩;rw [<- HG.out.2.2] at hP;have K2:=Ab (show PlayAt w2 o2 D F Y (fst0 D) [] (.slice none 0 0) none 0/\Below w.heap.size w w2/\(∀ b,b<w.heap.size->o2 b = .fix) from ⟨hP,B1.out.trans (hN.below.mono B1.out.size),fun b hb=>(hN.own b (Nat.lt_of_lt_of_le hb B1.out.size)).trans (k5z w b hb)⟩);have b0:=fun j=>k00 K2.out.1.blk j
 rw [<- HN.out] at b0;clear hP hN cb;obtain ⟨v,hv⟩:∃ v,v=p % n:=⟨_,rfl⟩;obtain ⟨u,hu⟩:∃ u,u=q % n:=⟨_,rfl⟩;have hvn:v<n:=by rw [hv];exact Nat.mod_lt _ zz1
 have hun:u<n:=by rw [hu];exact Nat.mod_lt _ zz1
 have ev:(p:Int) % (n:Int)=(v:Int):=by rw [hv];omega
 have eu:(q:Int) % (n:Int)=(u:Int):=by rw [hu];omega
 clear hv hu;have VN:=Ab (show v<D.nodes/\u<D.nodes from ⟨by rw [<- HN.out];exact hvn,by rw [<- HN.out];exact hun⟩);by_cases hvu:v=u
 · subst hvu
   go_wp2_with fail
   go_at_call 7;refine (k3o v v 0 0 (D.start:Int) 0 K2.out.1.fab HG.out.1 K2.out.1.fresh (k2w HG.out.1 HG.out.2.1).fok VN.out.1 VN.out.1 L0.out).mono ?_;rintro e w6 ⟨c6,o6,s6,rfl,hr,hF6,ht6⟩;obtain ⟨rfl⟩:c6=1:=by
    rcases hr with ⟨_,h,_⟩ | ⟨h,_⟩ | ⟨h,_⟩
    · exact h
    · exact absurd rfl h
    · exact absurd rfl h
   have B6:=Ab (ht6.old K2.out.2.1 K2.out.2.2 (by rintro ⟨⟩));clear hr hF6 ht6;go_wp2;go_ret;exact ⟨rfl,B6.out⟩
 have e0:((v:Int) == (u:Int))=false:=by simp;omega
 obtain ⟨L,hL⟩:=HG.out.1.path v u VN.out.1 VN.out.2;have hLp:=hL.pos;have hLn:=hL.len;rw [<- HN.out] at hLn;have HL:=Ab hL;have NE:=Ab hvu;clear hL hvu
 go_wp2_with fail
 rw [ev,eu]
 go_loopw [18,19] (fun s18 s19 wr=>∃ (i a:Nat),i<L.length/\a<n/\s18 = .int .i64 ((i:Int)+1)/\s19 = .int .i64 a/\k08 (L[i]? = some a)/\wr=w2) (fun s18 _ _=>L.length+1-ixOf s18)
 case atStart=>exact ⟨0,v,hLp,hvn,rfl,rfl,⟨HL.out.first⟩,rfl⟩
 case round=>
  obtain ⟨i,a,hi,ha,rfl,rfl,HA,rfl⟩:=hrel;by_cases hau:a=u
  · subst hau
    have hlast:i+1=L.length:=by
     rcases Nat.lt_or_ge (i+1) L.length with h | h
     · obtain ⟨b,hb⟩:∃ b,L[i+1]? = some b:=⟨_,List.getElem?_eq_getElem h⟩
       exact absurd rfl (HL.out.step i a b HA.out hb).2.2
     · exact zz1
    have LL:=Ab hlast;clear hlast
    go_wp2_with fail
    go_at_call 7;refine (k3o v a 0 z (D.start:Int) 0 K2.out.1.fab HG.out.1 K2.out.1.fresh (k2w HG.out.1 HG.out.2.1).fok VN.out.1 VN.out.2 L0.out).mono ?_;rintro e w6 ⟨c6,o6,s6,rfl,hr,hF6,ht6⟩;obtain ⟨rfl,hs6⟩:=k5a (st:=fst0 D) HG.out.1 HL.out VN.out.1 NE.out (fun _ _=>rfl) (fun _ _=>rfl) hr;have hh6:=(k2w HG.out.1 HG.out.2.1).inject HG.out.1 HG.out.2.1 VN.out.1 VN.out.2 L0.out h6 h7 hr;rw [if_pos rfl] at hh6;have K6:=Ab (show Solo D L ⟨v,a,((0:Nat):Int),z⟩ 0 _/\Holds D P [⟨v,a,((0:Nat):Int),z⟩] (D.start:Int) 0 _/\PlayAt w6 o6 D F Y { fst0 D with node:=upd (fst0 D).node v s6 } [] (.slice none 0 0) none 0/\Below w.heap.size w w6/\(∀ b,b<w.heap.size->o6 b = .fix) from ⟨hs6,hh6,K2.out.1.fabTo ht6 (by rintro ⟨⟩) (by rintro ⟨⟩) hF6,ht6.old K2.out.2.1 K2.out.2.2 (by rintro ⟨⟩),fun b hb=>(ht6.own b (Nat.lt_of_lt_of_le hb K2.out.2.1.size)).trans (K2.out.2.2 b hb)⟩);clear hr hF6 ht6 hs6 hh6;obtain ⟨st6,hst6⟩:∃ st6,st6 = { fst0 D with node:=upd (fst0 D).node v s6 }:=⟨_,rfl⟩;rw [<- hst6] at K6;clear hst6;obtain ⟨x,hx⟩:∃ x:Pk,x=⟨v,a,((0:Nat):Int),z⟩:=⟨_,rfl⟩;have HX:=Ab hx;rw [<- hx] at K6;have hpx:PkIn D 0 x:=⟨v,a,by rw [hx],by rw [hx],VN.out.1,VN.out.2,NE.out,by rw [hx],by rw [hx];exact h6,by rw [hx];exact h7⟩;have HP:=Ab (show PkIn D 0 x/\x.dst=(a:Nat) from ⟨hpx,by rw [hx]⟩);clear hx hpx;obtain ⟨N,hN⟩:∃ N,N=L.length:=⟨_,rfl⟩;have hN6:N<=6:=by omega
    have eN:(i:Int)+1=(N:Int):=by have:=LL.out;omega
    have HNN:=Ab hN;clear hN hi hLp hLn
    go_wp2_with fail
    go_loopw [20] (fun s20 wq=>∃ (r:Nat) (oc:Nat->Col) (st:FSt) (ov:Int),r<=N/\s20 = .int .i64 r/\k08 ((r<N->Solo D L x r st)/\(r=N->One D L N (Wf x a) (fun _ _=>[]) none (fun _ _=>0) st)/\Holds D P [x] ((D.start:Int)+6*r) (6*r) st/\PlayAt wq oc D F Y st [] (.slice none 0 0) none ov/\Below w.heap.size w wq/\(∀ b,b<w.heap.size->oc b = .fix))) (fun s20 _=>N-ixOf s20)
    case atStart=>exact ⟨0,o6,st6,0,Nat.zero_le _,rfl,⟨fun _=>K6.out.1,fun h=>absurd h (by have:=HNN.out;have:=HL.out.pos;omega),by simpa using K6.out.2.1,K6.out.2.2⟩⟩
    case round=>
     obtain ⟨r,oc,st,ov,hr,rfl,R⟩:=hrel;have b1:=fun j=>k00 R.out.2.2.2.1.blk j
     by_cases hlt:r<N
     · have e1:(r:Int)<(N:Int):=by omega
       have SO:=Ab (R.out.1 hlt);have hw0:(st.node a).waits 3=[]:=by
        rw [SO.out.1.wt a VN.out.2 3 zz1];unfold Wr;rw [if_neg (by rintro ⟨_,_,h⟩;cases h)]
       have W0:=Ab hw0;clear hw0
       go_wp2_with (first
        | (go_at_call 9;refine (k8r P ((D.start:Int)+6*r) (6*r) K9.out.2.1 HG.out.1 HG.out.2.1 R.out.2.2.1 zz1 zz1).mono ?_;rintro e w8 ⟨rfl,o8,st8,ov8,⟨hr8,hh8⟩,hP8,ht8⟩;have K8:=Ab (show k6o D st st8/\Holds D P [x] ((D.start:Int)+6*r+6) (6*r+6) st8/\PlayAt w8 o8 D F Y st8 [] (.slice none 0 0) none ov8/\Below w.heap.size w w8/\(∀ b,b<w.heap.size->o8 b = .fix) from ⟨hr8,hh8,hP8,ht8.old K9.out.2.2.1 K9.out.2.2.2 k69,fun b hb=>(ht8.own b (Nat.lt_of_lt_of_le hb K9.out.2.2.1.size)).trans (K9.out.2.2.2 b hb)⟩);clear hr8 hh8 hP8 ht8)
        | (go_at_call 8;refine (k7g a R.out.2.2.2.1.fab HG.out.1 VN.out.2 (by rw [W0.out];simp)).mono ?_;rintro e w9 ⟨v9,g9,rfl,hr,hb,_⟩;rw [W0.out] at hr;obtain ⟨A9,k9,rfl,_⟩:=hr.size;have K9:=Ab (show Below wr.heap.size wr w9/\PlayAt w9 oc D F Y st [] (.slice none 0 0) none ov/\Below w.heap.size w w9/\(∀ b,b<w.heap.size->oc b = .fix) from ⟨hb,R.out.2.2.2.1.blw hb,R.out.2.2.2.2.1.trans (hb.mono R.out.2.2.2.2.1.size),R.out.2.2.2.2.2⟩);clear hr hb))
       obtain ⟨u',hu'⟩:∃ u',L[r]? = some u':=⟨_,List.getElem?_eq_getElem (by have:=HNN.out;omega)⟩;have hs1:=HG.out.1.s1;have hso:=k3A HG.out.1 HG.out.2.1 HL.out VN.out.1 VN.out.2 HP.out.2 HP.out.1 SO.out (u:=u') hu' R.out.2.2.1 zz1 zz1 K8.out.1;refine ⟨⟨r+1,o8,st8,ov8,zz1,rfl,⟨fun h=>?_,fun h=>?_,?_,K8.out.2.2⟩⟩,?_⟩
       · obtain ⟨b,hb⟩:∃ b,L[r+1]? = some b:=⟨_,List.getElem?_eq_getElem (by have:=HNN.out;omega)⟩
         exact hso.1 b hb
       · rw [<- h]
         exact (hso.2 (by rw [h];exact HNN.out)).1
       · have hk:=K8.out.2.1
         rw [show (D.start:Int)+6*(r:Int)+6=(D.start:Int)+6*((r+1:Nat):Int) by omega] at hk;exact hk
       · show N-ixOf (.int .i64 ((r:Int)+1))<N-ixOf (.int .i64 (r:Int))
         simp only [ixOf];exact zz1
     · have e1:¬ (r:Int)<(N:Int):=by omega
       obtain rfl:N=r:=by omega
       have OO:=Ab (R.out.2.1 rfl);have hw1:(st.node a).waits 3=[x]:=by
        rw [OO.out.wt a VN.out.2 3 zz1];unfold Wf;rw [if_pos ⟨rfl,rfl⟩]
       have W1:=Ab hw1;clear hw1
       go_wp2_with (go_at_call 8;refine (k7g a R.out.2.2.2.1.fab HG.out.1 VN.out.2 (by rw [W1.out];simp)).mono ?_;rintro e w9 ⟨v9,g9,rfl,hr,hb,_⟩;rw [W1.out] at hr;obtain ⟨b9,f9,k9,_,rfl,_,_,hc⟩:=hr.open zz17;have c0:=hc 0 (by simp [k0W,Pk.enc]);have c1:=hc 1 (by simp [k0W,Pk.enc]);have c2:=hc 2 (by simp [k0W,Pk.enc]);have c3:=hc 3 (by simp [k0W,Pk.enc]);rw [HX.out] at c0 c1 c2 c3;have B9:=Ab (show Below w.heap.size w w9 from R.out.2.2.2.2.1.trans (hb.mono R.out.2.2.2.2.1.size));simp [k0W,Pk.enc] at c0 c1 c2 c3;clear hr hb hc)
       go_ret;exact ⟨rfl,B9.out⟩
  · have e1:((a:Int) != (u:Int))=true:=by simp;omega
    have hk1:i+1<L.length:=by
     rcases Nat.lt_or_ge (i+1) L.length with h | h
     · exact h
     · exfalso
       have h1:=HL.out.last;rw [show L.length-1=i by omega,HA.out] at h1;exact hau (Option.some.inj h1)
    obtain ⟨b,hb⟩:∃ b,L[i+1]? = some b:=⟨_,List.getElem?_eq_getElem hk1⟩;obtain ⟨hbs,hnx,_⟩:=HL.out.step i a b HA.out hb;have hbn:=k71 hbs;rw [<- HN.out] at hbn;obtain ⟨nb,no,rb,ro,rc,hA3,k1,k2⟩:=K2.out.1.plan.way HG.out.1 a u (by rw [<- HN.out];exact ha) VN.out.2;rw [hnx] at k2;rw [<- HN.out] at k1;have b10:wr.cell? ⟨Y.g,10,none⟩=some (.slice (some ⟨nb,no,none⟩) D.next.length Y.c3):=(k00 K2.out.1.blk 10).trans (by rw [hA3];rfl);have hnl:(D.next.length:Nat)=n:=HG.out.1.nl.trans HN.out.symm;rw [hnl] at b10;have i1:(a:Int)<(n:Nat):=by omega
    have i2:(u:Int)<(n:Nat):=by omega
    have HB:=Ab (show _/\_/\_ from ⟨hbs,hb,hnl⟩);clear hbs hb hnl hnx hA3 b0;go_wp2;refine ⟨⟨i+1,b,hk1,hbn,zz17,rfl,⟨HB.out.2.1⟩,trivial⟩,?_⟩;show L.length+1-ixOf (.int .i64 ((i:Int)+1+1))<L.length+1-ixOf (.int .i64 ((i:Int)+1));exact zz10
end
end Go.Proofs.YtdopmlopafgonaaGreatDoor.Own
