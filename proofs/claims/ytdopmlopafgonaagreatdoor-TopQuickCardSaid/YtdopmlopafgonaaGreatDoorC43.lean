/- TopQuick: one packet alone is brought from host to host (a part of the walks and of the plain laws). -/
import Derived.Test.YtdopmlopafgonaaGreatDoorC0
import Derived.Test.YtdopmlopafgonaaGreatDoorC42
set_option linter.unusedVariables false
set_option linter.unusedSimpArgs false
set_option maxHeartbeats 4000000
set_option maxRecDepth 100000
namespace Go.Proofs.YtdopmlopafgonaaGreatDoor.Own
open Go.RowKit Go.Proofs.YtdopmlopafgonaaGreatDoorW.PrintWords Go.Proofs.YtdopmlopafgonaaGreatDoorW.PrintLast Go.Proofs.YtdopmlopafgonaaGreatDoorW.PrintMore
section
variable {P:Program} {ops:Array Oper} {Q:Exit->Act->World->Prop} {md:Region.Mode} {S:World->Prop} {last:Nat}
theorem WpL.two {i j:Nat} {oi oj:Oper} {fuel:Nat} {listed:Array Bool} {a:Act} {w:World} (hr:Region.ready md ops listed=[i,j]) (hoi:ops[i]? = some oi) (hoj:ops[j]? = some oj)
 (hi:∀ K:Act->World->Prop,Shut (∀ a w,(i≠last->S w)->WpL P md ops Q S last fuel (listed.setIfInBounds i true) a w->K a w)->if Region.wanted oi (yielded ops a.tmps)=true then Oper.wp P oi a w K Q else K (a.put oi.dst undef) w)
 (hj:∀ K:Act->World->Prop,Shut (∀ a w,(j≠last->S w)->WpL P md ops Q S last fuel (listed.setIfInBounds j true) a w->K a w)->if Region.wanted oj (yielded ops a.tmps)=true then Oper.wp P oj a w K Q else K (a.put oj.dst undef) w) :
 WpL P md ops Q S last (fuel+1) listed a w:=
 ⟨fun h0=>(by rw [hr] at h0;cases h0),fun n hn=>by
  rw [hr] at hn;simp only [List.mem_cons,List.not_mem_nil,or_false] at hn;rcases hn with rfl | rfl
  · exact wpOp_step hoi (fun K' hK=>hi K' (fun a w hS hW=>hK a w ⟨hS,hW⟩))
  · exact wpOp_step hoj (fun K' hK=>hj K' (fun a w hS hW=>hK a w ⟨hS,hW⟩))⟩
theorem wp_at {P:Program} {c:Code} {Q:Exit->Act->World->Prop} {a:Act} {w:World} (F:Act->Exit->Act->World->Prop) (h:c.wp P (F a) a w) (hq:∀ e a' w',F a e a' w'->Q e a' w'):c.wp P Q a w:=Code.wp_mono hq h
end
section
variable {w:World} {o:Nat->Col} {D:PlanD}
structure New4 (w:World) (D:PlanD) (pb:Obj) (E1:Option Addr) (k1:Nat) (E2:Option Addr) (k2:Nat) (E3:Option Addr) (k3:Nat) (AH:Option Addr) (cH:Nat) (gh:Option Nat) (mb:Nat) (W:World):Prop where
 plan:PlanV W (fun b=>w.heap.size<=b) (pagg D E1 k1 E2 k2 E3 k3) D
 hops:Row W (.slice AH D.hops.length cH) 90 2 D.hops.length (k0d D.hops) gh
 hn:∀ b,gh=some b->w.heap.size<=b
 map:MapAt mapL W mb (fun _=>none)
 mn:w.heap.size<=mb
 bel:Below w.heap.size w W
 box:W.heap[w.heap.size]? = some pb
def New4A (w:World) (D:PlanD) (A1:Option Addr) (c1:Nat) (A2:Option Addr) (c2:Nat) (A3:Option Addr) (c3:Nat) (a0:Act) (e:Exit) (a':Act) (W':World):Prop:=
 ∃ E1 k1 E2 k2 E3 k3 AH cH gh mb W,New4 w D (pbox D A1 c1 A2 c2 A3 c3) E1 k1 E2 k2 E3 k3 AH cH gh mb W/\e = .normal/\W'=W.alloc (.cells #[.int .i64 D.nodes,.slice E1 D.edges.length k1,.int .i64 D.lanes,.int .i64 D.room,.int .i64 D.queue,.int .i64 D.rounds,.int .i64 D.every,.int .i64 D.bag,.slice E2 D.weights.length k2,.int .u16 D.start,.slice E3 D.next.length k3,.slice AH D.hops.length cH,.slice none 0 0,.map (some mb),.int .i64 0] 87) /\
  a'=((((((((a0.put (some 14) (pagg D A1 c1 A2 c2 A3 c3)).put (some 16) (pagg D A1 c1 A2 c2 A3 c3)).put (some 15) (pagg D E1 k1 E2 k2 E3 k3)).put (some 17) (.slice AH D.hops.length cH)).put (some 18) (.map (some mb))).put (some 19) (.agg #[.int .i64 D.nodes,.slice E1 D.edges.length k1,.int .i64 D.lanes,.int .i64 D.room,.int .i64 D.queue,.int .i64 D.rounds,.int .i64 D.every,.int .i64 D.bag,.slice E2 D.weights.length k2,.int .u16 D.start,.slice E3 D.next.length k3,.slice AH D.hops.length cH,.slice none 0 0,.map (some mb),.int .i64 0])).put (some 20) (.pointer (some ⟨W.heap.size,0,none⟩))).put (some 5) (.pointer (some ⟨W.heap.size,0,none⟩)))
theorem New4A.panic {A1 c1 A2 c2 A3 c3} {a0:Act} {c} {a':Act} {W':World} (h:New4A w D A1 c1 A2 c2 A3 c3 a0 (.panic c) a' W'):False:=by
 obtain ⟨_,_,_,_,_,_,_,_,_,_,_,_,h,_⟩:=h;exact zz45
theorem kbY:(Tryz.prog.info? 58).map (fun i=>(i.zero,i.size,i.bytes))=some (some (.pointer none),1,8):=by kernel_rfl
theorem k8P (B:Nat->Prop) (v:Value) (hP:PlanV w B v D) (G:Good D) (hf:Fresh o w) :
 Calls Tryz.prog 14 #[v] w fun e w'=>∃ F o',e = .returned (.tuple #[.pointer (some ⟨F.g,0,none⟩),.int .u16 0])/\FabAt w' o' D F (fst0 D)/\NewB w.heap.size o w o' w':=by
 obtain ⟨A1,c1,A2,c2,A3,c3,rfl⟩:=hP.shape;have P1:=Ab hP;have HG:=Ab (show _/\_ from ⟨G,hf⟩);have L1:=Ab ((Below.refl w.heap.size w).alloc (Nat.le_refl _) (pbox D A1 c1 A2 c2 A3 c3));have Z1:=Ab (heap_alloc_new w (pbox D A1 c1 A2 c2 A3 c3));clear hP G hf;go_enter Tryz.func14,Tryz.ntmps14
 go_wp2_with (go_at_call 35;refine (k46 _ _ D _ (P1.out.below L1.out) HG.out.1).mono ?_;rintro e w2 ⟨rfl,hb⟩;have L2:=Ab (show _/\_ from ⟨L1.out.trans (hb.mono L1.out.size),(hb.block _ zz17).trans Z1.out⟩);have b0:=fun i=>k00 L2.out.2 i;clear hb)
 clear b0;have L2d:=Ab (show Below w.heap.size w w2.drew/\w2.drew.heap[w.heap.size]? = some (pbox D A1 c1 A2 c2 A3 c3) from ⟨L2.out.1.drew,L2.out.2⟩);have hmm:=@run_makeMap Tryz.prog;refine wp_at (New4A w D A1 c1 A2 c2 A3 c3) ?_ ?_
 · refine WpL.region (fun (W:World)=>W.heap[w.heap.size]? = some (pbox D A1 c1 A2 c2 A3 c3)) 99 zz3 ?_
   refine WpL.takeE (i:=0) (v:=?vs_0) (rfl) zz3 zz3 zz3 zz3 zz3 (fun _ _ _ h=>(New4A.panic h).elim) ?ys_0 (L2d.out.2) ?rs_0
   case ys_0=>refine Or.inl ⟨?_,?_⟩;rfl;intro w hSw;have b0:=fun i=>k00 hSw i;go_simp;try with_reducible rfl
   refine Sm ?_;refine WpL.takeE (i:=2) (v:=?vs_2) (rfl) zz3 zz3 zz3 zz3 zz3 (fun _ _ _ h=>(New4A.panic h).elim) ?ys_2 (L2d.out.2) ?rs_2
   case ys_2=>refine Or.inl ⟨?_,?_⟩;rfl;intro w hSw;have b0:=fun i=>k00 hSw i;go_simp;try with_reducible rfl
   refine Sm ?_;refine WpL.two (i:=1) (j:=4) zz3 rfl rfl (fun K hK=>?_) (fun K hK=>?_)
   · go_simp
     have BX:=L2d.out.1;refine (k2J B _ D _ (P1.out.below BX) HG.out.1).mono ?_;rintro e wC ⟨vC,rfl,hpC,hbC⟩;obtain ⟨E1,k1,E2,k2,E3,k3,rfl⟩:=hpC.shape;have BC:=Ab (show Below w.heap.size w wC from BX.trans (hbC.mono BX.size));have PC:=Ab (hpC.mono (fun b hb=>Nat.le_trans BX.size hb));have XC:=Ab (show wC.heap[w.heap.size]? = some (pbox D A1 c1 A2 c2 A3 c3) from (hbC.block _ (k03 (L2d.out.2))).trans (L2d.out.2));have MC:=Ab hbC;clear BX hpC hbC;simp only [];refine hK.out _ _ (fun _=>XC.out) ?_;clear hK K
     try refine Sm ?_
     refine WpL.two (i:=3) (j:=4) zz3 rfl rfl (fun K hK=>?_) (fun K hK=>?_)
     · go_simp
       have BX:=BC.out;refine (k2x B _ D _ (P1.out.below BX) HG.out.1).mono ?_;rintro e wH ⟨vH,gh,rfl,hrH,hbH,hnH⟩;obtain ⟨AH,cH,rfl,_⟩:=hrH.size;have BH:=Ab (show Below w.heap.size w wH from BX.trans (hbH.mono BX.size));have RH:=Ab (show _/\∀ b,gh=some b->w.heap.size<=b from ⟨hrH,fun b e=>Nat.le_trans BX.size (hnH b e)⟩);have XH:=Ab (show wH.heap[w.heap.size]? = some (pbox D A1 c1 A2 c2 A3 c3) from (hbH.block _ (k03 (XC.out))).trans (XC.out));have MH:=Ab hbH;clear BX hrH hbH hnH;simp only [];refine hK.out _ _ (fun _=>XH.out) ?_;clear hK K
       try refine Sm ?_
       refine WpL.one (i:=4) zz3 rfl (fun K hK=>?_);go_simp;have BM:=Ab (show Below w.heap.size w (wH.alloc (.map #[] 0)) from (BH.out).alloc (BH.out).size _);have XM:=Ab (show (wH.alloc (.map #[] 0)).heap[w.heap.size]? = some (pbox D A1 c1 A2 c2 A3 c3) from (((Below.refl _ wH).alloc (Nat.le_refl _) (.map #[] 0)).block _ (k03 (XH.out))).trans (XH.out));have NM:=Ab (show MapAt mapL (wH.alloc (.map #[] 0)) wH.heap.size (fun _=>none) from MapAt.new mapL wH);have LM:=Ab (show Below wH.heap.size wH (wH.alloc (.map #[] 0)) from (Below.refl _ wH).alloc (Nat.le_refl _) _);have SM:=Ab (show w.heap.size<=wH.heap.size from (BH.out).size);refine hK.out _ _ (fun _=>XM.out) ?_;clear hK K
       try refine Sm ?_
       refine WpL.takeE (i:=5) (v:=?vC_5) (rfl) zz3 zz3 zz3 zz3 zz3 (fun _ _ _ h=>(New4A.panic h).elim) ?yC_5 (XM.out) ?rC_5
       case yC_5=>first | (refine Or.inr ⟨?_,?_⟩;rfl;rfl) | (refine Or.inl ⟨?_,?_⟩;rfl;intro w hSw;go_simp;try with_reducible rfl)
       refine Sm ?_;refine WpL.one (i:=6) zz3 rfl (fun K hK=>?_);go_simp;refine hK.out _ _ (fun _=>(((Below.refl _ _).alloc (Nat.le_refl _) _).block _ (k03 (XM.out))).trans (XM.out)) ?_;clear hK K
       try refine Sm ?_
       refine WpL.takeE (i:=7) (v:=?vCe_7) (rfl) zz3 zz3 zz3 zz3 zz3 (fun _ _ _ h=>(New4A.panic h).elim) ?yCe_7 ((((Below.refl _ _).alloc (Nat.le_refl _) _).block _ (k03 (XM.out))).trans (XM.out)) ?rCe_7
       case yCe_7=>first | (refine Or.inr ⟨?_,?_⟩;rfl;rfl) | (refine Or.inl ⟨?_,?_⟩;rfl;intro w hSw;go_simp;try with_reducible rfl)
       refine Sm ?_;refine WpL.done zz3 ?_ _;exact ⟨E1,k1,E2,k2,E3,k3,AH,cH,gh,_,_,⟨(PC.out.below MH.out).below LM.out,RH.out.1.below LM.out,RH.out.2,NM.out,SM.out,BM.out,XM.out⟩,rfl,rfl,by (simp only [Act.put,List.setIfInBounds_toArray,List.set_cons_zero,List.set_cons_succ,List.getElem_toArray,List.getElem_cons_succ,List.getElem_cons_zero]);first | done | (simp only [World.size_alloc];done) | rfl | (simp only [World.size_alloc];rfl)⟩
     · go_simp
       have BM:=Ab (show Below w.heap.size w (wC.alloc (.map #[] 0)) from (BC.out).alloc (BC.out).size _);have XM:=Ab (show (wC.alloc (.map #[] 0)).heap[w.heap.size]? = some (pbox D A1 c1 A2 c2 A3 c3) from (((Below.refl _ wC).alloc (Nat.le_refl _) (.map #[] 0)).block _ (k03 (XC.out))).trans (XC.out));have NM:=Ab (show MapAt mapL (wC.alloc (.map #[] 0)) wC.heap.size (fun _=>none) from MapAt.new mapL wC);have LM:=Ab (show Below wC.heap.size wC (wC.alloc (.map #[] 0)) from (Below.refl _ wC).alloc (Nat.le_refl _) _);have SM:=Ab (show w.heap.size<=wC.heap.size from (BC.out).size);refine hK.out _ _ (fun _=>XM.out) ?_;clear hK K
       try refine Sm ?_
       refine WpL.one (i:=3) zz3 rfl (fun K hK=>?_);go_simp;have BX:=BM.out;refine (k2x B _ D _ (P1.out.below BX) HG.out.1).mono ?_;rintro e wH ⟨vH,gh,rfl,hrH,hbH,hnH⟩;obtain ⟨AH,cH,rfl,_⟩:=hrH.size;have BH:=Ab (show Below w.heap.size w wH from BX.trans (hbH.mono BX.size));have RH:=Ab (show _/\∀ b,gh=some b->w.heap.size<=b from ⟨hrH,fun b e=>Nat.le_trans BX.size (hnH b e)⟩);have XH:=Ab (show wH.heap[w.heap.size]? = some (pbox D A1 c1 A2 c2 A3 c3) from (hbH.block _ (k03 (XM.out))).trans (XM.out));have MH:=Ab hbH;clear BX hrH hbH hnH;simp only [];refine hK.out _ _ (fun _=>XH.out) ?_;clear hK K
       try refine Sm ?_
       refine WpL.takeE (i:=5) (v:=?vB_5) (rfl) zz3 zz3 zz3 zz3 zz3 (fun _ _ _ h=>(New4A.panic h).elim) ?yB_5 (XH.out) ?rB_5
       case yB_5=>first | (refine Or.inr ⟨?_,?_⟩;rfl;rfl) | (refine Or.inl ⟨?_,?_⟩;rfl;intro w hSw;go_simp;try with_reducible rfl)
       refine Sm ?_;refine WpL.one (i:=6) zz3 rfl (fun K hK=>?_);go_simp;refine hK.out _ _ (fun _=>(((Below.refl _ _).alloc (Nat.le_refl _) _).block _ (k03 (XH.out))).trans (XH.out)) ?_;clear hK K
       try refine Sm ?_
       refine WpL.takeE (i:=7) (v:=?vBe_7) (rfl) zz3 zz3 zz3 zz3 zz3 (fun _ _ _ h=>(New4A.panic h).elim) ?yBe_7 ((((Below.refl _ _).alloc (Nat.le_refl _) _).block _ (k03 (XH.out))).trans (XH.out)) ?rBe_7
       case yBe_7=>first | (refine Or.inr ⟨?_,?_⟩;rfl;rfl) | (refine Or.inl ⟨?_,?_⟩;rfl;intro w hSw;go_simp;try with_reducible rfl)
       refine Sm ?_;refine WpL.done zz3 ?_ _;exact ⟨E1,k1,E2,k2,E3,k3,AH,cH,gh,_,_,⟨(PC.out.below LM.out).below MH.out,RH.out.1,RH.out.2,NM.out.of_blk (MH.out.block _ NM.out.lt),SM.out,BH.out,XH.out⟩,rfl,rfl,by (simp only [Act.put,List.setIfInBounds_toArray,List.set_cons_zero,List.set_cons_succ,List.getElem_toArray,List.getElem_cons_succ,List.getElem_cons_zero]);first | done | (simp only [World.size_alloc];done) | rfl | (simp only [World.size_alloc];rfl)⟩
   · go_simp
     have BM:=Ab (show Below w.heap.size w (w2.drew.alloc (.map #[] 0)) from (L2d.out.1).alloc (L2d.out.1).size _);have XM:=Ab (show (w2.drew.alloc (.map #[] 0)).heap[w.heap.size]? = some (pbox D A1 c1 A2 c2 A3 c3) from (((Below.refl _ w2.drew).alloc (Nat.le_refl _) (.map #[] 0)).block _ (k03 (L2d.out.2))).trans (L2d.out.2));have NM:=Ab (show MapAt mapL (w2.drew.alloc (.map #[] 0)) w2.drew.heap.size (fun _=>none) from MapAt.new mapL w2.drew);have LM:=Ab (show Below w2.drew.heap.size w2.drew (w2.drew.alloc (.map #[] 0)) from (Below.refl _ w2.drew).alloc (Nat.le_refl _) _);have SM:=Ab (show w.heap.size<=w2.drew.heap.size from (L2d.out.1).size);refine hK.out _ _ (fun _=>XM.out) ?_;clear hK K
     try refine Sm ?_
     refine WpL.one (i:=1) zz3 rfl (fun K hK=>?_);go_simp;have BX:=BM.out;refine (k2J B _ D _ (P1.out.below BX) HG.out.1).mono ?_;rintro e wC ⟨vC,rfl,hpC,hbC⟩;obtain ⟨E1,k1,E2,k2,E3,k3,rfl⟩:=hpC.shape;have BC:=Ab (show Below w.heap.size w wC from BX.trans (hbC.mono BX.size));have PC:=Ab (hpC.mono (fun b hb=>Nat.le_trans BX.size hb));have XC:=Ab (show wC.heap[w.heap.size]? = some (pbox D A1 c1 A2 c2 A3 c3) from (hbC.block _ (k03 (XM.out))).trans (XM.out));have MC:=Ab hbC;clear BX hpC hbC;simp only [];refine hK.out _ _ (fun _=>XC.out) ?_;clear hK K
     try refine Sm ?_
     refine WpL.one (i:=3) zz3 rfl (fun K hK=>?_);go_simp;have BX:=BC.out;refine (k2x B _ D _ (P1.out.below BX) HG.out.1).mono ?_;rintro e wH ⟨vH,gh,rfl,hrH,hbH,hnH⟩;obtain ⟨AH,cH,rfl,_⟩:=hrH.size;have BH:=Ab (show Below w.heap.size w wH from BX.trans (hbH.mono BX.size));have RH:=Ab (show _/\∀ b,gh=some b->w.heap.size<=b from ⟨hrH,fun b e=>Nat.le_trans BX.size (hnH b e)⟩);have XH:=Ab (show wH.heap[w.heap.size]? = some (pbox D A1 c1 A2 c2 A3 c3) from (hbH.block _ (k03 (XC.out))).trans (XC.out));have MH:=Ab hbH;clear BX hrH hbH hnH;simp only [];refine hK.out _ _ (fun _=>XH.out) ?_;clear hK K
     try refine Sm ?_
     refine WpL.takeE (i:=5) (v:=?vA_5) (rfl) zz3 zz3 zz3 zz3 zz3 (fun _ _ _ h=>(New4A.panic h).elim) ?yA_5 (XH.out) ?rA_5
     case yA_5=>first | (refine Or.inr ⟨?_,?_⟩;rfl;rfl) | (refine Or.inl ⟨?_,?_⟩;rfl;intro w hSw;go_simp;try with_reducible rfl)
     refine Sm ?_;refine WpL.one (i:=6) zz3 rfl (fun K hK=>?_);go_simp;refine hK.out _ _ (fun _=>(((Below.refl _ _).alloc (Nat.le_refl _) _).block _ (k03 (XH.out))).trans (XH.out)) ?_;clear hK K
     try refine Sm ?_
     refine WpL.takeE (i:=7) (v:=?vAe_7) (rfl) zz3 zz3 zz3 zz3 zz3 (fun _ _ _ h=>(New4A.panic h).elim) ?yAe_7 ((((Below.refl _ _).alloc (Nat.le_refl _) _).block _ (k03 (XH.out))).trans (XH.out)) ?rAe_7
     case yAe_7=>first | (refine Or.inr ⟨?_,?_⟩;rfl;rfl) | (refine Or.inl ⟨?_,?_⟩;rfl;intro w hSw;go_simp;try with_reducible rfl)
     refine Sm ?_;refine WpL.done zz3 ?_ _;exact ⟨E1,k1,E2,k2,E3,k3,AH,cH,gh,_,_,⟨PC.out.below MH.out,RH.out.1,RH.out.2,(NM.out.of_blk (MC.out.block _ NM.out.lt)).of_blk (MH.out.block _ (Nat.lt_of_lt_of_le NM.out.lt MC.out.size)),SM.out,BH.out,XH.out⟩,rfl,rfl,by (simp only [Act.put,List.setIfInBounds_toArray,List.set_cons_zero,List.set_cons_succ,List.getElem_toArray,List.getElem_cons_succ,List.getElem_cons_zero]);first | done | (simp only [World.size_alloc];done) | rfl | (simp only [World.size_alloc];rfl)⟩
 · rintro e a' w' ⟨E1,k1,E2,k2,E3,k3,AH,cH,gh,mb,W,N4,rfl,rfl,rfl⟩
   refine Sm ?_;obtain ⟨hb,ho,hc,hgh,hA,_,_,_⟩:=N4.hops.open (k5M HG.out.1);simp only [Value.slice.injEq] at hA;obtain ⟨rfl,-,rfl⟩:=hA;subst hgh;have mbx:∀ b cp Ty fr,W.heap[b]? = some (.cells cp Ty fr)->b≠mb:=fun b cp Ty fr h e=>by
    obtain ⟨es,clock,hh,_⟩:=N4.map;rw [e,hh] at h;exact zz45
   obtain ⟨o1,ho1⟩:∃ o1:Nat->Col,o1=fun b=>if b=mb then .junk else paint (paint o w.heap.size W.heap.size .fix) W.heap.size (W.heap.size+1) .fab b:=⟨_,rfl⟩
   obtain ⟨g,hg⟩:∃ g,g=W.heap.size:=⟨_,rfl⟩;obtain ⟨W1,hW1⟩:∃ W1,W1=W.alloc (.cells #[.int .i64 D.nodes,.slice E1 D.edges.length k1,.int .i64 D.lanes,.int .i64 D.room,.int .i64 D.queue,.int .i64 D.rounds,.int .i64 D.every,.int .i64 D.bag,.slice E2 D.weights.length k2,.int .u16 D.start,.slice E3 D.next.length k3,.slice (some ⟨hb,ho,none⟩) D.hops.length cH,.slice none 0 0,.map (some mb),.int .i64 0] 87):=⟨_,rfl⟩;have BW:Below W.heap.size W W1:=by rw [hW1];exact (Below.refl _ W).alloc (Nat.le_refl _) _
   have hws:=N4.bel.size;have hml:=N4.map.lt;have fx:∀ b,w.heap.size<=b->b<W.heap.size->b≠mb->o1 b = .fix:=fun b h1 h2 h3=>by rw [ho1];show (if b=mb then Col.junk else _)=_;rw [if_neg h3,k0w _ _ h2];exact k0A _ _ h1 h2
   have F0:=Ab (show NewF w o D (pbox D A1 c1 A2 c2 A3 c3) E1 k1 E2 k2 E3 k3 hb ho cH mb g W1 o1 (.slice none 0 0) none (fun _=>⟨0,0,0,0,0,0,0,fun _=>0,fun _=>0,fun _=>0,fun _=>0,fun _ _=>0,fun _ _=>0,none,0,none,0,none,0⟩) (fun _=>0) 0 0 from by
    have hmn:=N4.mn;have hbm:w.heap.size≠mb:=mbx _ _ _ _ N4.box;obtain ⟨chb,hchb⟩:=N4.hops.blk_ty;refine ⟨⟨N4.bel.trans (BW.mono hws),fun b hb'=>?_,fun b hb'=>?_⟩,?_,by have:=k03 N4.box;omega,?_,?_,N4.hops.below BW,fx _ (N4.hn _ rfl) (N4.hops.lt rfl) (mbx _ _ _ _ hchb),?_,?_,zz1,Row.nil _ _ _,zz17,fun v h=>by omega,zz17,(BW.block _ (k03 N4.box)).trans N4.box,fx _ (Nat.le_refl _) (k03 N4.box) hbm⟩
    · rw [ho1];show (if b=mb then Col.junk else _)=_;rw [if_neg zz1,k0w _ _ zz1,k0w _ _ hb']
    · rw [ho1];show (if b=mb then Col.junk else _)=_;rw [hW1] at hb';simp at hb';rw [if_neg zz1];unfold paint;rw [if_neg zz1,if_neg zz1]
    · rw [ho1,hg];show (if W.heap.size=mb then Col.junk else _)=_;rw [if_neg zz1];exact k0A _ _ (Nat.le_refl _) zz1
    · rw [hW1,hg];exact heap_alloc_new W _
    · exact (N4.plan.inCells.below BW).mono (fun b hb'=>by obtain ⟨h1,h2,cp,Ty,fr,h3⟩:=hb';exact fx b h1 h2 (mbx _ _ _ _ h3))
    · simp only [List.take_zero,List.not_mem_nil,if_false];exact N4.map.of_blk (BW.block _ N4.map.lt)
    · rw [ho1];show (if mb=mb then Col.junk else _)=_;rw [if_pos rfl])
   have HW:=Ab (show W1.heap.size=g+1 from by rw [hW1,hg];simp);rw [<- hW1,<- hg];clear hW1 hg ho1 BW fx N4 mbx hml;have hn6:=HG.out.1.n1;have b1:=fun i=>k00 F0.out.box i
   have b2:=fun i=>k00 F0.out.blk i
   go_wp2
   go_loopw [23] (fun s23 wr=>∃ (k:Nat) (oc:Nat->Col) (nv:Value) (gv:Option Nat) (T:Nat->NTab),k<=D.nodes/\s23 = .int .i64 k/\k08 (NewF w o D (pbox D A1 c1 A2 c2 A3 c3) E1 k1 E2 k2 E3 k3 hb ho cH mb g wr oc nv gv T (fun _=>0) k 0)) (fun s23 _=>D.nodes-ixOf s23)
   case atStart=>exact ⟨0,o1,_,none,_,zz1,rfl,⟨F0.out⟩⟩
   case round=>
    clear b1 b2;obtain ⟨k,oc,nv,gv,T,hk,rfl,R⟩:=hrel;by_cases hlt:k<D.nodes
    · have e3:(k:Int)<(D.nodes:Int):=by omega
      have HS:=Ab (show (fun (W:World)=>W.cell? ⟨g,12,none⟩=some nv/\W.cell? ⟨g,0,none⟩=some (Value.int .i64 D.nodes)/\W.cell? ⟨g,1,none⟩=some (.slice E1 D.edges.length k1)/\W.cell? ⟨g,2,none⟩=some (.int .i64 D.lanes)/\W.cell? ⟨g,3,none⟩=some (.int .i64 D.room)/\W.cell? ⟨g,4,none⟩=some (.int .i64 D.queue)/\W.cell? ⟨g,5,none⟩=some (.int .i64 D.rounds)/\W.cell? ⟨g,6,none⟩=some (.int .i64 D.every)/\W.cell? ⟨g,7,none⟩=some (.int .i64 D.bag)/\W.cell? ⟨g,8,none⟩=some (.slice E2 D.weights.length k2)/\W.cell? ⟨g,9,none⟩=some (.int .u16 D.start)/\W.cell? ⟨g,10,none⟩=some (.slice E3 D.next.length k3)) wr from ⟨(k00 R.out.blk 12).trans rfl,(k00 R.out.blk 0).trans rfl,(k00 R.out.blk 1).trans rfl,(k00 R.out.blk 2).trans rfl,(k00 R.out.blk 3).trans rfl,(k00 R.out.blk 4).trans rfl,(k00 R.out.blk 5).trans rfl,(k00 R.out.blk 6).trans rfl,(k00 R.out.blk 7).trans rfl,(k00 R.out.blk 8).trans rfl,(k00 R.out.blk 9).trans rfl,(k00 R.out.blk 10).trans rfl⟩);go_wp2;refine WpL.region (fun (W:World)=>W.cell? ⟨g,12,none⟩=some nv/\W.cell? ⟨g,0,none⟩=some (Value.int .i64 D.nodes)/\W.cell? ⟨g,1,none⟩=some (.slice E1 D.edges.length k1)/\W.cell? ⟨g,2,none⟩=some (.int .i64 D.lanes)/\W.cell? ⟨g,3,none⟩=some (.int .i64 D.room)/\W.cell? ⟨g,4,none⟩=some (.int .i64 D.queue)/\W.cell? ⟨g,5,none⟩=some (.int .i64 D.rounds)/\W.cell? ⟨g,6,none⟩=some (.int .i64 D.every)/\W.cell? ⟨g,7,none⟩=some (.int .i64 D.bag)/\W.cell? ⟨g,8,none⟩=some (.slice E2 D.weights.length k2)/\W.cell? ⟨g,9,none⟩=some (.int .u16 D.start)/\W.cell? ⟨g,10,none⟩=some (.slice E3 D.next.length k3)) 15 zz3 ?_;refine WpL.T 0 [] HS.out ?_;refine WpL.T 1 [] HS.out ?_;refine WpL.T 2 [] HS.out ?_;refine WpL.T 3 [] HS.out ?_;refine WpL.T 4 [] HS.out ?_;refine WpL.T 5 [] HS.out ?_;refine WpL.T 6 [] HS.out ?_;refine WpL.T 7 [] HS.out ?_;refine WpL.T 8 [] HS.out ?_;refine WpL.T 9 [] HS.out ?_;refine WpL.one (i:=10) zz3 rfl (fun K hK=>?_);go_simp;refine (ka2 E1 k1 E2 k2 E3 k3 (R.out.plan.below ((Below.refl _ wr).drew)) HG.out.1 hlt (R.out.new.fresh.blw ((Below.refl _ wr).drew))).mono ?_;rintro e wa ⟨T',oa,rfl,hN,hB⟩;have NA:=Ab (show NodeAt wa oa k D T' (nst0 D)/\NewB wr.heap.size oc wr oa wa from ⟨hN,⟨undrew hB.below,hB.own,hB.fresh⟩⟩);have HSa:=Ab (show (fun (W:World)=>W.cell? ⟨g,12,none⟩=some nv/\W.cell? ⟨g,0,none⟩=some (Value.int .i64 D.nodes)/\W.cell? ⟨g,1,none⟩=some (.slice E1 D.edges.length k1)/\W.cell? ⟨g,2,none⟩=some (.int .i64 D.lanes)/\W.cell? ⟨g,3,none⟩=some (.int .i64 D.room)/\W.cell? ⟨g,4,none⟩=some (.int .i64 D.queue)/\W.cell? ⟨g,5,none⟩=some (.int .i64 D.rounds)/\W.cell? ⟨g,6,none⟩=some (.int .i64 D.every)/\W.cell? ⟨g,7,none⟩=some (.int .i64 D.bag)/\W.cell? ⟨g,8,none⟩=some (.slice E2 D.weights.length k2)/\W.cell? ⟨g,9,none⟩=some (.int .u16 D.start)/\W.cell? ⟨g,10,none⟩=some (.slice E3 D.next.length k3)) wa from by obtain ⟨k0,k1,k2,k3,k4,k5,k6,k7,k8,k9,k10,k11⟩:=HS.out;exact ⟨k01 NA.out.2.below k0,k01 NA.out.2.below k1,k01 NA.out.2.below k2,k01 NA.out.2.below k3,k01 NA.out.2.below k4,k01 NA.out.2.below k5,k01 NA.out.2.below k6,k01 NA.out.2.below k7,k01 NA.out.2.below k8,k01 NA.out.2.below k9,k01 NA.out.2.below k10,k01 NA.out.2.below k11⟩);clear hN hB;simp only [];refine hK.out _ _ (fun _=>HSa.out) ?_;clear hK K
      try refine Sm ?_
      refine WpL.one (i:=11) zz3 rfl (fun K hK=>?_);go_simp;have Lb:=Ab (show Below wa.heap.size wa (wa.alloc (.cells #[.pointer (some ⟨T'.g,0,none⟩)] 58)) from (Below.refl _ wa).alloc (Nat.le_refl _) _);have HSb:=Ab (show (fun (W:World)=>W.cell? ⟨g,12,none⟩=some nv/\W.cell? ⟨g,0,none⟩=some (Value.int .i64 D.nodes)/\W.cell? ⟨g,1,none⟩=some (.slice E1 D.edges.length k1)/\W.cell? ⟨g,2,none⟩=some (.int .i64 D.lanes)/\W.cell? ⟨g,3,none⟩=some (.int .i64 D.room)/\W.cell? ⟨g,4,none⟩=some (.int .i64 D.queue)/\W.cell? ⟨g,5,none⟩=some (.int .i64 D.rounds)/\W.cell? ⟨g,6,none⟩=some (.int .i64 D.every)/\W.cell? ⟨g,7,none⟩=some (.int .i64 D.bag)/\W.cell? ⟨g,8,none⟩=some (.slice E2 D.weights.length k2)/\W.cell? ⟨g,9,none⟩=some (.int .u16 D.start)/\W.cell? ⟨g,10,none⟩=some (.slice E3 D.next.length k3)) (wa.alloc (.cells #[.pointer (some ⟨T'.g,0,none⟩)] 58)) from by obtain ⟨k0,k1,k2,k3,k4,k5,k6,k7,k8,k9,k10,k11⟩:=HSa.out;exact ⟨k01 Lb.out k0,k01 Lb.out k1,k01 Lb.out k2,k01 Lb.out k3,k01 Lb.out k4,k01 Lb.out k5,k01 Lb.out k6,k01 Lb.out k7,k01 Lb.out k8,k01 Lb.out k9,k01 Lb.out k10,k01 Lb.out k11⟩);refine hK.out _ _ (fun _=>HSb.out) ?_;clear hK K
      try refine Sm ?_
      refine WpL.one (i:=12) zz3 rfl (fun K hK=>?_);refine k0D rfl _ _ 85 58 (.pointer none) 1 8 rfl Tryz.underlying85 kbY rfl zz8 zz8 nv k _ [.pointer (some ⟨T'.g,0,none⟩)] gv (R.out.nodes.below NA.out.2.below) rfl rfl rfl rfl zz27 zz1 ?_;intro vd wd gd Rd Od Gd;obtain ⟨Ad,cd,rfl,_⟩:=Rd.size;have Kd:=Ab (show _/\Only (fun b=>gv=some b) wa wd/\_ from ⟨Rd,Od,Gd⟩);have hgv:∀ b,gv=some b->b≠g:=fun b e e2=>by have h1:=(R.out.on b e).1;rw [e2,R.out.og] at h1;cases h1
      have HSd:=Ab (show (fun (W:World)=>W.cell? ⟨g,12,none⟩=some nv/\W.cell? ⟨g,0,none⟩=some (Value.int .i64 D.nodes)/\W.cell? ⟨g,1,none⟩=some (.slice E1 D.edges.length k1)/\W.cell? ⟨g,2,none⟩=some (.int .i64 D.lanes)/\W.cell? ⟨g,3,none⟩=some (.int .i64 D.room)/\W.cell? ⟨g,4,none⟩=some (.int .i64 D.queue)/\W.cell? ⟨g,5,none⟩=some (.int .i64 D.rounds)/\W.cell? ⟨g,6,none⟩=some (.int .i64 D.every)/\W.cell? ⟨g,7,none⟩=some (.int .i64 D.bag)/\W.cell? ⟨g,8,none⟩=some (.slice E2 D.weights.length k2)/\W.cell? ⟨g,9,none⟩=some (.int .u16 D.start)/\W.cell? ⟨g,10,none⟩=some (.slice E3 D.next.length k3)) wd from by obtain ⟨k0,k1,k2,k3,k4,k5,k6,k7,k8,k9,k10,k11⟩:=HSa.out;exact ⟨Od.cell k0 (fun e=>hgv _ e rfl),Od.cell k1 (fun e=>hgv _ e rfl),Od.cell k2 (fun e=>hgv _ e rfl),Od.cell k3 (fun e=>hgv _ e rfl),Od.cell k4 (fun e=>hgv _ e rfl),Od.cell k5 (fun e=>hgv _ e rfl),Od.cell k6 (fun e=>hgv _ e rfl),Od.cell k7 (fun e=>hgv _ e rfl),Od.cell k8 (fun e=>hgv _ e rfl),Od.cell k9 (fun e=>hgv _ e rfl),Od.cell k10 (fun e=>hgv _ e rfl),Od.cell k11 (fun e=>hgv _ e rfl)⟩);have Zd:=(Od.keep g (Nat.lt_of_lt_of_le (k03 R.out.blk) NA.out.2.below.size) (fun e=>hgv _ e rfl)).trans ((NA.out.2.below.block g (k03 R.out.blk)).trans R.out.blk);have c12:=HSd.out.1;have f12:=k02 Zd 12;clear Rd Od Gd Zd hgv;refine hK.out _ _ (fun _=>HSd.out) ?_;clear hK K
      try refine Sm ?_
      refine WpL.T 13 [14] HSd.out ?_;refine WpL.T 14 [] HSd.out ?_;refine WpL.one (i:=15) zz3 rfl (fun K hK=>?_);go_simp;refine hK.out _ _ (fun h=>absurd rfl h) ?_;clear hK K
      try refine Sm ?_
      refine WpL.done zz3 ?_ _;go_wp2;refine ⟨⟨k+1,oa,_,gd,upd T k T',zz1,rfl,⟨R.out.addNode NA.out.2 NA.out.1 Kd.out.2.1 Kd.out.1 Kd.out.2.2⟩⟩,?_⟩;exact zz19
    · have e3:¬ (k:Int)<(D.nodes:Int):=by omega
      obtain rfl:k=D.nodes:=by omega
      have b1:=fun i=>k00 R.out.box i
      have b2:=fun i=>k00 R.out.blk i
      obtain ⟨n,hn⟩:∃ n,n=D.hops.length:=⟨_,rfl⟩;have hn30:n<=30:=by have:=k0N D HG.out.1 D.nodes (Nat.le_refl _);unfold PlanD.hops at hn;omega
      have HN:=Ab hn;rw [<- hn] at b2;clear hn;go_wp2
      go_loopw [47] (fun s47 wr=>∃ (j:Nat) (oq:Nat->Col) (lk:Nat × Nat->Nat),j<=n/\s47 = .int .i64 j/\k08 (NewF w o D (pbox D A1 c1 A2 c2 A3 c3) E1 k1 E2 k2 E3 k3 hb ho cH mb g wr oq nv gv T lk D.nodes j)) (fun s47 _=>n-ixOf s47)
      case atStart=>exact ⟨0,oc,_,zz1,rfl,⟨R.out⟩⟩
      case round=>
       clear b1 b2;obtain ⟨j,oq,lk,hj,rfl,Q⟩:=hrel;by_cases hlj:j<n
       · have e4:(j:Int)<(n:Int):=by omega
         obtain ⟨a,ha⟩:∃ a,D.hops[j]? = some a:=⟨_,List.getElem?_eq_getElem zz29⟩;obtain ⟨x,y⟩:=a;have HA:=Ab ha;have h01:=Q.out.hop j _ ha;have hx0:=h01.1;have hx1:=h01.2;clear ha h01;go_wp2;have hwb:=Q.out.blk;have hxl:w.heap.size<wr.heap.size:=k03 Q.out.box;have La:=Ab (show Below wr.heap.size wr (wr.alloc (.cells #[.int .i64 x,.int .i64 y] 90)) from (Below.refl _ _).alloc (Nat.le_refl _) _);have QA:=Ab (Q.out.blw La.out);have XA:=Ab (heap_alloc_new wr (.cells #[.int .i64 x,.int .i64 y] 90));obtain ⟨xb,hxb⟩:∃ xb,xb=wr.heap.size:=⟨_,rfl⟩;obtain ⟨wa,hwa⟩:∃ wa,wa=wr.alloc (.cells #[.int .i64 x,.int .i64 y] 90):=⟨_,rfl⟩;rw [<- hwa] at La QA XA ⊢;rw [<- hxb] at XA ⊢;have HS:=Ab (show (fun (W:World)=>W.cell? ⟨g,13,none⟩=some (.map (some mb))/\W.cell? ⟨xb,0,none⟩=some (.int .i64 x)/\W.cell? ⟨xb,1,none⟩=some (.int .i64 y)/\W.cell? ⟨w.heap.size,7,none⟩=some (.int .i64 D.bag)) wa from ⟨(k00 QA.out.blk 13).trans rfl,(k00 XA.out 0).trans rfl,(k00 XA.out 1).trans rfl,(k00 QA.out.box 7).trans rfl⟩);have GA:=Ab (show (x:Nat)<4611686018427387904/\(y:Nat)<4611686018427387904 from by have:=k0M (List.mem_of_getElem? HA.out);have:=HG.out.1.n1;simp only at *;omega);clear hwa hxb hwb hxl hx0 hx1;refine WpL.region (fun (W:World)=>W.cell? ⟨g,13,none⟩=some (.map (some mb))/\W.cell? ⟨xb,0,none⟩=some (.int .i64 x)/\W.cell? ⟨xb,1,none⟩=some (.int .i64 y)/\W.cell? ⟨w.heap.size,7,none⟩=some (.int .i64 D.bag)) 8 zz3 ?_;refine WpL.T 0 [] HS.out ?_;refine WpL.T 1 [] HS.out ?_;refine WpL.T 2 [] HS.out ?_;refine WpL.T 3 [] HS.out ?_;refine WpL.T 4 [] HS.out ?_;refine WpL.T 5 [] HS.out ?_;refine WpL.T 6 [] HS.out ?_;refine WpL.one (i:=7) zz3 rfl (fun K hK=>?_);go_simp;refine (k9Z D.bag _ (by have:=HG.out.1.b0;omega) (by have:=HG.out.1.b0;omega)).mono ?_;rintro e wb ⟨rfl,rfl⟩;have Lb:=Ab (show Below wa.heap.size wa (wa.drew.alloc (.cells #[.slice none 0 0,.int .i64 D.bag] 119)) from ((Below.refl _ wa).drew).alloc (Nat.le_refl _) _);have HSb:=Ab (show (fun (W:World)=>W.cell? ⟨g,13,none⟩=some (.map (some mb))/\W.cell? ⟨xb,0,none⟩=some (.int .i64 x)/\W.cell? ⟨xb,1,none⟩=some (.int .i64 y)/\W.cell? ⟨w.heap.size,7,none⟩=some (.int .i64 D.bag)) (wa.drew.alloc (.cells #[.slice none 0 0,.int .i64 D.bag] 119)) from by obtain ⟨k0,k1,k2,k3⟩:=HS.out;exact ⟨k01 Lb.out k0,k01 Lb.out k1,k01 Lb.out k2,k01 Lb.out k3⟩);simp only [];refine hK.out _ _ (fun _=>HSb.out) ?_;clear hK K
         try refine Sm ?_
         refine WpL.one (i:=8) zz3 rfl (fun K hK=>?_);refine k2Q (M:=mapL) (b:=mb) rfl _ _ _ (x,y) (.pointer (some ⟨wa.heap.size,0,none⟩)) rfl ((QA.out.map.of_blk rfl).of_blk (Lb.out.block _ QA.out.map.lt)) rfl rfl rfl GA.out ?_;intro wd MU' OU';have MU:=Ab (show _/\_ from ⟨MU',OU'⟩);clear MU' OU';refine hK.out _ _ (fun h=>absurd rfl h) ?_;clear hK K
         try refine Sm ?_
         refine WpL.done zz3 ?_ _;go_wp2;refine ⟨⟨j+1,_,_,zz1,rfl,⟨Q.out.addLink HG.out.1 HA.out (La.out.trans ((Below.refl _ wa).drew.mono La.out.size)) MU.out.1 MU.out.2⟩⟩,?_⟩;exact zz84
       · have e4:¬ (j:Int)<(n:Int):=by omega
         obtain rfl:j=n:=by omega
         have b1:=fun i=>k00 Q.out.box i
         have b2:=fun i=>k00 Q.out.blk i
         go_wp2
         go_ret2
         obtain ⟨F,o',h1,h2,rfl⟩:=NewF.done HG.out.1 (HN.out ▸ Q.out);exact ⟨F,rfl,o',h1,h2⟩
end
abbrev kbs (L rm qu ro er s:Int) (ev wv nv:Value):Obj:=.cells #[.int .i64 2,ev,.int .i64 L,.int .i64 rm,.int .i64 qu,.int .i64 ro,.int .i64 er,.int .i64 64,wv,.int .u16 s,nv] 32 (0,0)
structure LawPl (w0:World) (g:Nat) (L rm qu ro er s:Int) (ne nw nn:Nat) (ev wv nv:Value) (ce:List Value) (ws:List Nat) (cn:List Value) (ge gw gn:Option Nat) (W:World):Prop where
 blk:W.heap[g]? = some (kbs L rm qu ro er s ev wv nv)
 E:Row W ev 131 2 ne ce ge
 Wt:Row W wv 3 1 nw (i64s ws) gw
 N:Row W nv 29 1 nn cn gn
 bel:Below w0.heap.size w0 W
 g0:w0.heap.size<g
 lo:∀ b,(ge=some b\/gw=some b\/gn=some b)->w0.heap.size<b
 res:W.heap[w0.heap.size]? = some (.cells #[.int .i64 0,.slice none 0 0,.int .i64 0,.int .i64 0,.int .i64 0,.int .i64 0,.int .i64 0,.int .i64 0,.slice none 0 0,.int .u16 0,.slice none 0 0] 32 (0,0))
section
variable {w0 W W1:World} {g:Nat} {L rm qu ro er s:Int} {ne nw nn:Nat} {ev wv nv:Value} {ce:List Value} {ws:List Nat} {cn:List Value} {ge gw gn:Option Nat}
theorem LawPl.apart (h:LawPl w0 g L rm qu ro er s ne nw nn ev wv nv ce ws cn ge gw gn W):(∀ b,ge=some b->b≠g/\gw≠some b/\gn≠some b)/\(∀ b,gw=some b->b≠g/\ge≠some b/\gn≠some b)/\(∀ b,gn=some b->b≠g/\ge≠some b/\gw≠some b):=by
 have e1:∀ b,ge=some b->∃ cp,W.heap[b]? = some (.cells cp 131 (0,0)):=fun b e=>by subst e;exact h.E.blk_ty
 have e2:∀ b,gw=some b->∃ cp,W.heap[b]? = some (.cells cp 3 (0,0)):=fun b e=>by subst e;exact h.Wt.blk_ty
 have e3:∀ b,gn=some b->∃ cp,W.heap[b]? = some (.cells cp 29 (0,0)):=fun b e=>by subst e;exact h.N.blk_ty
 refine ⟨fun b e=>⟨?_,fun k=>?_,fun k=>?_⟩,fun b e=>⟨?_,fun k=>?_,fun k=>?_⟩,fun b e=>⟨?_,fun k=>?_,fun k=>?_⟩⟩
 · obtain ⟨_,a⟩:=e1 b e;exact k0v a h.blk zz8
 · obtain ⟨_,a⟩:=e1 b e;obtain ⟨_,c⟩:=e2 b k;exact k0v a c zz8 rfl
 · obtain ⟨_,a⟩:=e1 b e;obtain ⟨_,c⟩:=e3 b k;exact k0v a c zz8 rfl
 · obtain ⟨_,a⟩:=e2 b e;exact k0v a h.blk zz8
 · obtain ⟨_,a⟩:=e2 b e;obtain ⟨_,c⟩:=e1 b k;exact k0v a c zz8 rfl
 · obtain ⟨_,a⟩:=e2 b e;obtain ⟨_,c⟩:=e3 b k;exact k0v a c zz8 rfl
 · obtain ⟨_,a⟩:=e3 b e;exact k0v a h.blk zz8
 · obtain ⟨_,a⟩:=e3 b e;obtain ⟨_,c⟩:=e1 b k;exact k0v a c zz8 rfl
 · obtain ⟨_,a⟩:=e3 b e;obtain ⟨_,c⟩:=e2 b k;exact k0v a c zz8 rfl
theorem LawPl.onlyB (h:LawPl w0 g L rm qu ro er s ne nw nn ev wv nv ce ws cn ge gw gn W) {P:Nat->Prop} (O:Only P W W1) (hP:∀ b,P b->w0.heap.size<=b):Below w0.heap.size w0 W1:=
 ⟨O.os.trans h.bel.os,O.tape.trans h.bel.tape,O.output.trans h.bel.output,Nat.le_trans h.bel.size O.size,fun b hb=>(O.keep b (Nat.lt_of_lt_of_le hb h.bel.size) (fun k=>by have:=hP b k;omega)).trans (h.bel.block b hb)⟩
theorem LawPl.far (h:LawPl w0 g L rm qu ro er s ne nw nn ev wv nv ce ws cn ge gw gn W) {P:Nat->Prop} (O:Only P W W1) (hP:∀ b,P b->w0.heap.size<b/\b≠g/\ge≠some b/\gw≠some b/\gn≠some b):LawPl w0 g L rm qu ro er s ne nw nn ev wv nv ce ws cn ge gw gn W1:=
 ⟨(O.keep _ (k03 h.blk) (fun k=>(hP _ k).2.1 rfl)).trans h.blk,h.E.only O (fun b e k=>(hP b k).2.2.1 e),h.Wt.only O (fun b e k=>(hP b k).2.2.2.1 e),h.N.only O (fun b e k=>(hP b k).2.2.2.2 e),h.onlyB O (fun b k=>Nat.le_of_lt (hP b k).1),h.g0,h.lo,(O.keep _ (k03 h.res) (fun k=>Nat.lt_irrefl _ (hP _ k).1)).trans h.res⟩
theorem LawPl.setE (h:LawPl w0 g L rm qu ro er s ne nw nn ev wv nv ce ws cn ge gw gn W) {g1:Option Nat} {u:Value} {cs1:List Value} (O:Only (fun b=>ge=some b) W W1) (R1:Row W1 u 131 2 (ne+1) cs1 g1) (G1:g1=ge\/∃ b,g1=some b/\W.heap.size<=b):LawPl w0 g L rm qu ro er s (ne+1) nw nn u wv nv cs1 ws cn g1 gw gn (W1.setCell ⟨g,1,none⟩ u):=by
 have hg:=k03 h.blk;have hg1:∀ b,g1=some b->b≠g:=fun b e k=>by
  rcases G1 with e2 | ⟨b2,e2,hb⟩
  · exact (h.apart.1 b (by rw [<- e2];exact e)).1 k
  · rw [e] at e2;cases e2;omega
 have hl1:∀ b,g1=some b->w0.heap.size<b:=fun b e=>by
  rcases G1 with e2 | ⟨b2,e2,hb⟩
  · exact h.lo b (by rw [e2] at e;simp [e])
  · exact zz54
 have Z:=(O.keep g hg (fun k=>(h.apart.1 g k).1 rfl)).trans h.blk;have B1:=h.onlyB O (fun b k=>Nat.le_of_lt (h.lo b (by simp [k])));refine ⟨k05 Z 1 u,R1.only (k0k W1 g 1 u) (fun b e k=>hg1 b e k),(h.Wt.only O (fun b e k=>(h.apart.2.1 b e).2.1 k)).only (k0k W1 g 1 u) (fun b e k=>(h.apart.2.1 b e).1 k),(h.N.only O (fun b e k=>(h.apart.2.2 b e).2.1 k)).only (k0k W1 g 1 u) (fun b e k=>(h.apart.2.2 b e).1 k),B1.setCell (Nat.le_of_lt h.g0) u,h.g0,fun b e=>?_,(Below.heap_setCell _ _ _ _ zz83).trans ((O.keep _ (k03 h.res) (fun k=>Nat.lt_irrefl _ (h.lo _ (by simp [k])))).trans h.res)⟩;rcases e with e | e | e
 · exact hl1 b e
 · exact h.lo b (by simp [e])
 · exact h.lo b (by simp [e])
theorem LawPl.setW (h:LawPl w0 g L rm qu ro er s ne nw nn ev wv nv ce ws cn ge gw gn W) {g1:Option Nat} {u:Value} {cs1:List Nat} (O:Only (fun b=>gw=some b) W W1) (R1:Row W1 u 3 1 (nw+1) (i64s cs1) g1) (G1:g1=gw\/∃ b,g1=some b/\W.heap.size<=b):LawPl w0 g L rm qu ro er s ne (nw+1) nn ev u nv ce cs1 cn ge g1 gn (W1.setCell ⟨g,8,none⟩ u):=by
 have hg:=k03 h.blk;have hg1:∀ b,g1=some b->b≠g:=fun b e k=>by
  rcases G1 with e2 | ⟨b2,e2,hb⟩
  · exact (h.apart.2.1 b (by rw [<- e2];exact e)).1 k
  · rw [e] at e2;cases e2;omega
 have hl1:∀ b,g1=some b->w0.heap.size<b:=fun b e=>by
  rcases G1 with e2 | ⟨b2,e2,hb⟩
  · exact h.lo b (by rw [e2] at e;simp [e])
  · exact zz54
 have Z:=(O.keep g hg (fun k=>(h.apart.2.1 g k).1 rfl)).trans h.blk;have B1:=h.onlyB O (fun b k=>Nat.le_of_lt (h.lo b (by simp [k])));refine ⟨k05 Z 8 u,(h.E.only O (fun b e k=>(h.apart.1 b e).2.1 k)).only (k0k W1 g 8 u) (fun b e k=>(h.apart.1 b e).1 k),R1.only (k0k W1 g 8 u) (fun b e k=>hg1 b e k),(h.N.only O (fun b e k=>(h.apart.2.2 b e).2.2 k)).only (k0k W1 g 8 u) (fun b e k=>(h.apart.2.2 b e).1 k),B1.setCell (Nat.le_of_lt h.g0) u,h.g0,fun b e=>?_,(Below.heap_setCell _ _ _ _ zz83).trans ((O.keep _ (k03 h.res) (fun k=>Nat.lt_irrefl _ (h.lo _ (by simp [k])))).trans h.res)⟩;rcases e with e | e | e
 · exact h.lo b (by simp [e])
 · exact hl1 b e
 · exact h.lo b (by simp [e])
theorem LawPl.setN (h:LawPl w0 g L rm qu ro er s ne nw nn ev wv nv ce ws cn ge gw gn W) {g1:Option Nat} {u:Value} {cs1:List Value} (O:Only (fun b=>gn=some b) W W1) (R1:Row W1 u 29 1 (nn+1) cs1 g1) (G1:g1=gn\/∃ b,g1=some b/\W.heap.size<=b):LawPl w0 g L rm qu ro er s ne nw (nn+1) ev wv u ce ws cs1 ge gw g1 (W1.setCell ⟨g,10,none⟩ u):=by
 have hg:=k03 h.blk;have hg1:∀ b,g1=some b->b≠g:=fun b e k=>by
  rcases G1 with e2 | ⟨b2,e2,hb⟩
  · exact (h.apart.2.2 b (by rw [<- e2];exact e)).1 k
  · rw [e] at e2;cases e2;omega
 have hl1:∀ b,g1=some b->w0.heap.size<b:=fun b e=>by
  rcases G1 with e2 | ⟨b2,e2,hb⟩
  · exact h.lo b (by rw [e2] at e;simp [e])
  · exact zz54
 have Z:=(O.keep g hg (fun k=>(h.apart.2.2 g k).1 rfl)).trans h.blk;have B1:=h.onlyB O (fun b k=>Nat.le_of_lt (h.lo b (by simp [k])));refine ⟨k05 Z 10 u,(h.E.only O (fun b e k=>(h.apart.1 b e).2.2 k)).only (k0k W1 g 10 u) (fun b e k=>(h.apart.1 b e).1 k),(h.Wt.only O (fun b e k=>(h.apart.2.1 b e).2.2 k)).only (k0k W1 g 10 u) (fun b e k=>(h.apart.2.1 b e).1 k),R1.only (k0k W1 g 10 u) (fun b e k=>hg1 b e k),B1.setCell (Nat.le_of_lt h.g0) u,h.g0,fun b e=>?_,(Below.heap_setCell _ _ _ _ zz83).trans ((O.keep _ (k03 h.res) (fun k=>Nat.lt_irrefl _ (h.lo _ (by simp [k])))).trans h.res)⟩;rcases e with e | e | e
 · exact h.lo b (by simp [e])
 · exact h.lo b (by simp [e])
 · exact hl1 b e
end
abbrev k4Z (W:World) (b:Nat) (x0 x1 x2 x3 x4 x5 x6 x7 x8 x9 x10:Value):World:=(((((((((((W.setCell ⟨b,0,none⟩ x0).setCell ⟨b,1,none⟩ x1).setCell ⟨b,2,none⟩ x2).setCell ⟨b,3,none⟩ x3).setCell ⟨b,4,none⟩ x4).setCell ⟨b,5,none⟩ x5).setCell ⟨b,6,none⟩ x6).setCell ⟨b,7,none⟩ x7).setCell ⟨b,8,none⟩ x8).setCell ⟨b,9,none⟩ x9).setCell ⟨b,10,none⟩ x10)
theorem kaV {W:World} {b:Nat} {cur:Array Value} (h:W.heap[b]? = some (.cells cur 32 (0,0))) (hs:cur.size=11) (x0 x1 x2 x3 x4 x5 x6 x7 x8 x9 x10:Value) :
 (k4Z W b x0 x1 x2 x3 x4 x5 x6 x7 x8 x9 x10).heap[b]? = some (.cells #[x0,x1,x2,x3,x4,x5,x6,x7,x8,x9,x10] 32 (0,0))/\Only (fun x=>x=b) W (k4Z W b x0 x1 x2 x3 x4 x5 x6 x7 x8 x9 x10):=by
 obtain ⟨l⟩:=cur;obtain ⟨y0,y1,y2,y3,y4,y5,y6,y7,y8,y9,y10,rfl⟩:∃ y0 y1 y2 y3 y4 y5 y6 y7 y8 y9 y10,l=[y0,y1,y2,y3,y4,y5,y6,y7,y8,y9,y10]:=by
  match l,hs with
  | [y0,y1,y2,y3,y4,y5,y6,y7,y8,y9,y10],_=>exact ⟨y0,y1,y2,y3,y4,y5,y6,y7,y8,y9,y10,rfl⟩
 have Z0:=h;have Z1:=k05 Z0 0 x0;simp only [List.setIfInBounds_toArray,List.set_cons_zero,List.set_cons_succ] at Z1;have Z2:=k05 Z1 1 x1;simp only [List.setIfInBounds_toArray,List.set_cons_zero,List.set_cons_succ] at Z2;have Z3:=k05 Z2 2 x2;simp only [List.setIfInBounds_toArray,List.set_cons_zero,List.set_cons_succ] at Z3;have Z4:=k05 Z3 3 x3;simp only [List.setIfInBounds_toArray,List.set_cons_zero,List.set_cons_succ] at Z4;have Z5:=k05 Z4 4 x4;simp only [List.setIfInBounds_toArray,List.set_cons_zero,List.set_cons_succ] at Z5;have Z6:=k05 Z5 5 x5;simp only [List.setIfInBounds_toArray,List.set_cons_zero,List.set_cons_succ] at Z6;have Z7:=k05 Z6 6 x6;simp only [List.setIfInBounds_toArray,List.set_cons_zero,List.set_cons_succ] at Z7;have Z8:=k05 Z7 7 x7;simp only [List.setIfInBounds_toArray,List.set_cons_zero,List.set_cons_succ] at Z8;have Z9:=k05 Z8 8 x8;simp only [List.setIfInBounds_toArray,List.set_cons_zero,List.set_cons_succ] at Z9;have Z10:=k05 Z9 9 x9;simp only [List.setIfInBounds_toArray,List.set_cons_zero,List.set_cons_succ] at Z10;have Z11:=k05 Z10 10 x10;simp only [List.setIfInBounds_toArray,List.set_cons_zero,List.set_cons_succ] at Z11;refine ⟨Z11,?_⟩;have o0:Only (fun x=>x=b) W W:=Only.refl _ _;have o1:=o0.set (p:=⟨b,0,none⟩) (fun _=>rfl) x0;have o2:=o1.set (p:=⟨b,1,none⟩) (fun _=>rfl) x1;have o3:=o2.set (p:=⟨b,2,none⟩) (fun _=>rfl) x2;have o4:=o3.set (p:=⟨b,3,none⟩) (fun _=>rfl) x3;have o5:=o4.set (p:=⟨b,4,none⟩) (fun _=>rfl) x4;have o6:=o5.set (p:=⟨b,5,none⟩) (fun _=>rfl) x5;have o7:=o6.set (p:=⟨b,6,none⟩) (fun _=>rfl) x6;have o8:=o7.set (p:=⟨b,7,none⟩) (fun _=>rfl) x7;have o9:=o8.set (p:=⟨b,8,none⟩) (fun _=>rfl) x8;have o10:=o9.set (p:=⟨b,9,none⟩) (fun _=>rfl) x9;have o11:=o10.set (p:=⟨b,10,none⟩) (fun _=>rfl) x10;exact o11
def wgts (a:Nat) (j:Nat):List Nat:=(List.range j).map fun i=>1+(i+a) % 5
theorem k9k (a j:Nat):i64s (wgts a j)++[.int .i64 (1+((j:Int)+a) % 5)]=i64s (wgts a (j+1)):=by
 unfold wgts i64s;rw [List.range_succ,List.map_append,List.map_append];exact zz17
section
variable {w:World}
theorem k7P (a1 a2 s:Nat) (w:World) (h1:a1<256) (h2:a2<256) (h4:s<65536) :
 Calls Tryz.prog 41 #[.int .u8 0,.int .u8 a1,.int .u8 a2,.int .u16 s,.slice none 0 0] w fun e w'=>∃ A1 n1 c1 A2 c2 A3 n3 c3 gw,e = .returned (.agg #[.int .i64 2,.slice A1 (n1:Nat) c1,.int .i64 (1+(a2:Int) % 3),.int .i64 (1+(a1:Int) % 8),.int .i64 (1+(a1:Int) / 8 % 8),.int .i64 (1+(a2:Int) / 3 % 4),.int .i64 (1+(a2:Int) / 12 % 8),.int .i64 64,.slice A2 (1+a2 % 3:Nat) c2,.int .u16 s,.slice A3 (n3:Nat) c3]) /\
  Row w' (.slice A2 (1+a2 % 3:Nat) c2) 3 1 (1+a2 % 3) (i64s (wgts a2 (1+a2 % 3))) gw/\(∀ b,gw=some b->w.heap.size<=b)/\Below w.heap.size w w':=by
 obtain ⟨Ln,hLn⟩:∃ Ln,Ln=1+a2 % 3:=⟨_,rfl⟩;have hL3:Ln<=3:=by omega
 have hL1:1<=Ln:=by omega
 have hLi:(1+(a2:Int) % 3)=(Ln:Int):=by omega
 rw [<- hLn,hLi];obtain ⟨rm,hrm⟩:∃ rm:Int,rm=1+(a1:Int) % 8:=⟨_,rfl⟩;obtain ⟨qu,hqu⟩:∃ qu:Int,qu=1+(a1:Int) / 8 % 8:=⟨_,rfl⟩;obtain ⟨ro,hro⟩:∃ ro:Int,ro=1+(a2:Int) / 3 % 4:=⟨_,rfl⟩;obtain ⟨er,her⟩:∃ er:Int,er=1+(a2:Int) / 12 % 8:=⟨_,rfl⟩;rw [<- hrm,<- hqu,<- hro,<- her];have HE:=Ab (show _/\_/\_/\_/\_ from ⟨hLi,hrm,hqu,hro,her⟩);clear hLi hrm hqu hro her hLn;go_enter Tryz.func41,Tryz.ntmps41;go_wp2;rw [HE.out.1,<- HE.out.2.1,<- HE.out.2.2.1,<- HE.out.2.2.2.1,<- HE.out.2.2.2.2];obtain ⟨g,hg⟩:∃ g,g=w.heap.size+1:=⟨_,rfl⟩;obtain ⟨w1,hw1⟩:∃ w1,w1=((w.alloc (.cells #[.int .i64 0,.slice none 0 0,.int .i64 0,.int .i64 0,.int .i64 0,.int .i64 0,.int .i64 0,.int .i64 0,.slice none 0 0,.int .u16 0,.slice none 0 0] 32)).alloc (kbs Ln rm qu ro er s (.slice none 0 0) (.slice none 0 0) (.slice none 0 0))):=⟨_,rfl⟩;have M0:=Ab (show LawPl w g Ln rm qu ro er s 0 0 0 (.slice none 0 0) (.slice none 0 0) (.slice none 0 0) [] (wgts a2 0) [] none none none w1 from by
  refine ⟨?_,Row.nil _ _ _,Row.nil _ _ _,Row.nil _ _ _,?_,zz1,zz17,?_⟩
  · have h:=heap_alloc_new (w.alloc (.cells #[.int .i64 0,.slice none 0 0,.int .i64 0,.int .i64 0,.int .i64 0,.int .i64 0,.int .i64 0,.int .i64 0,.slice none 0 0,.int .u16 0,.slice none 0 0] 32)) (kbs Ln rm qu ro er s (.slice none 0 0) (.slice none 0 0) (.slice none 0 0))
    rw [World.size_alloc] at h;rw [hw1,hg];exact h
  · rw [hw1];exact ((Below.refl _ w).alloc (Nat.le_refl _) _).alloc zz17 _
  · rw [hw1];exact (Below.heap_alloc _ _ _ zz17).trans (heap_alloc_new w _))
 rw [<- hw1]
 try rw [<- hg]
 clear hg hw1;have b1:=fun i=>k00 M0.out.blk i
 go_loopw [12] (fun s12 wr=>∃ (j:Nat) (wv:Value) (gw:Option Nat),j<=Ln/\s12 = .int .i64 j/\k08 (LawPl w g Ln rm qu ro er s 0 j 0 (.slice none 0 0) wv (.slice none 0 0) [] (wgts a2 j) [] none gw none wr)) (fun s12 _=>Ln-ixOf s12)
 case atStart=>exact ⟨0,_,none,zz1,rfl,M0⟩
 case round=>
  clear b1;obtain ⟨j,wv,gw,hj,rfl,R⟩:=hrel;have b1:=fun i=>k00 R.out.blk i
  by_cases hlt:j<Ln
  · have e1:(j:Int)<(Ln:Int):=by omega
    go_wp2_with (at_builtin;refine k0P rfl _ _ 29 3 (.int .i64 0) 1 8 rfl Tryz.underlying29 k1k rfl zz8 zz8 wv j (i64s (wgts a2 j)) [.int .i64 (1+((j:Int)+a2) % 5)] gw R.out.Wt rfl rfl rfl rfl zz27 zz1 ?_;intro v1 w1 g1 R1p O1 G1;obtain ⟨A1',k1',rfl,_⟩:=R1p.size;have K1:=Ab (show Row w1 _ _ _ _ _ g1/\Only (fun b=>gw=some b) wr w1/\(g1=gw\/∃ b,g1=some b/\wr.heap.size<=b) from ⟨R1p,O1,G1⟩);have Z1:=(O1.keep g (k03 R.out.blk) (fun k=>(R.out.apart.2.1 g k).1 rfl)).trans R.out.blk;have c1:=fun i=>k00 Z1 i;have f1:=fun i=>k02 Z1 i;clear R1p O1 G1)
    rw [k9k] at K1;refine ⟨⟨j+1,_,_,zz1,rfl,⟨R.out.setW K1.out.2.1 K1.out.1 K1.out.2.2⟩⟩,?_⟩;show Ln-ixOf (.int .i64 ((j:Int)+1))<Ln-ixOf (.int .i64 (j:Int));exact zz10
  · have e1:¬ (j:Int)<(Ln:Int):=by omega
    obtain rfl:Ln=j:=by omega
    go_wp2
    go_loopw [13,14] (fun s13 s14 wr=>∃ (x b ne:Nat) (ev:Value) (ce:List Value) (ge:Option Nat),x<65536/\1<=b/\b<=2/\ne<b/\s13 = .int .u16 x/\s14 = .int .i64 b/\k08 (LawPl w g Ln rm qu ro er s ne Ln 0 ev wv (.slice none 0 0) ce (wgts a2 Ln) [] ge gw none wr)) (fun _ s14 _=>2-ixOf s14)
    case atStart=>exact ⟨s,1,0,_,_,none,h4,zz1,zz1,zz1,rfl,rfl,R⟩
    case round=>
     clear b1 R M0;obtain ⟨x,b,ne,ev,ce,ge,x1,hb1,hb2,hne,rfl,rfl,R⟩:=hrel;have b1:=fun i=>k00 R.out.blk i
     by_cases hlt:b<2
     · obtain rfl:b=1:=by omega
       go_wp2
       go_loopw [13,15] (fun s13 s15 wr=>∃ (x a ne:Nat) (ev:Value) (ce:List Value) (ge:Option Nat),x<65536/\a<=1/\ne<=a/\s13 = .int .u16 x/\s15 = .int .i64 a/\k08 (LawPl w g Ln rm qu ro er s ne Ln 0 ev wv (.slice none 0 0) ce (wgts a2 Ln) [] ge gw none wr)) (fun _ s15 _=>1-ixOf s15)
       case atStart=>exact ⟨x,0,ne,_,_,ge,x1,zz1,zz1,rfl,rfl,R⟩
       case round=>
        clear b1 R;obtain ⟨x,a,ne,ev,ce,ge,x1,ha,hne,rfl,rfl,R⟩:=hrel;have b1:=fun i=>k00 R.out.blk i
        by_cases hla:a<1
        · obtain rfl:a=0:=by omega
          by_cases hx:(x:Int) % 2=1
          · have hx':=decide_eq_true hx
            go_wp2_with (at_builtin;refine k0P rfl _ _ 28 131 (.agg #[.int .i64 0,.int .i64 0]) 2 16 rfl Tryz.underlying28 k5r rfl zz8 zz8 ev ne ce [.int .i64 0,.int .i64 1] ge R.out.E rfl rfl rfl rfl zz60 zz1 ?_;intro v1 w1 g1 R1p O1 G1;obtain ⟨A1',k1',rfl,_⟩:=R1p.size;have K1:=Ab (show Row w1 _ _ _ _ _ g1/\Only (fun b=>ge=some b) wr w1/\(g1=ge\/∃ b,g1=some b/\wr.heap.size<=b) from ⟨R1p,O1,G1⟩);have Z1:=(O1.keep g (k03 R.out.blk) (fun k=>(R.out.apart.1 g k).1 rfl)).trans R.out.blk;have c1:=fun i=>k00 Z1 i;have f1:=fun i=>k02 Z1 i;clear R1p O1 G1)
            refine ⟨⟨_,_,_,_,_,_,_,_,_,_,_,_,_,_,_,_,_,_,_,_,⟨x / 2,1,ne+1,_,_,_,zz1,zz1,zz1,(by exact congrArg (Value.int .u16) (show (x:Int) / 2=((x / 2:Nat):Int) by omega)),rfl,⟨R.out.setE K1.out.2.1 K1.out.1 K1.out.2.2⟩⟩,rfl⟩,?_⟩;simp [ixOf]
          · have hx':=decide_eq_false hx
            go_wp2;refine ⟨⟨x / 2,1,ne,_,_,_,zz1,zz1,zz1,by first | rfl | (congr 1;omega),rfl,R⟩,?_⟩;simp [ixOf]
        · obtain rfl:a=1:=by omega
          go_wp2;refine ⟨⟨x,2,ne,_,_,_,x1,zz1,zz1,zz1,rfl,rfl,R⟩,?_⟩;simp [ixOf]
     · obtain rfl:b=2:=by omega
       go_wp2
       go_loopw [16,17] (fun s16 s17 wr=>∃ (k v:Nat) (nv:Value) (cn:List Value) (gn:Option Nat),k<=100*v/\v<=2/\s16 = .int .i64 k/\s17 = .int .i64 v/\k08 (LawPl w g Ln rm qu ro er s ne Ln v ev wv nv ce (wgts a2 Ln) cn ge gw gn wr)) (fun _ s17 _=>2-ixOf s17)
       case atStart=>exact ⟨0,0,_,_,none,zz1,zz1,rfl,rfl,R⟩
       case round=>
        clear b1 R;obtain ⟨k,v,nv,cn,gn,hk,hv,rfl,rfl,R⟩:=hrel;have b1:=fun i=>k00 R.out.blk i
        by_cases hlv:v<2
        · have e1:(v:Int)<2:=by omega
          go_wp2
          go_loopw [16,18,19,20] (fun s16 s18 s19 s20 wr=>∃ (k j:Nat) (rv:Value) (cr:List Value) (gr:Option Nat),k<=100*v+10*j/\j<=2/\s16 = .int .i64 k/\s18=rv/\s19 = .int .i64 j/\k08 (LawPl w g Ln rm qu ro er s ne Ln v ev wv nv ce (wgts a2 Ln) cn ge gw gn wr/\Row wr rv 3 1 j cr gr/\∀ b,gr=some b->w.heap.size<b/\gw≠some b)) (fun _ _ s19 _ _=>2-ixOf s19)
          case atStart=>exact ⟨k,0,_,[],none,zz1,zz1,rfl,rfl,rfl,⟨R.out,Row.nil _ _ _,zz17⟩⟩
          case round=>
           clear b1 R;obtain ⟨k,j,rv,cr,gr,hk,hj,rfl,rfl,rfl,R⟩:=hrel;have b1:=fun i=>k00 R.out.1.blk i
           obtain ⟨A6,k6,rfl,_⟩:=R.out.2.1.size;by_cases hlj:j<2
           · have e2:(j:Int)<2:=by omega
             have e3:¬ (k:Int)<0:=by omega
             go_wp2_with (at_builtin;refine k0P rfl _ _ 29 3 (.int .i64 0) 1 8 rfl Tryz.underlying29 k1k rfl zz8 zz8 (.slice A6 j k6) j cr [.int .i64 j] gr R.out.2.1 rfl rfl rfl rfl zz27 zz1 ?_;intro v1 w1 g1 R1p O1 G1;obtain ⟨A1',k1',rfl,_⟩:=R1p.size;have K1:=Ab (show Row w1 _ _ _ _ _ g1/\Only (fun b=>gr=some b) wr w1/\(g1=gr\/∃ b,g1=some b/\wr.heap.size<=b) from ⟨R1p,O1,G1⟩);clear R1p O1 G1)
             refine ⟨⟨_,_,_,⟨k+1,j+1,zz1,zz1,rfl,rfl,_,_,⟨R.out.1.far K1.out.2.1 (fun b e=>?_),K1.out.1,fun b e=>?_⟩⟩,rfl,rfl,rfl⟩,?_⟩
             · refine ⟨(R.out.2.2 b e).1,?_,?_,(R.out.2.2 b e).2,?_⟩
               · subst e;obtain ⟨_,q⟩:=R.out.2.1.blk_ty;exact k0v q R.out.1.blk zz8
               · intro e2;subst e;subst e2;obtain ⟨_,q⟩:=R.out.2.1.blk_ty;obtain ⟨_,q2⟩:=R.out.1.E.blk_ty;exact k0v q q2 zz8 rfl
               · intro e2;subst e;subst e2;obtain ⟨_,q⟩:=R.out.2.1.blk_ty;obtain ⟨_,q2⟩:=R.out.1.N.blk_ty;exact k0v q q2 zz8 rfl
             · rcases K1.out.2.2 with e2 | ⟨b2,e2,hb⟩
               · exact R.out.2.2 b (by rw [<- e2];exact e)
               · rw [e] at e2;cases e2
                 have:=k03 R.out.1.res;exact ⟨zz1,fun e3=>by have:=(e3 ▸ R.out.1.Wt).lt rfl;omega⟩
             · simp only [ixOf];omega
           · obtain rfl:j=2:=by omega
             go_wp2_with (at_builtin;refine k0P rfl _ _ 30 29 (.slice none 0 0) 1 24 rfl Tryz.underlying30 k6G rfl zz8 zz8 nv v cn [.slice A6 (2:Nat) k6] gn R.out.1.N rfl rfl rfl rfl zz27 zz1 ?_;intro v1 w1 g1 R1p O1 G1;obtain ⟨A1',k1',rfl,_⟩:=R1p.size;have K1:=Ab (show Row w1 _ _ _ _ _ g1/\Only (fun b=>gn=some b) wr w1/\(g1=gn\/∃ b,g1=some b/\wr.heap.size<=b) from ⟨R1p,O1,G1⟩);have Z1:=(O1.keep g (k03 R.out.1.blk) (fun k=>(R.out.1.apart.2.2 g k).1 rfl)).trans R.out.1.blk;have c1:=fun i=>k00 Z1 i;have f1:=fun i=>k02 Z1 i;clear R1p O1 G1)
             refine ⟨?_,?_⟩
             · iterate 51 apply Exists.intro
               refine ⟨⟨k,v+1,_,_,_,zz1,zz1,rfl,rfl,⟨R.out.1.setN K1.out.2.1 K1.out.1 K1.out.2.2⟩⟩,rfl⟩
             show 2-ixOf (.int .i64 ((v:Int)+1))<2-ixOf (.int .i64 (v:Int));exact zz10
        · obtain rfl:v=2:=by omega
          obtain ⟨A1,c1,rfl,_⟩:=R.out.E.size;obtain ⟨A2,c2,rfl,_⟩:=R.out.Wt.size;obtain ⟨A3,c3,rfl,_⟩:=R.out.N.size;have r1:=fun i=>k00 R.out.res i
          have f1:=fun i=>k02 R.out.res i
          go_wp2;obtain ⟨ZF,oF⟩:=kaV (W:=wr) R.out.res rfl (.int .i64 2) (.slice A1 ne c1) (.int .i64 Ln) (.int .i64 rm) (.int .i64 qu) (.int .i64 ro) (.int .i64 er) (.int .i64 64) (.slice A2 Ln c2) (.int .u16 s) (.slice A3 (2:Nat) c3);obtain ⟨wf,hwf⟩:∃ wf,wf=k4Z wr w.heap.size (.int .i64 2) (.slice A1 ne c1) (.int .i64 Ln) (.int .i64 rm) (.int .i64 qu) (.int .i64 ro) (.int .i64 er) (.int .i64 64) (.slice A2 Ln c2) (.int .u16 s) (.slice A3 (2:Nat) c3):=⟨_,rfl⟩;rw [<- hwf] at ZF oF;show bodyPost _ _ _ _ _ (k4Z wr w.heap.size (.int .i64 2) (.slice A1 ne c1) (.int .i64 Ln) (.int .i64 rm) (.int .i64 qu) (.int .i64 ro) (.int .i64 er) (.int .i64 64) (.slice A2 Ln c2) (.int .u16 s) (.slice A3 (2:Nat) c3));rw [<- hwf];refine bodyPost_ret (results_cell_row rfl _ _ w.heap.size 32 _ (0,0) _ rfl ZF Tryz.underlying32 rfl zz3) rfl ?_;have ha:=R.out.apart;refine ⟨_,_,_,_,_,_,_,_,gw,rfl,R.out.Wt.only oF (fun b e e2=>?_),fun b e=>Nat.le_of_lt (R.out.lo b (by simp [e])),R.out.onlyB oF (fun b e=>by omega)⟩;have:=R.out.lo b (by simp [e]);exact zz1
end
end Go.Proofs.YtdopmlopafgonaaGreatDoor.Own
