/- TopOrder: of each flow what came is some of what was injected, in its order (a part of the walks and of the plain laws). -/
import Derived.Test.YtdopmlopafgonaaGreatDoorD0
import Derived.Test.YtdopmlopafgonaaGreatDoorD37
set_option linter.unusedVariables false
set_option linter.unusedSimpArgs false
set_option maxHeartbeats 4000000
set_option maxRecDepth 100000
namespace Go.Proofs.YtdopmlopafgonaaGreatDoor.Own
open Go.RowKit Go.Proofs.YtdopmlopafgonaaGreatDoorW.PrintWords Go.Proofs.YtdopmlopafgonaaGreatDoorW.PrintLast Go.Proofs.YtdopmlopafgonaaGreatDoorW.PrintMore
section
variable{P:Program}{ops:Array Oper}{Q:Exit->Act->World->Prop}{md:Region.Mode}{S:World->Prop}{last:Nat}
theorem WpL.two{i j:Nat}{oi oj:Oper}{fuel:Nat}{listed:Array Bool}{a:Act}{w:World}(hr:Region.ready md ops listed=[i,j])(hoi:ops[i]? = some oi)(hoj:ops[j]? = some oj)
 (hi:∀K:Act->World->Prop,Shut (∀a w,(i≠last->S w)->WpL P md ops Q S last fuel (listed.setIfInBounds i true) a w->K a w)->if Region.wanted oi (yielded ops a.tmps)=true then Oper.wp P oi a w K Q else K (a.put oi.dst undef) w)
 (hj:∀K:Act->World->Prop,Shut (∀a w,(j≠last->S w)->WpL P md ops Q S last fuel (listed.setIfInBounds j true) a w->K a w)->if Region.wanted oj (yielded ops a.tmps)=true then Oper.wp P oj a w K Q else K (a.put oj.dst undef) w) :
 WpL P md ops Q S last (fuel+1) listed a w:=
 ⟨fun h0=>(by rw[hr]at h0;cases h0),fun n hn=>by
  rw[hr]at hn;simp only[List.mem_cons,List.not_mem_nil,or_false]at hn;rcases hn with rfl|rfl
  ·exact wpOp_step hoi (fun K' hK=>hi K' (fun a w hS hW=>hK a w ⟨hS,hW⟩))
  ·exact wpOp_step hoj (fun K' hK=>hj K' (fun a w hS hW=>hK a w ⟨hS,hW⟩))⟩
theorem wp_at{P:Program}{c:Code}{Q:Exit->Act->World->Prop}{a:Act}{w:World}(F:Act->Exit->Act->World->Prop)(h:c.wp P (F a) a w)(hq:∀e a' w',F a e a' w'->Q e a' w'):c.wp P Q a w:=Code.wp_mono hq h
end
section
variable{w:World}{o:Nat->Col}{D:PlanD}
structure New4(w:World)(D:PlanD)(pb:Obj)(E1:Option Addr)(k1:Nat)(E2:Option Addr)(k2:Nat)(E3:Option Addr)(k3:Nat)(AH:Option Addr)(cH:Nat)(gh:Option Nat)(mb:Nat)(W:World):Prop where
 plan:PlanV W (fun b=>w.heap.size<=b) (pagg D E1 k1 E2 k2 E3 k3) D
 hops:Row W (.slice AH D.hops.length cH) 90 2 D.hops.length (k0d D.hops) gh
 hn:∀b,gh=some b->w.heap.size<=b
 map:MapAt mapL W mb (fun _=>none)
 mn:w.heap.size<=mb
 bel:Below w.heap.size w W
 box:W.heap[w.heap.size]? = some pb
def New4A(w:World)(D:PlanD)(A1:Option Addr)(c1:Nat)(A2:Option Addr)(c2:Nat)(A3:Option Addr)(c3:Nat)(a0:Act)(e:Exit)(a':Act)(W':World):Prop:=
 ∃E1 k1 E2 k2 E3 k3 AH cH gh mb W,New4 w D (pbox D A1 c1 A2 c2 A3 c3) E1 k1 E2 k2 E3 k3 AH cH gh mb W/\e=.normal/\W'=W.alloc (.cells #[.int .i64 D.nodes,.slice E1 D.edges.length k1,.int .i64 D.lanes,.int .i64 D.room,.int .i64 D.queue,.int .i64 D.rounds,.int .i64 D.every,.int .i64 D.bag,.slice E2 D.weights.length k2,.int .u16 D.start,.slice E3 D.next.length k3,.slice AH D.hops.length cH,.slice none 0 0,.map (some mb),.int .i64 0] 87) /\
  a'=((((((((a0.put (some 14) (pagg D A1 c1 A2 c2 A3 c3)).put (some 16) (pagg D A1 c1 A2 c2 A3 c3)).put (some 15) (pagg D E1 k1 E2 k2 E3 k3)).put (some 17) (.slice AH D.hops.length cH)).put (some 18) (.map (some mb))).put (some 19) (.agg #[.int .i64 D.nodes,.slice E1 D.edges.length k1,.int .i64 D.lanes,.int .i64 D.room,.int .i64 D.queue,.int .i64 D.rounds,.int .i64 D.every,.int .i64 D.bag,.slice E2 D.weights.length k2,.int .u16 D.start,.slice E3 D.next.length k3,.slice AH D.hops.length cH,.slice none 0 0,.map (some mb),.int .i64 0])).put (some 20) (.pointer (some ⟨W.heap.size,0,none⟩))).put (some 5) (.pointer (some ⟨W.heap.size,0,none⟩)))
theorem New4A.panic{A1 c1 A2 c2 A3 c3}{a0:Act}{c}{a':Act}{W':World}(h:New4A w D A1 c1 A2 c2 A3 c3 a0 (.panic c) a' W'):False:=by
 obtain⟨_,_,_,_,_,_,_,_,_,_,_,_,h,_⟩:=h;exact zz52
theorem kdu:(Tryz.prog.info? 58).map (fun i=>(i.zero,i.size,i.bytes))=some (some (.pointer none),1,8):=by kernel_rfl
theorem k9B(B:Nat->Prop)(v:Value)(hP:PlanV w B v D)(G:Good D)(hf:Fresh o w) :
 Calls Tryz.prog 14 #[v] w fun e w'=>∃F o',e=.returned (.tuple #[.pointer (some ⟨F.g,0,none⟩),.int .u16 0])/\FabAt w' o' D F (fst0 D)/\NewB w.heap.size o w o' w':=by
 obtain⟨A1,c1,A2,c2,A3,c3,rfl⟩:=hP.shape;have P1:=Ab hP;have HG:=Ac (_/\_) (⟨G,hf⟩);have L1:=Ab ((Below.refl w.heap.size w).alloc (Nat.le_refl _) (pbox D A1 c1 A2 c2 A3 c3));have Z1:=Ab (heap_alloc_new w (pbox D A1 c1 A2 c2 A3 c3));clear hP G hf;go_enter Tryz.func14,Tryz.ntmps14
 go_wp2_with(go_at_call 35;refine(k4u _ _ D _ (P1.1.below L1.1) HG.1.1).mono ?_;rintro e w2 ⟨rfl,hb⟩;have L2:=Ac (_/\_) (⟨L1.1.trans (hb.mono L1.1.size),(hb.block _ zz6).trans Z1.1⟩);have b0:=fun i=>k00 L2.1.2 i;clear hb)
 clear b0;have L2d:=Ac (Below w.heap.size w w2.drew/\w2.drew.heap[w.heap.size]? = some (pbox D A1 c1 A2 c2 A3 c3)) (⟨L2.1.1.drew,L2.1.2⟩);have hmm:=@run_makeMap Tryz.prog;refine wp_at (New4A w D A1 c1 A2 c2 A3 c3) ?_ ?_
 ·refine WpL.region (fun(W:World)=>W.heap[w.heap.size]? = some (pbox D A1 c1 A2 c2 A3 c3)) 99 zz2 ?_
  refine WpL.takeE (i:=0) (v:=?vs_0) (rfl) zz2 zz2 zz2 zz2 zz2 (fun _ _ _ h=>(New4A.panic h).elim) ?ys_0 (L2d.1.2) ?rs_0
  case ys_0=>exact zz88
  refine Sm ?_;refine WpL.takeE (i:=2) (v:=?vs_2) (rfl) zz2 zz2 zz2 zz2 zz2 (fun _ _ _ h=>(New4A.panic h).elim) ?ys_2 (L2d.1.2) ?rs_2
  case ys_2=>exact zz88
  refine Sm ?_;refine WpL.two (i:=1) (j:=4) zz2 rfl rfl (fun K hK=>?_) (fun K hK=>?_)
  ·go_simp
   have BX:=L2d.1.1;refine(k2Z B _ D _ (P1.1.below BX) HG.1.1).mono ?_;rintro e wC ⟨vC,rfl,hpC,hbC⟩;obtain⟨E1,k1,E2,k2,E3,k3,rfl⟩:=hpC.shape;have BC:=Ac (Below w.heap.size w wC) (BX.trans (hbC.mono BX.size));have PC:=Ab (hpC.mono (fun b hb=>Nat.le_trans BX.size hb));have XC:=Ac (wC.heap[w.heap.size]? = some (pbox D A1 c1 A2 c2 A3 c3)) ((hbC.block _ (k03 (L2d.1.2))).trans (L2d.1.2));have MC:=Ab hbC;clear BX hpC hbC;simp only[];refine hK.out _ _ (fun _=>XC.1) ?_;clear hK K
   try refine Sm ?_
   refine WpL.two (i:=3) (j:=4) zz2 rfl rfl (fun K hK=>?_) (fun K hK=>?_)
   ·go_simp
    have BX:=BC.1;refine(k2x B _ D _ (P1.1.below BX) HG.1.1).mono ?_;rintro e wH ⟨vH,gh,rfl,hrH,hbH,hnH⟩;obtain⟨AH,cH,rfl,_⟩:=hrH.size;have BH:=Ac (Below w.heap.size w wH) (BX.trans (hbH.mono BX.size));have RH:=Ac (_/\∀b,gh=some b->w.heap.size<=b) (⟨hrH,fun b e=>Nat.le_trans BX.size (hnH b e)⟩);have XH:=Ac (wH.heap[w.heap.size]? = some (pbox D A1 c1 A2 c2 A3 c3)) ((hbH.block _ (k03 (XC.1))).trans (XC.1));have MH:=Ab hbH;clear BX hrH hbH hnH;simp only[];refine hK.out _ _ (fun _=>XH.1) ?_;clear hK K
    try refine Sm ?_
    refine WpL.one (i:=4) zz2 rfl (fun K hK=>?_);go_simp;have BM:=Ac (Below w.heap.size w (wH.alloc (.map #[] 0))) ((BH.1).alloc (BH.1).size _);have XM:=Ac ((wH.alloc (.map #[] 0)).heap[w.heap.size]? = some (pbox D A1 c1 A2 c2 A3 c3)) ((((Below.refl _ wH).alloc (Nat.le_refl _) (.map #[] 0)).block _ (k03 (XH.1))).trans (XH.1));have NM:=Ac (MapAt mapL (wH.alloc (.map #[] 0)) wH.heap.size (fun _=>none)) (MapAt.new mapL wH);have LM:=Ac (Below wH.heap.size wH (wH.alloc (.map #[] 0))) ((Below.refl _ wH).alloc (Nat.le_refl _) _);have SM:=Ac (w.heap.size<=wH.heap.size) ((BH.1).size);refine hK.out _ _ (fun _=>XM.1) ?_;clear hK K
    try refine Sm ?_
    refine WpL.takeE (i:=5) (v:=?vC_5) (rfl) zz2 zz2 zz2 zz2 zz2 (fun _ _ _ h=>(New4A.panic h).elim) ?yC_5 (XM.1) ?rC_5
    case yC_5=>exact zz15
    refine Sm ?_;refine WpL.one (i:=6) zz2 rfl (fun K hK=>?_);go_simp;refine hK.out _ _ (fun _=>(((Below.refl _ _).alloc (Nat.le_refl _) _).block _ (k03 (XM.1))).trans (XM.1)) ?_;clear hK K
    try refine Sm ?_
    refine WpL.takeE (i:=7) (v:=?vCe_7) (rfl) zz2 zz2 zz2 zz2 zz2 (fun _ _ _ h=>(New4A.panic h).elim) ?yCe_7 ((((Below.refl _ _).alloc (Nat.le_refl _) _).block _ (k03 (XM.1))).trans (XM.1)) ?rCe_7
    case yCe_7=>exact zz15
    refine Sm ?_;refine WpL.done zz2 ?_ _;exact⟨E1,k1,E2,k2,E3,k3,AH,cH,gh,_,_,⟨(PC.1.below MH.1).below LM.1,RH.1.1.below LM.1,RH.1.2,NM.1,SM.1,BM.1,XM.1⟩,rfl,rfl,by(simp only[Act.put,List.setIfInBounds_toArray,List.set_cons_zero,List.set_cons_succ,List.getElem_toArray,List.getElem_cons_succ,List.getElem_cons_zero]);first|done|(simp only[World.size_alloc];done)|rfl|(simp only[World.size_alloc];rfl)⟩
   ·go_simp
    have BM:=Ac (Below w.heap.size w (wC.alloc (.map #[] 0))) ((BC.1).alloc (BC.1).size _);have XM:=Ac ((wC.alloc (.map #[] 0)).heap[w.heap.size]? = some (pbox D A1 c1 A2 c2 A3 c3)) ((((Below.refl _ wC).alloc (Nat.le_refl _) (.map #[] 0)).block _ (k03 (XC.1))).trans (XC.1));have NM:=Ac (MapAt mapL (wC.alloc (.map #[] 0)) wC.heap.size (fun _=>none)) (MapAt.new mapL wC);have LM:=Ac (Below wC.heap.size wC (wC.alloc (.map #[] 0))) ((Below.refl _ wC).alloc (Nat.le_refl _) _);have SM:=Ac (w.heap.size<=wC.heap.size) ((BC.1).size);refine hK.out _ _ (fun _=>XM.1) ?_;clear hK K
    try refine Sm ?_
    refine WpL.one (i:=3) zz2 rfl (fun K hK=>?_);go_simp;have BX:=BM.1;refine(k2x B _ D _ (P1.1.below BX) HG.1.1).mono ?_;rintro e wH ⟨vH,gh,rfl,hrH,hbH,hnH⟩;obtain⟨AH,cH,rfl,_⟩:=hrH.size;have BH:=Ac (Below w.heap.size w wH) (BX.trans (hbH.mono BX.size));have RH:=Ac (_/\∀b,gh=some b->w.heap.size<=b) (⟨hrH,fun b e=>Nat.le_trans BX.size (hnH b e)⟩);have XH:=Ac (wH.heap[w.heap.size]? = some (pbox D A1 c1 A2 c2 A3 c3)) ((hbH.block _ (k03 (XM.1))).trans (XM.1));have MH:=Ab hbH;clear BX hrH hbH hnH;simp only[];refine hK.out _ _ (fun _=>XH.1) ?_;clear hK K
    try refine Sm ?_
    refine WpL.takeE (i:=5) (v:=?vB_5) (rfl) zz2 zz2 zz2 zz2 zz2 (fun _ _ _ h=>(New4A.panic h).elim) ?yB_5 (XH.1) ?rB_5
    case yB_5=>exact zz15
    refine Sm ?_;refine WpL.one (i:=6) zz2 rfl (fun K hK=>?_);go_simp;refine hK.out _ _ (fun _=>(((Below.refl _ _).alloc (Nat.le_refl _) _).block _ (k03 (XH.1))).trans (XH.1)) ?_;clear hK K
    try refine Sm ?_
    refine WpL.takeE (i:=7) (v:=?vBe_7) (rfl) zz2 zz2 zz2 zz2 zz2 (fun _ _ _ h=>(New4A.panic h).elim) ?yBe_7 ((((Below.refl _ _).alloc (Nat.le_refl _) _).block _ (k03 (XH.1))).trans (XH.1)) ?rBe_7
    case yBe_7=>exact zz15
    refine Sm ?_;refine WpL.done zz2 ?_ _;exact⟨E1,k1,E2,k2,E3,k3,AH,cH,gh,_,_,⟨(PC.1.below LM.1).below MH.1,RH.1.1,RH.1.2,NM.1.of_blk (MH.1.block _ NM.1.lt),SM.1,BH.1,XH.1⟩,rfl,rfl,by(simp only[Act.put,List.setIfInBounds_toArray,List.set_cons_zero,List.set_cons_succ,List.getElem_toArray,List.getElem_cons_succ,List.getElem_cons_zero]);first|done|(simp only[World.size_alloc];done)|rfl|(simp only[World.size_alloc];rfl)⟩
  ·go_simp
   have BM:=Ac (Below w.heap.size w (w2.drew.alloc (.map #[] 0))) ((L2d.1.1).alloc (L2d.1.1).size _);have XM:=Ac ((w2.drew.alloc (.map #[] 0)).heap[w.heap.size]? = some (pbox D A1 c1 A2 c2 A3 c3)) ((((Below.refl _ w2.drew).alloc (Nat.le_refl _) (.map #[] 0)).block _ (k03 (L2d.1.2))).trans (L2d.1.2));have NM:=Ac (MapAt mapL (w2.drew.alloc (.map #[] 0)) w2.drew.heap.size (fun _=>none)) (MapAt.new mapL w2.drew);have LM:=Ac (Below w2.drew.heap.size w2.drew (w2.drew.alloc (.map #[] 0))) ((Below.refl _ w2.drew).alloc (Nat.le_refl _) _);have SM:=Ac (w.heap.size<=w2.drew.heap.size) ((L2d.1.1).size);refine hK.out _ _ (fun _=>XM.1) ?_;clear hK K
   try refine Sm ?_
   refine WpL.one (i:=1) zz2 rfl (fun K hK=>?_);go_simp;have BX:=BM.1;refine(k2Z B _ D _ (P1.1.below BX) HG.1.1).mono ?_;rintro e wC ⟨vC,rfl,hpC,hbC⟩;obtain⟨E1,k1,E2,k2,E3,k3,rfl⟩:=hpC.shape;have BC:=Ac (Below w.heap.size w wC) (BX.trans (hbC.mono BX.size));have PC:=Ab (hpC.mono (fun b hb=>Nat.le_trans BX.size hb));have XC:=Ac (wC.heap[w.heap.size]? = some (pbox D A1 c1 A2 c2 A3 c3)) ((hbC.block _ (k03 (XM.1))).trans (XM.1));have MC:=Ab hbC;clear BX hpC hbC;simp only[];refine hK.out _ _ (fun _=>XC.1) ?_;clear hK K
   try refine Sm ?_
   refine WpL.one (i:=3) zz2 rfl (fun K hK=>?_);go_simp;have BX:=BC.1;refine(k2x B _ D _ (P1.1.below BX) HG.1.1).mono ?_;rintro e wH ⟨vH,gh,rfl,hrH,hbH,hnH⟩;obtain⟨AH,cH,rfl,_⟩:=hrH.size;have BH:=Ac (Below w.heap.size w wH) (BX.trans (hbH.mono BX.size));have RH:=Ac (_/\∀b,gh=some b->w.heap.size<=b) (⟨hrH,fun b e=>Nat.le_trans BX.size (hnH b e)⟩);have XH:=Ac (wH.heap[w.heap.size]? = some (pbox D A1 c1 A2 c2 A3 c3)) ((hbH.block _ (k03 (XC.1))).trans (XC.1));have MH:=Ab hbH;clear BX hrH hbH hnH;simp only[];refine hK.out _ _ (fun _=>XH.1) ?_;clear hK K
   try refine Sm ?_
   refine WpL.takeE (i:=5) (v:=?vA_5) (rfl) zz2 zz2 zz2 zz2 zz2 (fun _ _ _ h=>(New4A.panic h).elim) ?yA_5 (XH.1) ?rA_5
   case yA_5=>exact zz15
   refine Sm ?_;refine WpL.one (i:=6) zz2 rfl (fun K hK=>?_);go_simp;refine hK.out _ _ (fun _=>(((Below.refl _ _).alloc (Nat.le_refl _) _).block _ (k03 (XH.1))).trans (XH.1)) ?_;clear hK K
   try refine Sm ?_
   refine WpL.takeE (i:=7) (v:=?vAe_7) (rfl) zz2 zz2 zz2 zz2 zz2 (fun _ _ _ h=>(New4A.panic h).elim) ?yAe_7 ((((Below.refl _ _).alloc (Nat.le_refl _) _).block _ (k03 (XH.1))).trans (XH.1)) ?rAe_7
   case yAe_7=>exact zz15
   refine Sm ?_;refine WpL.done zz2 ?_ _;exact⟨E1,k1,E2,k2,E3,k3,AH,cH,gh,_,_,⟨PC.1.below MH.1,RH.1.1,RH.1.2,(NM.1.of_blk (MC.1.block _ NM.1.lt)).of_blk (MH.1.block _ (Nat.lt_of_lt_of_le NM.1.lt MC.1.size)),SM.1,BH.1,XH.1⟩,rfl,rfl,by(simp only[Act.put,List.setIfInBounds_toArray,List.set_cons_zero,List.set_cons_succ,List.getElem_toArray,List.getElem_cons_succ,List.getElem_cons_zero]);first|done|(simp only[World.size_alloc];done)|rfl|(simp only[World.size_alloc];rfl)⟩
 ·rintro e a' w' ⟨E1,k1,E2,k2,E3,k3,AH,cH,gh,mb,W,N4,rfl,rfl,rfl⟩
  refine Sm ?_;obtain⟨hb,ho,hc,hgh,hA,_,_,_⟩:=N4.hops.open (k45 HG.1.1);simp only[Value.slice.injEq]at hA;obtain⟨rfl,-,rfl⟩:=hA;subst hgh;have mbx:∀b cp Ty fr,W.heap[b]? = some (.cells cp Ty fr)->b≠mb:=fun b cp Ty fr h e=>by
   obtain⟨es,clock,hh,_⟩:=N4.map;rw[e,hh]at h;exact zz52
  obtain⟨o1,ho1⟩:∃o1:Nat->Col,o1=fun b=>if b=mb then .junk else paint (paint o w.heap.size W.heap.size .fix) W.heap.size (W.heap.size+1) .fab b:=⟨_,rfl⟩
  obtain⟨g,hg⟩:∃g,g=W.heap.size:=⟨_,rfl⟩;obtain⟨W1,hW1⟩:∃W1,W1=W.alloc (.cells #[.int .i64 D.nodes,.slice E1 D.edges.length k1,.int .i64 D.lanes,.int .i64 D.room,.int .i64 D.queue,.int .i64 D.rounds,.int .i64 D.every,.int .i64 D.bag,.slice E2 D.weights.length k2,.int .u16 D.start,.slice E3 D.next.length k3,.slice (some ⟨hb,ho,none⟩) D.hops.length cH,.slice none 0 0,.map (some mb),.int .i64 0] 87):=⟨_,rfl⟩;have BW:Below W.heap.size W W1:=by rw[hW1];exact(Below.refl _ W).alloc (Nat.le_refl _) _
  have hws:=N4.bel.size;have hml:=N4.map.lt;have fx:∀b,w.heap.size<=b->b<W.heap.size->b≠mb->o1 b=.fix:=fun b h1 h2 h3=>by rw[ho1];show(if b=mb then Col.junk else _)=_;rw[if_neg h3,k0v _ _ h2];exact k0C _ _ h1 h2
  have F0:=Ac (NewF w o D (pbox D A1 c1 A2 c2 A3 c3) E1 k1 E2 k2 E3 k3 hb ho cH mb g W1 o1 (.slice none 0 0) none (fun _=>⟨0,0,0,0,0,0,0,fun _=>0,fun _=>0,fun _=>0,fun _=>0,fun _ _=>0,fun _ _=>0,none,0,none,0,none,0⟩) (fun _=>0) 0 0) (by
   have hmn:=N4.mn;have hbm:w.heap.size≠mb:=mbx _ _ _ _ N4.box;obtain⟨chb,hchb⟩:=N4.hops.blk_ty;refine⟨⟨N4.bel.trans (BW.mono hws),fun b hb'=>?_,fun b hb'=>?_⟩,?_,by have:=k03 N4.box;omega,?_,?_,N4.hops.below BW,fx _ (N4.hn _ rfl) (N4.hops.lt rfl) (mbx _ _ _ _ hchb),?_,?_,zz1,Row.nil _ _ _,zz6,fun v h=>by omega,zz6,(BW.block _ (k03 N4.box)).trans N4.box,fx _ (Nat.le_refl _) (k03 N4.box) hbm⟩
   ·rw[ho1];show(if b=mb then Col.junk else _)=_;rw[if_neg zz1,k0v _ _ zz1,k0v _ _ hb']
   ·rw[ho1];show(if b=mb then Col.junk else _)=_;rw[hW1]at hb';simp at hb';rw[if_neg zz1];unfold paint;rw[if_neg zz1,if_neg zz1]
   ·rw[ho1,hg];show(if W.heap.size=mb then Col.junk else _)=_;rw[if_neg zz1];exact k0C _ _ (Nat.le_refl _) zz1
   ·rw[hW1,hg];exact heap_alloc_new W _
   ·exact(N4.plan.inCells.below BW).mono (fun b hb'=>by obtain⟨h1,h2,cp,Ty,fr,h3⟩:=hb';exact fx b h1 h2 (mbx _ _ _ _ h3))
   ·simp only[List.take_zero,List.not_mem_nil,if_false];exact N4.map.of_blk (BW.block _ N4.map.lt)
   ·rw[ho1];show(if mb=mb then Col.junk else _)=_;rw[if_pos rfl])
  have HW:=Ac (W1.heap.size=g+1) (by rw[hW1,hg];simp);rw[<- hW1,<- hg];clear hW1 hg ho1 BW fx N4 mbx hml;have hn6:=HG.1.1.n1;have b1:=fun i=>k00 F0.1.box i
  have b2:=fun i=>k00 F0.1.blk i
  go_wp2
  go_loopw [23] (fun s23 wr=>∃(k:Nat)(oc:Nat->Col)(nv:Value)(gv:Option Nat)(T:Nat->NTab),k<=D.nodes/\s23=.int .i64 k/\k07 (NewF w o D (pbox D A1 c1 A2 c2 A3 c3) E1 k1 E2 k2 E3 k3 hb ho cH mb g wr oc nv gv T (fun _=>0) k 0)) (fun s23 _=>D.nodes-ixOf s23)
  case atStart=>exact⟨0,o1,_,none,_,zz1,rfl,⟨F0.1⟩⟩
  case round=>
   clear b1 b2;obtain⟨k,oc,nv,gv,T,hk,rfl,R⟩:=hrel;by_cases hlt:k<D.nodes
   ·have e3:(k:Int)<(D.nodes:Int):=by omega
    have HS:=Sat.mk (S:=fun(W:World)=>W.cell? ⟨g,12,none⟩=some nv/\W.cell? ⟨g,0,none⟩=some (Value.int .i64 D.nodes)/\W.cell? ⟨g,1,none⟩=some (.slice E1 D.edges.length k1)/\W.cell? ⟨g,2,none⟩=some (.int .i64 D.lanes)/\W.cell? ⟨g,3,none⟩=some (.int .i64 D.room)/\W.cell? ⟨g,4,none⟩=some (.int .i64 D.queue)/\W.cell? ⟨g,5,none⟩=some (.int .i64 D.rounds)/\W.cell? ⟨g,6,none⟩=some (.int .i64 D.every)/\W.cell? ⟨g,7,none⟩=some (.int .i64 D.bag)/\W.cell? ⟨g,8,none⟩=some (.slice E2 D.weights.length k2)/\W.cell? ⟨g,9,none⟩=some (.int .u16 D.start)/\W.cell? ⟨g,10,none⟩=some (.slice E3 D.next.length k3)) (w:=wr) (⟨(k00 R.1.blk 12).trans rfl,(k00 R.1.blk 0).trans rfl,(k00 R.1.blk 1).trans rfl,(k00 R.1.blk 2).trans rfl,(k00 R.1.blk 3).trans rfl,(k00 R.1.blk 4).trans rfl,(k00 R.1.blk 5).trans rfl,(k00 R.1.blk 6).trans rfl,(k00 R.1.blk 7).trans rfl,(k00 R.1.blk 8).trans rfl,(k00 R.1.blk 9).trans rfl,(k00 R.1.blk 10).trans rfl⟩);go_wp2;refine WpL.rg HS 15 zz2 ?_;refine WpL.T 0 [] HS.1 ?_;refine WpL.T 1 [] HS.1 ?_;refine WpL.T 2 [] HS.1 ?_;refine WpL.T 3 [] HS.1 ?_;refine WpL.T 4 [] HS.1 ?_;refine WpL.T 5 [] HS.1 ?_;refine WpL.T 6 [] HS.1 ?_;refine WpL.T 7 [] HS.1 ?_;refine WpL.T 8 [] HS.1 ?_;refine WpL.T 9 [] HS.1 ?_;refine WpL.one (i:=10) zz2 rfl (fun K hK=>?_);go_simp;refine(kbn E1 k1 E2 k2 E3 k3 (R.1.plan.below ((Below.refl _ wr).drew)) HG.1.1 hlt (R.1.new.fresh.blw ((Below.refl _ wr).drew))).mono ?_;rintro e wa ⟨T',oa,rfl,hN,hB⟩;have NA:=Ac (NodeAt wa oa k D T' (nst0 D)/\NewB wr.heap.size oc wr oa wa) (⟨hN,⟨undrew hB.below,hB.own,hB.fresh⟩⟩);have HSa:=HS.to wa (by obtain⟨k0,k1,k2,k3,k4,k5,k6,k7,k8,k9,k10,k11⟩:=HS.1;exact⟨k01 NA.1.2.below k0,k01 NA.1.2.below k1,k01 NA.1.2.below k2,k01 NA.1.2.below k3,k01 NA.1.2.below k4,k01 NA.1.2.below k5,k01 NA.1.2.below k6,k01 NA.1.2.below k7,k01 NA.1.2.below k8,k01 NA.1.2.below k9,k01 NA.1.2.below k10,k01 NA.1.2.below k11⟩);clear hN hB;simp only[];refine hK.out _ _ (fun _=>HSa.1) ?_;clear hK K
    try refine Sm ?_
    refine WpL.one (i:=11) zz2 rfl (fun K hK=>?_);go_simp;have Lb:=Ac (Below wa.heap.size wa (wa.alloc (.cells #[.pointer (some ⟨T'.g,0,none⟩)] 58))) ((Below.refl _ wa).alloc (Nat.le_refl _) _);have HSb:=HS.to (wa.alloc (.cells #[.pointer (some ⟨T'.g,0,none⟩)] 58)) (by obtain⟨k0,k1,k2,k3,k4,k5,k6,k7,k8,k9,k10,k11⟩:=HSa.1;exact⟨k01 Lb.1 k0,k01 Lb.1 k1,k01 Lb.1 k2,k01 Lb.1 k3,k01 Lb.1 k4,k01 Lb.1 k5,k01 Lb.1 k6,k01 Lb.1 k7,k01 Lb.1 k8,k01 Lb.1 k9,k01 Lb.1 k10,k01 Lb.1 k11⟩);refine hK.out _ _ (fun _=>HSb.1) ?_;clear hK K
    try refine Sm ?_
    refine WpL.one (i:=12) zz2 rfl (fun K hK=>?_);refine k0w rfl _ _ 85 58 (.pointer none) 1 8 rfl Tryz.underlying85 kdu rfl zz7 zz7 nv k _ [.pointer (some ⟨T'.g,0,none⟩)] gv (R.1.nodes.below NA.1.2.below) rfl rfl rfl rfl zz34 zz1 ?_;intro vd wd gd Rd Od Gd;obtain⟨Ad,cd,rfl,_⟩:=Rd.size;have Kd:=Ac (_/\Only (fun b=>gv=some b) wa wd/\_) (⟨Rd,Od,Gd⟩);have hgv:∀b,gv=some b->b≠g:=fun b e e2=>by have h1:=(R.1.on b e).1;rw[e2,R.1.og]at h1;cases h1
    have HSd:=HS.to wd (by obtain⟨k0,k1,k2,k3,k4,k5,k6,k7,k8,k9,k10,k11⟩:=HSa.1;exact⟨Od.cell k0 (fun e=>hgv _ e rfl),Od.cell k1 (fun e=>hgv _ e rfl),Od.cell k2 (fun e=>hgv _ e rfl),Od.cell k3 (fun e=>hgv _ e rfl),Od.cell k4 (fun e=>hgv _ e rfl),Od.cell k5 (fun e=>hgv _ e rfl),Od.cell k6 (fun e=>hgv _ e rfl),Od.cell k7 (fun e=>hgv _ e rfl),Od.cell k8 (fun e=>hgv _ e rfl),Od.cell k9 (fun e=>hgv _ e rfl),Od.cell k10 (fun e=>hgv _ e rfl),Od.cell k11 (fun e=>hgv _ e rfl)⟩);have Zd:=(Od.keep g (Nat.lt_of_lt_of_le (k03 R.1.blk) NA.1.2.below.size) (fun e=>hgv _ e rfl)).trans ((NA.1.2.below.block g (k03 R.1.blk)).trans R.1.blk);have c12:=HSd.1.1;have f12:=k02 Zd 12;clear Rd Od Gd Zd hgv;refine hK.out _ _ (fun _=>HSd.1) ?_;clear hK K
    try refine Sm ?_
    refine WpL.T 13 [14] HSd.1 ?_;refine WpL.T 14 [] HSd.1 ?_;refine WpL.one (i:=15) zz2 rfl (fun K hK=>?_);go_simp;refine hK.out _ _ (fun h=>absurd rfl h) ?_;clear hK K
    try refine Sm ?_
    refine WpL.done zz2 ?_ _;go_wp2;refine⟨⟨k+1,oa,_,gd,upd T k T',zz1,rfl,⟨R.1.addNode NA.1.2 NA.1.1 Kd.1.2.1 Kd.1.1 Kd.1.2.2⟩⟩,?_⟩;exact zz21
   ·have e3:¬(k:Int)<(D.nodes:Int):=by omega
    obtain rfl:k=D.nodes:=by omega
    have b1:=fun i=>k00 R.1.box i
    have b2:=fun i=>k00 R.1.blk i
    obtain⟨n,hn⟩:∃n,n=D.hops.length:=⟨_,rfl⟩;have hn30:n<=30:=by have:=k1E D HG.1.1 D.nodes (Nat.le_refl _);unfold PlanD.hops at hn;omega
    have HN:=Ab hn;rw[<- hn]at b2;clear hn;go_wp2
    go_loopw [47] (fun s47 wr=>∃(j:Nat)(oq:Nat->Col)(lk:Nat×Nat->Nat),j<=n/\s47=.int .i64 j/\k07 (NewF w o D (pbox D A1 c1 A2 c2 A3 c3) E1 k1 E2 k2 E3 k3 hb ho cH mb g wr oq nv gv T lk D.nodes j)) (fun s47 _=>n-ixOf s47)
    case atStart=>exact⟨0,oc,_,zz1,rfl,⟨R.1⟩⟩
    case round=>
     clear b1 b2;obtain⟨j,oq,lk,hj,rfl,Q⟩:=hrel;by_cases hlj:j<n
     ·have e4:(j:Int)<(n:Int):=by omega
      obtain⟨a,ha⟩:∃a,D.hops[j]? = some a:=⟨_,List.getElem?_eq_getElem zz32⟩;obtain⟨x,y⟩:=a;have HA:=Ab ha;have h01:=Q.1.hop j _ ha;have hx0:=h01.1;have hx1:=h01.2;clear ha h01;go_wp2;have hwb:=Q.1.blk;have hxl:w.heap.size<wr.heap.size:=k03 Q.1.box;have La:=Ac (Below wr.heap.size wr (wr.alloc (.cells #[.int .i64 x,.int .i64 y] 90))) ((Below.refl _ _).alloc (Nat.le_refl _) _);have QA:=Ab (Q.1.blw La.1);have XA:=Ab (heap_alloc_new wr (.cells #[.int .i64 x,.int .i64 y] 90));obtain⟨xb,hxb⟩:∃xb,xb=wr.heap.size:=⟨_,rfl⟩;obtain⟨wa,hwa⟩:∃wa,wa=wr.alloc (.cells #[.int .i64 x,.int .i64 y] 90):=⟨_,rfl⟩;rw[<- hwa]at La QA XA ⊢;rw[<- hxb]at XA ⊢;have HS:=Sat.mk (S:=fun(W:World)=>W.cell? ⟨g,13,none⟩=some (.map (some mb))/\W.cell? ⟨xb,0,none⟩=some (.int .i64 x)/\W.cell? ⟨xb,1,none⟩=some (.int .i64 y)/\W.cell? ⟨w.heap.size,7,none⟩=some (.int .i64 D.bag)) (w:=wa) (⟨(k00 QA.1.blk 13).trans rfl,(k00 XA.1 0).trans rfl,(k00 XA.1 1).trans rfl,(k00 QA.1.box 7).trans rfl⟩);have GA:=Ac ((x:Nat)<4611686018427387904/\(y:Nat)<4611686018427387904) (by have:=k0O (List.mem_of_getElem? HA.1);have:=HG.1.1.n1;simp only at *;omega);clear hwa hxb hwb hxl hx0 hx1;refine WpL.rg HS 8 zz2 ?_;refine WpL.T 0 [] HS.1 ?_;refine WpL.T 1 [] HS.1 ?_;refine WpL.T 2 [] HS.1 ?_;refine WpL.T 3 [] HS.1 ?_;refine WpL.T 4 [] HS.1 ?_;refine WpL.T 5 [] HS.1 ?_;refine WpL.T 6 [] HS.1 ?_;refine WpL.one (i:=7) zz2 rfl (fun K hK=>?_);go_simp;refine(kbl D.bag _ (by have:=HG.1.1.b0;omega) (by have:=HG.1.1.b0;omega)).mono ?_;rintro e wb ⟨rfl,rfl⟩;have Lb:=Ac (Below wa.heap.size wa (wa.drew.alloc (.cells #[.slice none 0 0,.int .i64 D.bag] 119))) (((Below.refl _ wa).drew).alloc (Nat.le_refl _) _);have HSb:=HS.to (wa.drew.alloc (.cells #[.slice none 0 0,.int .i64 D.bag] 119)) (by obtain⟨k0,k1,k2,k3⟩:=HS.1;exact⟨k01 Lb.1 k0,k01 Lb.1 k1,k01 Lb.1 k2,k01 Lb.1 k3⟩);simp only[];refine hK.out _ _ (fun _=>HSb.1) ?_;clear hK K
      try refine Sm ?_
      refine WpL.one (i:=8) zz2 rfl (fun K hK=>?_);refine k2P (M:=mapL) (b:=mb) rfl _ _ _ (x,y) (.pointer (some ⟨wa.heap.size,0,none⟩)) rfl ((QA.1.map.of_blk rfl).of_blk (Lb.1.block _ QA.1.map.lt)) rfl rfl rfl GA.1 ?_;intro wd MU' OU';have MU:=Ac (_/\_) (⟨MU',OU'⟩);clear MU' OU';refine hK.out _ _ (fun h=>absurd rfl h) ?_;clear hK K
      try refine Sm ?_
      refine WpL.done zz2 ?_ _;go_wp2;refine⟨⟨j+1,_,_,zz1,rfl,⟨Q.1.addLink HG.1.1 HA.1 (La.1.trans ((Below.refl _ wa).drew.mono La.1.size)) MU.1.1 MU.1.2⟩⟩,?_⟩;show n-ixOf (.int .i64 ((j:Int)+1))<n-ixOf (.int .i64 (j:Int));exact zz9
     ·have e4:¬(j:Int)<(n:Int):=by omega
      obtain rfl:j=n:=by omega
      have b1:=fun i=>k00 Q.1.box i
      have b2:=fun i=>k00 Q.1.blk i
      go_wp2
      go_ret2
      obtain⟨F,o',h1,h2,rfl⟩:=NewF.done HG.1.1 (HN.1▸Q.1);exact⟨F,rfl,o',h1,h2⟩
end
abbrev kco(L rm qu ro er s:Int)(ev wv nv:Value):Obj:=.cells #[.int .i64 2,ev,.int .i64 L,.int .i64 rm,.int .i64 qu,.int .i64 ro,.int .i64 er,.int .i64 64,wv,.int .u16 s,nv] 32 (0,0)
structure LawPl(w0:World)(g:Nat)(L rm qu ro er s:Int)(ne nw nn:Nat)(ev wv nv:Value)(ce:List Value)(ws:List Nat)(cn:List Value)(ge gw gn:Option Nat)(W:World):Prop where
 blk:W.heap[g]? = some (kco L rm qu ro er s ev wv nv)
 E:Row W ev 131 2 ne ce ge
 Wt:Row W wv 3 1 nw (i64s ws) gw
 N:Row W nv 29 1 nn cn gn
 bel:Below w0.heap.size w0 W
 g0:w0.heap.size<g
 lo:∀b,(ge=some b\/gw=some b\/gn=some b)->w0.heap.size<b
 res:W.heap[w0.heap.size]? = some (.cells #[.int .i64 0,.slice none 0 0,.int .i64 0,.int .i64 0,.int .i64 0,.int .i64 0,.int .i64 0,.int .i64 0,.slice none 0 0,.int .u16 0,.slice none 0 0] 32 (0,0))
section
variable{w0 W W1:World}{g:Nat}{L rm qu ro er s:Int}{ne nw nn:Nat}{ev wv nv:Value}{ce:List Value}{ws:List Nat}{cn:List Value}{ge gw gn:Option Nat}
theorem LawPl.apart(h:LawPl w0 g L rm qu ro er s ne nw nn ev wv nv ce ws cn ge gw gn W):(∀b,ge=some b->b≠g/\gw≠some b/\gn≠some b)/\(∀b,gw=some b->b≠g/\ge≠some b/\gn≠some b)/\(∀b,gn=some b->b≠g/\ge≠some b/\gw≠some b):=by
 have e1:∀b,ge=some b->∃cp,W.heap[b]? = some (.cells cp 131 (0,0)):=fun b e=>by subst e;exact h.E.blk_ty
 have e2:∀b,gw=some b->∃cp,W.heap[b]? = some (.cells cp 3 (0,0)):=fun b e=>by subst e;exact h.Wt.blk_ty
 have e3:∀b,gn=some b->∃cp,W.heap[b]? = some (.cells cp 29 (0,0)):=fun b e=>by subst e;exact h.N.blk_ty
 refine⟨fun b e=>⟨?_,fun k=>?_,fun k=>?_⟩,fun b e=>⟨?_,fun k=>?_,fun k=>?_⟩,fun b e=>⟨?_,fun k=>?_,fun k=>?_⟩⟩
 ·obtain⟨_,a⟩:=e1 b e;exact k0u a h.blk zz7
 ·obtain⟨_,a⟩:=e1 b e;obtain⟨_,c⟩:=e2 b k;exact k0u a c zz7 rfl
 ·obtain⟨_,a⟩:=e1 b e;obtain⟨_,c⟩:=e3 b k;exact k0u a c zz7 rfl
 ·obtain⟨_,a⟩:=e2 b e;exact k0u a h.blk zz7
 ·obtain⟨_,a⟩:=e2 b e;obtain⟨_,c⟩:=e1 b k;exact k0u a c zz7 rfl
 ·obtain⟨_,a⟩:=e2 b e;obtain⟨_,c⟩:=e3 b k;exact k0u a c zz7 rfl
 ·obtain⟨_,a⟩:=e3 b e;exact k0u a h.blk zz7
 ·obtain⟨_,a⟩:=e3 b e;obtain⟨_,c⟩:=e1 b k;exact k0u a c zz7 rfl
 ·obtain⟨_,a⟩:=e3 b e;obtain⟨_,c⟩:=e2 b k;exact k0u a c zz7 rfl
theorem LawPl.onlyB(h:LawPl w0 g L rm qu ro er s ne nw nn ev wv nv ce ws cn ge gw gn W){P:Nat->Prop}(O:Only P W W1)(hP:∀b,P b->w0.heap.size<=b):Below w0.heap.size w0 W1:=
 ⟨O.os.trans h.bel.os,O.tape.trans h.bel.tape,O.output.trans h.bel.output,Nat.le_trans h.bel.size O.size,fun b hb=>(O.keep b (Nat.lt_of_lt_of_le hb h.bel.size) (fun k=>by have:=hP b k;omega)).trans (h.bel.block b hb)⟩
theorem LawPl.far(h:LawPl w0 g L rm qu ro er s ne nw nn ev wv nv ce ws cn ge gw gn W){P:Nat->Prop}(O:Only P W W1)(hP:∀b,P b->w0.heap.size<b/\b≠g/\ge≠some b/\gw≠some b/\gn≠some b):LawPl w0 g L rm qu ro er s ne nw nn ev wv nv ce ws cn ge gw gn W1:=
 ⟨(O.keep _ (k03 h.blk) (fun k=>(hP _ k).2.1 rfl)).trans h.blk,h.E.only O (fun b e k=>(hP b k).2.2.1 e),h.Wt.only O (fun b e k=>(hP b k).2.2.2.1 e),h.N.only O (fun b e k=>(hP b k).2.2.2.2 e),h.onlyB O (fun b k=>Nat.le_of_lt (hP b k).1),h.g0,h.lo,(O.keep _ (k03 h.res) (fun k=>Nat.lt_irrefl _ (hP _ k).1)).trans h.res⟩
theorem LawPl.setE(h:LawPl w0 g L rm qu ro er s ne nw nn ev wv nv ce ws cn ge gw gn W){g1:Option Nat}{u:Value}{cs1:List Value}(O:Only (fun b=>ge=some b) W W1)(R1:Row W1 u 131 2 (ne+1) cs1 g1)(G1:g1=ge\/∃b,g1=some b/\W.heap.size<=b):LawPl w0 g L rm qu ro er s (ne+1) nw nn u wv nv cs1 ws cn g1 gw gn (W1.setCell ⟨g,1,none⟩ u):=by
 have hg:=k03 h.blk;have hg1:∀b,g1=some b->b≠g:=fun b e k=>by
  rcases G1 with e2|⟨b2,e2,hb⟩
  ·exact(h.apart.1 b (by rw[<- e2];exact e)).1 k
  ·rw[e]at e2;cases e2;omega
 have hl1:∀b,g1=some b->w0.heap.size<b:=fun b e=>by
  rcases G1 with e2|⟨b2,e2,hb⟩
  ·exact h.lo b (by rw[e2]at e;simp[e])
  ·exact zz73
 have Z:=(O.keep g hg (fun k=>(h.apart.1 g k).1 rfl)).trans h.blk;have B1:=h.onlyB O (fun b k=>Nat.le_of_lt (h.lo b (by simp[k])));refine⟨k05 Z 1 u,R1.only (k0j W1 g 1 u) (fun b e k=>hg1 b e k),(h.Wt.only O (fun b e k=>(h.apart.2.1 b e).2.1 k)).only (k0j W1 g 1 u) (fun b e k=>(h.apart.2.1 b e).1 k),(h.N.only O (fun b e k=>(h.apart.2.2 b e).2.1 k)).only (k0j W1 g 1 u) (fun b e k=>(h.apart.2.2 b e).1 k),B1.setCell (Nat.le_of_lt h.g0) u,h.g0,fun b e=>?_,(Below.heap_setCell _ _ _ _ zz107).trans ((O.keep _ (k03 h.res) (fun k=>Nat.lt_irrefl _ (h.lo _ (by simp[k])))).trans h.res)⟩;rcases e with e|e|e
 ·exact hl1 b e
 ·exact h.lo b (by simp[e])
 ·exact h.lo b (by simp[e])
theorem LawPl.setW(h:LawPl w0 g L rm qu ro er s ne nw nn ev wv nv ce ws cn ge gw gn W){g1:Option Nat}{u:Value}{cs1:List Nat}(O:Only (fun b=>gw=some b) W W1)(R1:Row W1 u 3 1 (nw+1) (i64s cs1) g1)(G1:g1=gw\/∃b,g1=some b/\W.heap.size<=b):LawPl w0 g L rm qu ro er s ne (nw+1) nn ev u nv ce cs1 cn ge g1 gn (W1.setCell ⟨g,8,none⟩ u):=by
 have hg:=k03 h.blk;have hg1:∀b,g1=some b->b≠g:=fun b e k=>by
  rcases G1 with e2|⟨b2,e2,hb⟩
  ·exact(h.apart.2.1 b (by rw[<- e2];exact e)).1 k
  ·rw[e]at e2;cases e2;omega
 have hl1:∀b,g1=some b->w0.heap.size<b:=fun b e=>by
  rcases G1 with e2|⟨b2,e2,hb⟩
  ·exact h.lo b (by rw[e2]at e;simp[e])
  ·exact zz73
 have Z:=(O.keep g hg (fun k=>(h.apart.2.1 g k).1 rfl)).trans h.blk;have B1:=h.onlyB O (fun b k=>Nat.le_of_lt (h.lo b (by simp[k])));refine⟨k05 Z 8 u,(h.E.only O (fun b e k=>(h.apart.1 b e).2.1 k)).only (k0j W1 g 8 u) (fun b e k=>(h.apart.1 b e).1 k),R1.only (k0j W1 g 8 u) (fun b e k=>hg1 b e k),(h.N.only O (fun b e k=>(h.apart.2.2 b e).2.2 k)).only (k0j W1 g 8 u) (fun b e k=>(h.apart.2.2 b e).1 k),B1.setCell (Nat.le_of_lt h.g0) u,h.g0,fun b e=>?_,(Below.heap_setCell _ _ _ _ zz107).trans ((O.keep _ (k03 h.res) (fun k=>Nat.lt_irrefl _ (h.lo _ (by simp[k])))).trans h.res)⟩;rcases e with e|e|e
 ·exact h.lo b (by simp[e])
 ·exact hl1 b e
 ·exact h.lo b (by simp[e])
theorem LawPl.setN(h:LawPl w0 g L rm qu ro er s ne nw nn ev wv nv ce ws cn ge gw gn W){g1:Option Nat}{u:Value}{cs1:List Value}(O:Only (fun b=>gn=some b) W W1)(R1:Row W1 u 29 1 (nn+1) cs1 g1)(G1:g1=gn\/∃b,g1=some b/\W.heap.size<=b):LawPl w0 g L rm qu ro er s ne nw (nn+1) ev wv u ce ws cs1 ge gw g1 (W1.setCell ⟨g,10,none⟩ u):=by
 have hg:=k03 h.blk;have hg1:∀b,g1=some b->b≠g:=fun b e k=>by
  rcases G1 with e2|⟨b2,e2,hb⟩
  ·exact(h.apart.2.2 b (by rw[<- e2];exact e)).1 k
  ·rw[e]at e2;cases e2;omega
 have hl1:∀b,g1=some b->w0.heap.size<b:=fun b e=>by
  rcases G1 with e2|⟨b2,e2,hb⟩
  ·exact h.lo b (by rw[e2]at e;simp[e])
  ·exact zz73
 have Z:=(O.keep g hg (fun k=>(h.apart.2.2 g k).1 rfl)).trans h.blk;have B1:=h.onlyB O (fun b k=>Nat.le_of_lt (h.lo b (by simp[k])));refine⟨k05 Z 10 u,(h.E.only O (fun b e k=>(h.apart.1 b e).2.2 k)).only (k0j W1 g 10 u) (fun b e k=>(h.apart.1 b e).1 k),(h.Wt.only O (fun b e k=>(h.apart.2.1 b e).2.2 k)).only (k0j W1 g 10 u) (fun b e k=>(h.apart.2.1 b e).1 k),R1.only (k0j W1 g 10 u) (fun b e k=>hg1 b e k),B1.setCell (Nat.le_of_lt h.g0) u,h.g0,fun b e=>?_,(Below.heap_setCell _ _ _ _ zz107).trans ((O.keep _ (k03 h.res) (fun k=>Nat.lt_irrefl _ (h.lo _ (by simp[k])))).trans h.res)⟩;rcases e with e|e|e
 ·exact h.lo b (by simp[e])
 ·exact h.lo b (by simp[e])
 ·exact hl1 b e
end
abbrev k5k(W:World)(b:Nat)(x0 x1 x2 x3 x4 x5 x6 x7 x8 x9 x10:Value):World:=(((((((((((W.setCell ⟨b,0,none⟩ x0).setCell ⟨b,1,none⟩ x1).setCell ⟨b,2,none⟩ x2).setCell ⟨b,3,none⟩ x3).setCell ⟨b,4,none⟩ x4).setCell ⟨b,5,none⟩ x5).setCell ⟨b,6,none⟩ x6).setCell ⟨b,7,none⟩ x7).setCell ⟨b,8,none⟩ x8).setCell ⟨b,9,none⟩ x9).setCell ⟨b,10,none⟩ x10)
theorem kbL{W:World}{b:Nat}{cur:Array Value}(h:W.heap[b]? = some (.cells cur 32 (0,0)))(hs:cur.size=11)(x0 x1 x2 x3 x4 x5 x6 x7 x8 x9 x10:Value) :
 (k5k W b x0 x1 x2 x3 x4 x5 x6 x7 x8 x9 x10).heap[b]? = some (.cells #[x0,x1,x2,x3,x4,x5,x6,x7,x8,x9,x10] 32 (0,0))/\Only (fun x=>x=b) W (k5k W b x0 x1 x2 x3 x4 x5 x6 x7 x8 x9 x10):=by
 obtain⟨l⟩:=cur;obtain⟨y0,y1,y2,y3,y4,y5,y6,y7,y8,y9,y10,rfl⟩:∃y0 y1 y2 y3 y4 y5 y6 y7 y8 y9 y10,l=[y0,y1,y2,y3,y4,y5,y6,y7,y8,y9,y10]:=by
  match l,hs with
  |[y0,y1,y2,y3,y4,y5,y6,y7,y8,y9,y10],_=>exact⟨y0,y1,y2,y3,y4,y5,y6,y7,y8,y9,y10,rfl⟩
 have Z0:=h;have Z1:=k05 Z0 0 x0;simp only[List.setIfInBounds_toArray,List.set_cons_zero,List.set_cons_succ]at Z1;have Z2:=k05 Z1 1 x1;simp only[List.setIfInBounds_toArray,List.set_cons_zero,List.set_cons_succ]at Z2;have Z3:=k05 Z2 2 x2;simp only[List.setIfInBounds_toArray,List.set_cons_zero,List.set_cons_succ]at Z3;have Z4:=k05 Z3 3 x3;simp only[List.setIfInBounds_toArray,List.set_cons_zero,List.set_cons_succ]at Z4;have Z5:=k05 Z4 4 x4;simp only[List.setIfInBounds_toArray,List.set_cons_zero,List.set_cons_succ]at Z5;have Z6:=k05 Z5 5 x5;simp only[List.setIfInBounds_toArray,List.set_cons_zero,List.set_cons_succ]at Z6;have Z7:=k05 Z6 6 x6;simp only[List.setIfInBounds_toArray,List.set_cons_zero,List.set_cons_succ]at Z7;have Z8:=k05 Z7 7 x7;simp only[List.setIfInBounds_toArray,List.set_cons_zero,List.set_cons_succ]at Z8;have Z9:=k05 Z8 8 x8;simp only[List.setIfInBounds_toArray,List.set_cons_zero,List.set_cons_succ]at Z9;have Z10:=k05 Z9 9 x9;simp only[List.setIfInBounds_toArray,List.set_cons_zero,List.set_cons_succ]at Z10;have Z11:=k05 Z10 10 x10;simp only[List.setIfInBounds_toArray,List.set_cons_zero,List.set_cons_succ]at Z11;refine⟨Z11,?_⟩;have o0:Only (fun x=>x=b) W W:=Only.refl _ _;have o1:=o0.set (p:=⟨b,0,none⟩) (fun _=>rfl) x0;have o2:=o1.set (p:=⟨b,1,none⟩) (fun _=>rfl) x1;have o3:=o2.set (p:=⟨b,2,none⟩) (fun _=>rfl) x2;have o4:=o3.set (p:=⟨b,3,none⟩) (fun _=>rfl) x3;have o5:=o4.set (p:=⟨b,4,none⟩) (fun _=>rfl) x4;have o6:=o5.set (p:=⟨b,5,none⟩) (fun _=>rfl) x5;have o7:=o6.set (p:=⟨b,6,none⟩) (fun _=>rfl) x6;have o8:=o7.set (p:=⟨b,7,none⟩) (fun _=>rfl) x7;have o9:=o8.set (p:=⟨b,8,none⟩) (fun _=>rfl) x8;have o10:=o9.set (p:=⟨b,9,none⟩) (fun _=>rfl) x9;have o11:=o10.set (p:=⟨b,10,none⟩) (fun _=>rfl) x10;exact o11
def wgts(a:Nat)(j:Nat):List Nat:=(List.range j).map fun i=>1+(i+a) % 5
theorem ka8(a j:Nat):i64s (wgts a j)++[.int .i64 (1+((j:Int)+a) % 5)]=i64s (wgts a (j+1)):=by
 unfold wgts i64s;rw[List.range_succ,List.map_append,List.map_append];exact zz6
section
variable{w:World}
theorem k8h(a1 a2 s:Nat)(w:World)(h1:a1<256)(h2:a2<256)(h4:s<65536) :
 Calls Tryz.prog 41 #[.int .u8 0,.int .u8 a1,.int .u8 a2,.int .u16 s,.slice none 0 0] w fun e w'=>∃A1 n1 c1 A2 c2 A3 n3 c3 gw,e=.returned (.agg #[.int .i64 2,.slice A1 (n1:Nat) c1,.int .i64 (1+(a2:Int) % 3),.int .i64 (1+(a1:Int) % 8),.int .i64 (1+(a1:Int) / 8 % 8),.int .i64 (1+(a2:Int) / 3 % 4),.int .i64 (1+(a2:Int) / 12 % 8),.int .i64 64,.slice A2 (1+a2 % 3:Nat) c2,.int .u16 s,.slice A3 (n3:Nat) c3]) /\
  Row w' (.slice A2 (1+a2 % 3:Nat) c2) 3 1 (1+a2 % 3) (i64s (wgts a2 (1+a2 % 3))) gw/\(∀b,gw=some b->w.heap.size<=b)/\Below w.heap.size w w':=by
 obtain⟨Ln,hLn⟩:∃Ln,Ln=1+a2 % 3:=⟨_,rfl⟩;have hL3:Ln<=3:=by omega
 have hL1:1<=Ln:=zz1
 have hLi:(1+(a2:Int) % 3)=(Ln:Int):=zz1
 rw[<- hLn,hLi];obtain⟨rm,hrm⟩:∃rm:Int,rm=1+(a1:Int) % 8:=⟨_,rfl⟩;obtain⟨qu,hqu⟩:∃qu:Int,qu=1+(a1:Int) / 8 % 8:=⟨_,rfl⟩;obtain⟨ro,hro⟩:∃ro:Int,ro=1+(a2:Int) / 3 % 4:=⟨_,rfl⟩;obtain⟨er,her⟩:∃er:Int,er=1+(a2:Int) / 12 % 8:=⟨_,rfl⟩;rw[<- hrm,<- hqu,<- hro,<- her];have HE:=Ac (_/\_/\_/\_/\_) (⟨hLi,hrm,hqu,hro,her⟩);clear hLi hrm hqu hro her hLn;go_enter Tryz.func41,Tryz.ntmps41;go_wp2;rw[HE.1.1,<- HE.1.2.1,<- HE.1.2.2.1,<- HE.1.2.2.2.1,<- HE.1.2.2.2.2];obtain⟨g,hg⟩:∃g,g=w.heap.size+1:=⟨_,rfl⟩;obtain⟨w1,hw1⟩:∃w1,w1=((w.alloc (.cells #[.int .i64 0,.slice none 0 0,.int .i64 0,.int .i64 0,.int .i64 0,.int .i64 0,.int .i64 0,.int .i64 0,.slice none 0 0,.int .u16 0,.slice none 0 0] 32)).alloc (kco Ln rm qu ro er s (.slice none 0 0) (.slice none 0 0) (.slice none 0 0))):=⟨_,rfl⟩;have M0:=Ac (LawPl w g Ln rm qu ro er s 0 0 0 (.slice none 0 0) (.slice none 0 0) (.slice none 0 0) [] (wgts a2 0) [] none none none w1) (by
  refine⟨?_,Row.nil _ _ _,Row.nil _ _ _,Row.nil _ _ _,?_,zz1,zz6,?_⟩
  ·have h:=heap_alloc_new (w.alloc (.cells #[.int .i64 0,.slice none 0 0,.int .i64 0,.int .i64 0,.int .i64 0,.int .i64 0,.int .i64 0,.int .i64 0,.slice none 0 0,.int .u16 0,.slice none 0 0] 32)) (kco Ln rm qu ro er s (.slice none 0 0) (.slice none 0 0) (.slice none 0 0))
   rw[World.size_alloc]at h;rw[hw1,hg];exact h
  ·rw[hw1];exact((Below.refl _ w).alloc (Nat.le_refl _) _).alloc zz6 _
  ·rw[hw1];exact(Below.heap_alloc _ _ _ zz6).trans (heap_alloc_new w _))
 rw[<- hw1]
 try rw[<- hg]
 clear hg hw1;have b1:=fun i=>k00 M0.1.blk i
 go_loopw [12] (fun s12 wr=>∃(j:Nat)(wv:Value)(gw:Option Nat),j<=Ln/\s12=.int .i64 j/\k07 (LawPl w g Ln rm qu ro er s 0 j 0 (.slice none 0 0) wv (.slice none 0 0) [] (wgts a2 j) [] none gw none wr)) (fun s12 _=>Ln-ixOf s12)
 case atStart=>exact⟨0,_,none,zz1,rfl,M0⟩
 case round=>
  clear b1;obtain⟨j,wv,gw,hj,rfl,R⟩:=hrel;have b1:=fun i=>k00 R.1.blk i
  by_cases hlt:j<Ln
  ·have e1:(j:Int)<(Ln:Int):=by omega
   go_wp2_with(at_builtin;refine k0z rfl _ _ 29 3 (.int .i64 0) 1 8 rfl Tryz.underlying29 k1o rfl zz7 zz7 wv j (i64s (wgts a2 j)) [.int .i64 (1+((j:Int)+a2) % 5)] gw R.1.Wt rfl rfl rfl rfl zz34 zz1 ?_;intro v1 w1 g1 R1p O1 G1;obtain⟨A1',k1',rfl,_⟩:=R1p.size;have K1:=Ac (Row w1 _ _ _ _ _ g1/\Only (fun b=>gw=some b) wr w1/\(g1=gw\/∃b,g1=some b/\wr.heap.size<=b)) (⟨R1p,O1,G1⟩);have Z1:=(O1.keep g (k03 R.1.blk) (fun k=>(R.1.apart.2.1 g k).1 rfl)).trans R.1.blk;have c1:=fun i=>k00 Z1 i;have f1:=fun i=>k02 Z1 i;clear R1p O1 G1)
   rw[ka8]at K1;refine⟨⟨j+1,_,_,zz1,rfl,⟨R.1.setW K1.1.2.1 K1.1.1 K1.1.2.2⟩⟩,?_⟩;show Ln-ixOf (.int .i64 ((j:Int)+1))<Ln-ixOf (.int .i64 (j:Int));exact zz9
  ·have e1:¬(j:Int)<(Ln:Int):=by omega
   obtain rfl:Ln=j:=by omega
   go_wp2
   go_loopw [13,14] (fun s13 s14 wr=>∃(x b ne:Nat)(ev:Value)(ce:List Value)(ge:Option Nat),x<65536/\1<=b/\b<=2/\ne<b/\s13=.int .u16 x/\s14=.int .i64 b/\k07 (LawPl w g Ln rm qu ro er s ne Ln 0 ev wv (.slice none 0 0) ce (wgts a2 Ln) [] ge gw none wr)) (fun _ s14 _=>2-ixOf s14)
   case atStart=>exact⟨s,1,0,_,_,none,h4,zz1,zz1,zz1,rfl,rfl,R⟩
   case round=>
    clear b1 R M0;obtain⟨x,b,ne,ev,ce,ge,x1,hb1,hb2,hne,rfl,rfl,R⟩:=hrel;have b1:=fun i=>k00 R.1.blk i
    by_cases hlt:b<2
    ·obtain rfl:b=1:=by omega
     go_wp2
     go_loopw [13,15] (fun s13 s15 wr=>∃(x a ne:Nat)(ev:Value)(ce:List Value)(ge:Option Nat),x<65536/\a<=1/\ne<=a/\s13=.int .u16 x/\s15=.int .i64 a/\k07 (LawPl w g Ln rm qu ro er s ne Ln 0 ev wv (.slice none 0 0) ce (wgts a2 Ln) [] ge gw none wr)) (fun _ s15 _=>1-ixOf s15)
     case atStart=>exact⟨x,0,ne,_,_,ge,x1,zz1,zz1,rfl,rfl,R⟩
     case round=>
      clear b1 R;obtain⟨x,a,ne,ev,ce,ge,x1,ha,hne,rfl,rfl,R⟩:=hrel;have b1:=fun i=>k00 R.1.blk i
      by_cases hla:a<1
      ·obtain rfl:a=0:=by omega
       by_cases hx:(x:Int) % 2=1
       ·have hx':=decide_eq_true hx
        go_wp2_with(at_builtin;refine k0z rfl _ _ 28 131 (.agg #[.int .i64 0,.int .i64 0]) 2 16 rfl Tryz.underlying28 k5D rfl zz7 zz7 ev ne ce [.int .i64 0,.int .i64 1] ge R.1.E rfl rfl rfl rfl zz59 zz1 ?_;intro v1 w1 g1 R1p O1 G1;obtain⟨A1',k1',rfl,_⟩:=R1p.size;have K1:=Ac (Row w1 _ _ _ _ _ g1/\Only (fun b=>ge=some b) wr w1/\(g1=ge\/∃b,g1=some b/\wr.heap.size<=b)) (⟨R1p,O1,G1⟩);have Z1:=(O1.keep g (k03 R.1.blk) (fun k=>(R.1.apart.1 g k).1 rfl)).trans R.1.blk;have c1:=fun i=>k00 Z1 i;have f1:=fun i=>k02 Z1 i;clear R1p O1 G1)
        refine⟨⟨_,_,_,_,_,_,_,_,_,_,_,_,_,_,_,_,_,_,_,_,⟨x / 2,1,ne+1,_,_,_,zz1,zz1,zz1,(by exact congrArg (Value.int .u16) (show(x:Int) / 2=((x / 2:Nat):Int) by omega)),rfl,⟨R.1.setE K1.1.2.1 K1.1.1 K1.1.2.2⟩⟩,rfl⟩,?_⟩;simp[ixOf]
       ·have hx':=decide_eq_false hx
        go_wp2;refine⟨⟨x / 2,1,ne,_,_,_,zz1,zz1,zz1,by first|rfl|(congr 1;omega),rfl,R⟩,?_⟩;simp[ixOf]
      ·obtain rfl:a=1:=by omega
       go_wp2;refine⟨⟨x,2,ne,_,_,_,x1,zz1,zz1,zz1,rfl,rfl,R⟩,?_⟩;simp[ixOf]
    ·obtain rfl:b=2:=by omega
     go_wp2
     go_loopw [16,17] (fun s16 s17 wr=>∃(k v:Nat)(nv:Value)(cn:List Value)(gn:Option Nat),k<=100*v/\v<=2/\s16=.int .i64 k/\s17=.int .i64 v/\k07 (LawPl w g Ln rm qu ro er s ne Ln v ev wv nv ce (wgts a2 Ln) cn ge gw gn wr)) (fun _ s17 _=>2-ixOf s17)
     case atStart=>exact⟨0,0,_,_,none,zz1,zz1,rfl,rfl,R⟩
     case round=>
      clear b1 R;obtain⟨k,v,nv,cn,gn,hk,hv,rfl,rfl,R⟩:=hrel;have b1:=fun i=>k00 R.1.blk i
      by_cases hlv:v<2
      ·have e1:(v:Int)<2:=by omega
       go_wp2
       go_loopw [16,18,19,20] (fun s16 s18 s19 s20 wr=>∃(k j:Nat)(rv:Value)(cr:List Value)(gr:Option Nat),k<=100*v+10*j/\j<=2/\s16=.int .i64 k/\s18=rv/\s19=.int .i64 j/\k07 (LawPl w g Ln rm qu ro er s ne Ln v ev wv nv ce (wgts a2 Ln) cn ge gw gn wr/\Row wr rv 3 1 j cr gr/\∀b,gr=some b->w.heap.size<b/\gw≠some b)) (fun _ _ s19 _ _=>2-ixOf s19)
       case atStart=>exact⟨k,0,_,[],none,zz1,zz1,rfl,rfl,rfl,⟨R.1,Row.nil _ _ _,zz6⟩⟩
       case round=>
        clear b1 R;obtain⟨k,j,rv,cr,gr,hk,hj,rfl,rfl,rfl,R⟩:=hrel;have b1:=fun i=>k00 R.1.1.blk i
        obtain⟨A6,k6,rfl,_⟩:=R.1.2.1.size;by_cases hlj:j<2
        ·have e2:(j:Int)<2:=by omega
         have e3:¬(k:Int)<0:=zz1
         go_wp2_with(at_builtin;refine k0z rfl _ _ 29 3 (.int .i64 0) 1 8 rfl Tryz.underlying29 k1o rfl zz7 zz7 (.slice A6 j k6) j cr [.int .i64 j] gr R.1.2.1 rfl rfl rfl rfl zz34 zz1 ?_;intro v1 w1 g1 R1p O1 G1;obtain⟨A1',k1',rfl,_⟩:=R1p.size;have K1:=Ac (Row w1 _ _ _ _ _ g1/\Only (fun b=>gr=some b) wr w1/\(g1=gr\/∃b,g1=some b/\wr.heap.size<=b)) (⟨R1p,O1,G1⟩);clear R1p O1 G1)
         refine⟨⟨_,_,_,⟨k+1,j+1,zz1,zz1,rfl,rfl,_,_,⟨R.1.1.far K1.1.2.1 (fun b e=>?_),K1.1.1,fun b e=>?_⟩⟩,rfl,rfl,rfl⟩,?_⟩
         ·refine⟨(R.1.2.2 b e).1,?_,?_,(R.1.2.2 b e).2,?_⟩
          ·subst e;obtain⟨_,q⟩:=R.1.2.1.blk_ty;exact k0u q R.1.1.blk zz7
          ·intro e2;subst e;subst e2;obtain⟨_,q⟩:=R.1.2.1.blk_ty;obtain⟨_,q2⟩:=R.1.1.E.blk_ty;exact k0u q q2 zz7 rfl
          ·intro e2;subst e;subst e2;obtain⟨_,q⟩:=R.1.2.1.blk_ty;obtain⟨_,q2⟩:=R.1.1.N.blk_ty;exact k0u q q2 zz7 rfl
         ·rcases K1.1.2.2 with e2|⟨b2,e2,hb⟩
          ·exact R.1.2.2 b (by rw[<- e2];exact e)
          ·rw[e]at e2;cases e2
           have:=k03 R.1.1.res;exact⟨zz1,fun e3=>by have:=(e3▸R.1.1.Wt).lt rfl;omega⟩
         ·simp only[ixOf];omega
        ·obtain rfl:j=2:=by omega
         go_wp2_with(at_builtin;refine k0z rfl _ _ 30 29 (.slice none 0 0) 1 24 rfl Tryz.underlying30 k7a rfl zz7 zz7 nv v cn [.slice A6 (2:Nat) k6] gn R.1.1.N rfl rfl rfl rfl zz34 zz1 ?_;intro v1 w1 g1 R1p O1 G1;obtain⟨A1',k1',rfl,_⟩:=R1p.size;have K1:=Ac (Row w1 _ _ _ _ _ g1/\Only (fun b=>gn=some b) wr w1/\(g1=gn\/∃b,g1=some b/\wr.heap.size<=b)) (⟨R1p,O1,G1⟩);have Z1:=(O1.keep g (k03 R.1.1.blk) (fun k=>(R.1.1.apart.2.2 g k).1 rfl)).trans R.1.1.blk;have c1:=fun i=>k00 Z1 i;have f1:=fun i=>k02 Z1 i;clear R1p O1 G1)
         refine⟨?_,?_⟩
         ·iterate 51 apply Exists.intro
          refine⟨⟨k,v+1,_,_,_,zz1,zz1,rfl,rfl,⟨R.1.1.setN K1.1.2.1 K1.1.1 K1.1.2.2⟩⟩,rfl⟩
         show 2-ixOf (.int .i64 ((v:Int)+1))<2-ixOf (.int .i64 (v:Int));exact zz9
      ·obtain rfl:v=2:=by omega
       obtain⟨A1,c1,rfl,_⟩:=R.1.E.size;obtain⟨A2,c2,rfl,_⟩:=R.1.Wt.size;obtain⟨A3,c3,rfl,_⟩:=R.1.N.size;have r1:=fun i=>k00 R.1.res i
       have f1:=fun i=>k02 R.1.res i
       go_wp2;obtain⟨ZF,oF⟩:=kbL (W:=wr) R.1.res rfl (.int .i64 2) (.slice A1 ne c1) (.int .i64 Ln) (.int .i64 rm) (.int .i64 qu) (.int .i64 ro) (.int .i64 er) (.int .i64 64) (.slice A2 Ln c2) (.int .u16 s) (.slice A3 (2:Nat) c3);obtain⟨wf,hwf⟩:∃wf,wf=k5k wr w.heap.size (.int .i64 2) (.slice A1 ne c1) (.int .i64 Ln) (.int .i64 rm) (.int .i64 qu) (.int .i64 ro) (.int .i64 er) (.int .i64 64) (.slice A2 Ln c2) (.int .u16 s) (.slice A3 (2:Nat) c3):=⟨_,rfl⟩;rw[<- hwf]at ZF oF;show bodyPost _ _ _ _ _ (k5k wr w.heap.size (.int .i64 2) (.slice A1 ne c1) (.int .i64 Ln) (.int .i64 rm) (.int .i64 qu) (.int .i64 ro) (.int .i64 er) (.int .i64 64) (.slice A2 Ln c2) (.int .u16 s) (.slice A3 (2:Nat) c3));rw[<- hwf];refine bodyPost_ret (results_cell_row rfl _ _ w.heap.size 32 _ (0,0) _ rfl ZF Tryz.underlying32 rfl zz2) rfl ?_;have ha:=R.1.apart;refine⟨_,_,_,_,_,_,_,_,gw,rfl,R.1.Wt.only oF (fun b e e2=>?_),fun b e=>Nat.le_of_lt (R.1.lo b (by simp[e])),R.1.onlyB oF (fun b e=>by omega)⟩;have:=R.1.lo b (by simp[e]);exact zz1
end
end Go.Proofs.YtdopmlopafgonaaGreatDoor.Own
