/- TopQuick: one packet alone is brought from host to host (a part of the walks and of the plain laws). -/
import Derived.Test.YtdopmlopafgonaaGreatDoorC0
import Derived.Test.YtdopmlopafgonaaGreatDoorC10
import Derived.Test.YtdopmlopafgonaaGreatDoorC13
set_option linter.unusedVariables false
set_option linter.unusedSimpArgs false
set_option maxHeartbeats 4000000
set_option maxRecDepth 100000
namespace Go.Proofs.YtdopmlopafgonaaGreatDoor.Own
open Go.RowKit Go.Proofs.YtdopmlopafgonaaGreatDoorW.PrintWords Go.Proofs.YtdopmlopafgonaaGreatDoorW.PrintLast Go.Proofs.YtdopmlopafgonaaGreatDoorW.PrintMore
attribute [local go_sem] Oper.semAt_some
def u16s (l:List Nat):List Value:=l.map fun (i:Nat)=>Value.int .u16 (i:Int)
theorem k8V:(Tryz.prog.info? 23).map (fun i=>(i.zero,i.size,i.bytes))=some (some (.int .u16 0),1,2):=by kernel_rfl
def ixOf (v:Value):Nat:=match v with | .int _ k=>k.toNat | _=>0
def TSt (w W:World) (n:Nat) (F:Nat->Nat->Bool):Prop:=
 W.heap[w.heap.size+1]? = some (.cells #[.slice (some ⟨w.heap.size,0,none⟩) n n] 168 (0,0)) /\
 (∃ cur,W.heap[w.heap.size]? = some (.cells cur 23 (0,0))/\cur.size=n/\∀ k,k<n->∃ x:Nat,cur[k]? = some (.int .u16 x)/\x<64/\∀ j,j<6->x.testBit j=F k j) /\
 Only (fun x=>w.heap.size<=x) w W
theorem TSt.move {w W W':World} {n:Nat} {F:Nat->Nat->Bool} {N b:Nat} (h:TSt w W n F) (k:Only (fun x=>x=b\/N<=x) W W') (hb:w.heap.size+2<=b) (hN:w.heap.size+2<=N):TSt w W' n F:=by
 obtain ⟨h1,⟨cur,h2,h3⟩,ho⟩:=h;refine ⟨(k.same (k03 h1) zz1).trans h1,⟨cur,(k.same (k03 h2) zz1).trans h2,h3⟩,ho.then k (fun x hx hq=>by omega)⟩
theorem TSt.to {w W:World} {n:Nat} {F F':Nat->Nat->Bool} (h:TSt w W n F) (e:∀ k,k<n->∀ j,j<6->F k j=F' k j):TSt w W n F':=by
 obtain ⟨h1,⟨cur,h2,h3,h4⟩,ho⟩:=h;refine ⟨h1,⟨cur,h2,h3,fun k hk=>?_⟩,ho⟩;obtain ⟨x,a,b,c⟩:=h4 k hk;exact ⟨x,a,b,fun j hj=>(c j hj).trans (e k hk j hj)⟩
def Marks (w W:World) (Ms:List Nat):Prop:=Ms.Nodup/\∀ D∈Ms,w.heap.size+2<=D/\W.heap[D]? = some (.deferred (some []))
theorem Marks.move {w W W':World} {Ms:List Nat} {N b:Nat} (h:Marks w W Ms) (k:Only (fun x=>x=b\/N<=x) W W') (hb:∀ D∈Ms,D≠b) (hN:W.heap.size<=N):Marks w W' Ms:=
 ⟨h.1,fun D hD=>⟨(h.2 D hD).1,(k.same (k03 (h.2 D hD).2) (by have:=k03 (h.2 D hD).2;have:=hb D hD;omega)).trans (h.2 D hD).2⟩⟩
theorem k68 {fn:Func} {tmps:Array Value} {R:Ending->World->Prop} {w:World} {n:Nat} {v:Value} (hres:∀ W:World,(results fn tmps).run Tryz.prog W = .ok v W) :
 ∀ (Ms:List Nat) (W:World),Marks w W Ms->(∀ W',Only (fun x=>x∈Ms) W W'->R (.returned v) W') ->
  LeavesInM Fence.wide n Tryz.prog fn tmps R (Ms.map fun D=>{ target:=.collected D,args:=#[] }) .returning W:=by
 intro Ms
 induction Ms with
 | nil=>exact fun W _ h=>⟨v,hres W,h W (Only.refl _ _)⟩
 | cons D Ms ih=>
   intro W hm h;refine ⟨zz17,.inl ⟨D,_,rfl,run_takeDeferred (hm.2 D zz17).2,?_⟩⟩;have hnd:=List.nodup_cons.1 hm.1;refine ih _ ⟨hnd.2,fun D' hD'=>⟨(hm.2 D' (by simp [hD'])).1,(World.putObj_heap_other (by rintro rfl;exact hnd.1 hD')).trans (hm.2 D' (by simp [hD'])).2⟩⟩ ?_;intro W' hO;exact h W' (((Only.refl _ W).put (P:=fun x=>x∈D :: Ms) (fun _=>by simp) _).then hO (fun x _ hx=>by simp [hx]))
theorem k8W:∀ m:Fin 64,∀ n:Fin 6,bits BinOp.or IntKind.u16 (m.1:Int) (IntKind.u16.wrap (2 ^ n.1))=(m.1 ||| 2 ^ n.1:Nat):=by decide
theorem kcu:∀ m:Fin 64,0<m.1->∀ n:Fin 7,m.1<2 ^ n.1->tz m.1<n.1:=by decide
theorem kbp:∀ m:Fin 64,0<m.1->∀ k:Fin 6,(clr m.1).testBit k.1=(m.1.testBit k.1 && !(k.1 == tz m.1)):=by decide
theorem k8d (v:Value) (n:Nat) (rs:List Nat) (g:Option Nat) (w:World) (R:Row w v 23 1 n (u16s rs) g) (hr:∀ r∈rs,r<64) (hn0:0<n) (hn:n<7) (hT:Tab w) :
 Calls Tryz.prog 124 #[v,.int .i64 n] w fun e w'=>∃ v' g' outs,e = .returned v'/\Row w' v' 23 1 n (u16s outs) (some g')/\w.heap.size<=g'/\Below w.heap.size w w' /\
  ∀ k,k<n->∃ x,outs[k]? = some x/\x<64/\∀ j,j<6->x.testBit j=(decide (j<n) && (low (rs.getD j 0) n).testBit k):=by
 have t1:decide ((n:Int)<1)=false:=decide_eq_false zz1;have t2:decide ((16:Int)<n)=false:=decide_eq_false zz1;obtain ⟨i0,hi,hz0,hz1,hz2⟩:=info_parts k8V;have hmk:∀ W:World,(Instr.makeSlice 168 (.int .i64 n) (.int .i64 n)).run Tryz.prog W = .ok (.slice (some ⟨W.heap.size,0,none⟩) n n) (W.alloc (.cells (madeCells (Value.int .u16 0).cells (n*1)) 23)):=fun W=>by
  have:=run_make (P:=Tryz.prog) W 168 23 i0 _ Tryz.underlying168 hi hz0 .i64 .i64 n n zz1 zz1 zz62 zz1;exact zz28
 obtain ⟨b,off,cap,hg,rfl,hcap,hfz,hcell⟩:=R.open hn0;refine (callsIn_wide (n:=9)).1 ?_;refine callsIn_of_wp_marks Tryz.func124 rfl trivial ?_ rfl;simp only [Tryz.ntmps124,List.size_toArray,List.length_cons,List.length_nil,Nat.reduceAdd,Nat.reduceSub,Array.replicate_succ,Array.replicate_zero,List.push_toArray,List.append_toArray,List.nil_append,List.cons_append]
 gi_wp2
 have hW0:TSt w ((w.alloc (Obj.cells (madeCells #[Value.int IntKind.u16 0] n) 23)).alloc (Obj.cells #[Value.slice (some { block:=w.heap.size,off:=0 }) n n] 168)) n (fun k j=>decide (j<0) && (low (rs.getD j 0) n).testBit k):=by
  refine ⟨by have:=heap_alloc_new (w.alloc (Obj.cells (madeCells #[Value.int IntKind.u16 0] n) 23)) (Obj.cells #[Value.slice (some { block:=w.heap.size,off:=0 }) n n] 168);rwa [World.size_alloc] at this,
   ⟨_,(Below.heap_alloc _ _ _ zz17).trans (heap_alloc_new w _),by simp [size_madeCells],fun k hk=>⟨0,?_,zz1,fun j hj=>by simp⟩⟩,((Only.refl _ w).alloc _).alloc _⟩
  unfold madeCells;exact zz68
 refine wpIn_loop (fun a W=>∃ (d:Nat) (Ms:List Nat) (u6 u7 u8 u24 u25 u26 u27 u28 u29 u30 u31 u32 u33 u34 u35 u36 u37 u38 u39 u40 u41:Value),d<=n/\TSt w W n (fun k j=>decide (j<d) && (low (rs.getD j 0) n).testBit k)/\Marks w W Ms/\Tab W /\
  a = { tmps:=List.toArray ((Value.slice (some ⟨b,off,none⟩) n cap) :: (Value.int .i64 n) :: undef :: undef :: (Value.slice none 0 0) :: (Value.pointer (some ⟨w.heap.size+1,0,none⟩)) :: u6 :: u7 :: u8 :: (Value.int .i64 n) :: (Value.bool false) :: (Value.bool false) :: (Value.int .i64 n) :: (Value.bool false) :: (Value.bool false) :: (Value.int .i64 n) :: (Value.slice (some ⟨w.heap.size,0,none⟩) n n) :: (Value.slice (some ⟨b,off,none⟩) n cap) :: (Value.slice (some ⟨b,off,none⟩) n cap) :: (Value.int .i64 n) :: (Value.int .i64 n) :: (Value.slice (some ⟨b,off,none⟩) n cap) :: (Value.int .i64 n) :: (Value.int .i64 d) :: u24 :: u25 :: u26 :: u27 :: u28 :: u29 :: u30 :: u31 :: u32 :: u33 :: u34 :: u35 :: u36 :: u37 :: u38 :: u39 :: u40 :: u41 :: undef :: []),defers:=Ms.map fun D=>{ target:=.collected D,args:=#[] } })
  (fun a _=>n-ixOf (a.tmps.getD 23 undef)) ?_ ?_
 · exact ⟨0,[],_,_,_,_,_,_,_,_,_,_,_,_,_,_,_,_,_,_,_,_,_,zz1,hW0,⟨List.nodup_nil,zz17⟩,(hT.alloc _).alloc _,rfl⟩
 · rintro a W ⟨d,Ms,u6,u7,u8,u24,u25,u26,u27,u28,u29,u30,u31,u32,u33,u34,u35,u36,u37,u38,u39,u40,u41,hd,hS,hM,hTT,rfl⟩
   clear hW0 hmk hi hz0 hz1 hz2;by_cases hlt:d<n
   · have e1:decide ((d:Int)<n)=true:=decide_eq_true zz1
     have hlen:rs.length=n:=by have:=R.1;simpa [u16s] using this
     obtain ⟨r,hrd⟩:∃ r,rs.getD d 0=r:=⟨_,rfl⟩;have hrd':rs[d]? = some r:=by
      rw [<- hrd,List.getD_eq_getElem?_getD,List.getElem?_eq_getElem zz1];rfl
     have hr6:r<64:=hr r (List.mem_of_getElem? hrd');have hcd:W.cell? ⟨b,off+d,none⟩=some (.int .u16 r):=by
      have h0:=hcell d (by simp [u16s];omega);have h0':w.cell? ⟨b,off+d,none⟩=some (.int .u16 r):=by rw [h0];simp [u16s,hrd']
      have hb:=World.block_lt_of_cell? w _ h0';exact hS.2.2.cell h0' (fun hc=>Nat.not_lt.2 hc hb)
     have HS:=Ab hS;have HM:=Ab hM;have hTw:=hT;clear hS hM R hcell hrd' hT
     gi_wp2_with (refine ⟨trivial,?_⟩;first
      | (gi_at_call 149;refine (callsIn_wide.2 (k4p _ _ _ zz1 zz1)).mono ?_;rintro e w' ⟨rfl,rfl⟩)
      | (gi_at_call 148;refine (callsIn_wide.2 (k3k _ _)).mono ?_;rintro e w' ⟨rfl,rfl⟩))
     have hwW:=HS.out.2.2.size;have hAl:=k03 HS.out.1;have hln:=k7n (k:=n) hr6;have hMl:∀ D∈Ms,D<W.heap.size:=fun D hD=>k03 (HM.out.2 D hD).2
     have hF0:TSt w W n (fun k j=>(decide (j<d) && (low (rs.getD j 0) n).testBit k) || (decide (j=d) && (low r n).testBit k && !(low r n).testBit k)):=HS.out.to (fun k hk j hj=>by
      cases (low r n).testBit k <;> simp)
     refine' k3p (b:=W.heap.size+1) (m0:=low r n) zz1 rfl (by have:=World.alloc_heap_new (W.alloc (.cells #[.int .i64 d] 3)) (.cells #[.int .u16 (low r n)] 23);rwa [World.size_alloc] at this) ((hTT.alloc _).alloc _) zz1 hln
      (fun m V=>(m<=low r n/\∀ k,k<n->m.testBit k=true->(low r n).testBit k=true)/\TSt w V n (fun k j=>(decide (j<d) && (low (rs.getD j 0) n).testBit k) || (decide (j=d) && (low r n).testBit k && !m.testBit k))/\Marks w V Ms/\V.heap[W.heap.size]? = some (.cells #[.int .i64 d] 3))
      (fun _ _=>False)
      ?hI ?hIx ?h0 _ ?assign ?body ?done ?stop
     case hI=>
      rintro mm V V' ⟨hmm,h,hM,h6⟩ k;refine ⟨hmm,h.move k zz1 zz25,⟨hM.1,fun D hD=>⟨(hM.2 D hD).1,(k.same (k03 (hM.2 D hD).2) (by have:=hMl D hD;simp;omega)).trans (hM.2 D hD).2⟩⟩,(k.same (k03 h6) zz25).trans h6⟩
     case hIx=>exact fun _ _ _ h _=>h
     case h0=>
      have hO2:Only (fun x=>x=W.heap.size+1\/W.heap.size<=x) W ((W.alloc (.cells #[.int .i64 d] 3)).alloc (.cells #[.int .u16 (low r n)] 23)):=((Only.refl _ W).alloc _).alloc _;exact ⟨⟨Nat.le_refl _,fun _ _ h=>h⟩,hF0.move hO2 zz1 zz1,HM.out.move hO2 (fun D hD=>by have:=hMl D hD;omega) (Nat.le_refl _),(Below.heap_alloc _ _ _ zz17).trans (heap_alloc_new W _)⟩
     case assign=>
      intro l m V K hK
      gi_wp2
      exact hK
     case body=>
      rintro l m V ⟨⟨hmm,hsub⟩,⟨h1,⟨cur,h2,h3,h4⟩,ho⟩,hM,h6⟩ hm0 hm1 hTV hsz;have hm2:m<2 ^ n:=Nat.lt_of_le_of_lt hmm (Nat.mod_lt _ (Nat.two_pow_pos n));have hz:=kcu ⟨m,hm1⟩ hm0 ⟨n,hn⟩ hm2;have hcb:=kbp ⟨m,hm1⟩ hm0;have hcl:=(kb0 ⟨m,hm1⟩ hm0).2;simp only at hz hcb hcl;obtain ⟨x,hx,hx6,hxb⟩:=h4 _ hz;have hor:=k8W ⟨x,hx6⟩ ⟨d,zz1⟩;simp only at hor;have c5:=k00 h1 0;have c6:=k00 h6 0;have cA:=(k00 h2 (tz m)).trans hx;have fA:=k02 h2 (tz m);simp only [List.getElem?_toArray,List.getElem?_cons_zero] at c5 c6;have hzi:(tz m:Int)<n:=by omega
      have hn1:w.heap.size+1≠w.heap.size:=by omega
      have hn2:W.heap.size≠w.heap.size:=by omega
      have hn3:W.heap.size+1≠w.heap.size:=by omega
      have hx64:x ||| 2 ^ d<64:=by
       have:2 ^ d<2 ^ 6:=Nat.pow_lt_pow_right zz8 zz1;exact Nat.or_lt_two_pow (n:=6) hx6 this
      have FIN:k08 (KeepsOthers V (V.setCell ⟨w.heap.size,tz m,none⟩ (.int .u16 (x ||| 2 ^ d:Nat))).drew/\(V.setCell ⟨w.heap.size,tz m,none⟩ (.int .u16 (x ||| 2 ^ d:Nat))).drew.heap[W.heap.size+1]? = V.heap[W.heap.size+1]? /\ Tab (V.setCell ⟨w.heap.size,tz m,none⟩ (.int .u16 (x ||| 2 ^ d:Nat))).drew/\(clr m<=low r n/\∀ k,k<n->(clr m).testBit k=true->(low r n).testBit k=true) /\
       TSt w (V.setCell ⟨w.heap.size,tz m,none⟩ (.int .u16 (x ||| 2 ^ d:Nat))).drew n (fun k j=>(decide (j<d) && (low (rs.getD j 0) n).testBit k) || (decide (j=d) && (low r n).testBit k && !(clr m).testBit k))/\Marks w (V.setCell ⟨w.heap.size,tz m,none⟩ (.int .u16 (x ||| 2 ^ d:Nat))).drew Ms/\(V.setCell ⟨w.heap.size,tz m,none⟩ (.int .u16 (x ||| 2 ^ d:Nat))).drew.heap[W.heap.size]? = some (.cells #[.int .i64 d] 3)):=by
       refine ⟨⟨(KeepsOthers.setCell _ _ _).trans (KeepsOthers.drew _),Below.heap_setCell _ _ _ _ hn3,(hTV.set (by have:=hTw.lt;omega) _ _).drew,⟨zz1,fun k hk hc=>hsub k hk (by have:=hcb ⟨k,zz1⟩;simp only at this;rw [this] at hc;exact (Bool.and_eq_true _ _ ▸ hc).1)⟩,⟨(Below.heap_setCell _ _ _ _ hn1).trans h1,⟨_,k05 h2 _ _,by simpa using h3,fun k hk=>?_⟩,(ho.set (fun _=>Nat.le_refl _) _).drew⟩,⟨hM.1,fun D hD=>⟨(hM.2 D hD).1,(Below.heap_setCell _ _ _ _ (show D≠w.heap.size by have:=(hM.2 D hD).1;omega)).trans (hM.2 D hD).2⟩⟩,(Below.heap_setCell _ _ _ _ hn2).trans h6⟩⟩;by_cases e:tz m=k
       · subst e
         refine ⟨x ||| 2 ^ d,k2E _ _ zz1,hx64,fun j hj=>?_⟩;rw [Nat.testBit_or,hxb j hj,Nat.testBit_two_pow];have hb:=(kc4 ⟨m,hm1⟩ hm0).2;have hc:=hcb ⟨tz m,zz1⟩;simp only at hb hc;dsimp only;rw [hc,hb];have hlow:(low r n).testBit (tz m)=true:=hsub _ hz hb;by_cases e2:d=j
         · subst e2
           simp [hlow]
         · have e3:¬ j=d:=fun h=>e2 h.symm
           simp [e2,e3]
       · obtain ⟨y,hy,hy6,hyb⟩:=h4 k hk
         refine ⟨y,(k1r _ _ e).trans hy,hy6,fun j hj=>?_⟩;have hc:=hcb ⟨k,zz1⟩;simp only at hc;have e3:(k == tz m)=false:=beq_eq_false_iff_ne.mpr (fun h=>e h.symm);rw [hyb j hj];dsimp only;rw [hc,e3];exact zz17
      clear h1 h2 ho hM h6 hx h4 hxb hcb hsub hn1 hn2 hn3 hx64
      gi_wp2
      gi_region
      all_goals (gi_wp2;exact FIN.out)
     case stop=>exact fun _ _ _ _ h _=>h.elim
     case done=>
      rintro D V hD ⟨_,hS,hM,_⟩ hTV hK
      gi_wp2
      have hMD:D ∉ Ms:=fun h=>by have:=hMl D h;simp at hD;omega
      refine ⟨⟨d+1,D :: Ms,_,_,_,_,_,_,_,_,_,_,_,_,_,_,_,_,_,_,_,_,_,zz1,hS.to (fun k hk j hj=>?_),⟨List.nodup_cons.2 ⟨hMD,hM.1⟩,fun D' h'=>?_⟩,hTV,rfl⟩,?_⟩
      · have hz0:(0:Nat).testBit k=false:=by simp
        rw [hz0];by_cases e:j=d
        · subst e
          rw [hrd];exact zz17
        · have e2:(j<d+1) ↔ (j<d):=by omega
          simp [e,e2]
      · rcases List.mem_cons.1 h' with rfl | h'
        · exact ⟨by simp at hD;omega,hK⟩
        · exact hM.2 _ h'
      · show n-ixOf (.int .i64 ((d:Int)+1))<n-ixOf (.int .i64 (d:Int))
        simp only [ixOf];exact zz1
   · have e1:decide ((d:Int)<n)=false:=decide_eq_false zz1
     obtain rfl:d=n:=by omega
     have hc:=k00 hS.1 0;simp only [List.getElem?_toArray,List.getElem?_cons_zero] at hc
     gi_wp2
     refine k68 (v:=.slice (some ⟨w.heap.size,0,none⟩) d d) ?_ Ms W hM ?_
     · intro W'
       exact results_tmp (fn:=Tryz.f124) (t:=4) rfl _ _ _
     · intro W' hO
       obtain ⟨h1,⟨cur,h2,h3,h4⟩,ho⟩:=hS;have hb2:=(hO.same (k03 h2) (fun hm=>by have:=(hM.2 _ hm).1;omega)).trans h2;obtain ⟨outs,houts⟩:∃ outs:List Nat,outs=cur.toList.map (fun v=>match v with | .int _ x=>x.toNat | _=>0):=⟨_,rfl⟩;have hk:∀ k,k<d->∃ x:Nat,outs[k]? = some x/\cur[k]? = some (.int .u16 x)/\x<64/\∀ j,j<6->x.testBit j=(decide (j<d) && (low (rs.getD j 0) d).testBit k):=by
        intro k hk;obtain ⟨x,a,b,c⟩:=h4 k hk;refine ⟨x,?_,a,b,c⟩;rw [houts,List.getElem?_map,Array.getElem?_toList,a];exact zz17
       have hlen:outs.length=d:=by rw [houts,List.length_map,Array.length_toList,h3]
       refine ⟨_,w.heap.size,outs,rfl,⟨by simp [u16s,hlen],.inr ⟨_,0,d,cur,rfl,rfl,hb2,Nat.le_refl _,zz1,?_⟩⟩,Nat.le_refl _,?_,fun k hk'=>?_⟩
       · intro j hj
         have hj':j<d:=by simpa [u16s,hlen] using hj
         obtain ⟨x,a,b,_⟩:=hk j hj';rw [Nat.zero_add,b];simp [u16s,a]
       · exact (ho.then hO (fun b hb hq=>by have:=(hM.2 _ hq).1;omega)).toBelow (fun b hb=>by omega)
       · obtain ⟨x,a,_,b,c⟩:=hk k hk'
         exact ⟨x,a,b,c⟩
end Go.Proofs.YtdopmlopafgonaaGreatDoor.Own
namespace Go.Proofs.YtdopmlopafgonaaGreatDoor.Own
open Go.RowKit Go.Proofs.YtdopmlopafgonaaGreatDoorW.PrintWords Go.Proofs.YtdopmlopafgonaaGreatDoorW.PrintLast Go.Proofs.YtdopmlopafgonaaGreatDoorW.PrintMore
theorem kcl:∀ m:Fin 64,∀ k:Fin 6,(bits BinOp.and IntKind.u16 ((m.1:Int) / 2 ^ k.1) 1 == 1)=m.1.testBit k.1:=by decide
theorem k8Y (m k:Nat) (w:World) (h1:m<64) (hk:k<6) :
 Calls Tryz.prog 150 #[.int .u16 m,.int .i64 k] w fun e w'=>e = .returned (.bool (m.testBit k))/\w'=w:=by
 have f:=kcl ⟨m,h1⟩ ⟨k,hk⟩;have t1:decide ((0:Int)<=k)=true:=decide_eq_true zz1;have t2:decide ((k:Int)<16)=true:=decide_eq_true zz1;simp only at f;go_enter Tryz.func150,Tryz.ntmps150;exact zz12
end Go.Proofs.YtdopmlopafgonaaGreatDoor.Own
