/- TopOrder: of each flow what came is some of what was injected, in its order (a part of the walks and of the plain laws). -/
import Derived.Test.YtdopmlopafgonaaGreatDoorD0
import Derived.Test.YtdopmlopafgonaaGreatDoorD12
import Derived.Test.YtdopmlopafgonaaGreatDoorD13
set_option linter.unusedVariables false
set_option linter.unusedSimpArgs false
set_option maxHeartbeats 4000000
set_option maxRecDepth 100000
namespace Go.Proofs.YtdopmlopafgonaaGreatDoor.Own
open Go.RowKit Go.Proofs.YtdopmlopafgonaaGreatDoorW.PrintWords Go.Proofs.YtdopmlopafgonaaGreatDoorW.PrintLast Go.Proofs.YtdopmlopafgonaaGreatDoorW.PrintMore
attribute [local go_sem] Oper.semAt_some
def u16s(l:List Nat):List Value:=l.map fun(i:Nat)=>Value.int .u16 (i:Int)
theorem kae:(Tryz.prog.info? 23).map (fun i=>(i.zero,i.size,i.bytes))=some (some (.int .u16 0),1,2):=by kernel_rfl
def ixOf(v:Value):Nat:=match v with|.int _ k=>k.toNat|_=>0
def TSt(w W:World)(n:Nat)(F:Nat->Nat->Bool):Prop:=
 W.heap[w.heap.size+1]? = some (.cells #[.slice (some ⟨w.heap.size,0,none⟩) n n] 168 (0,0)) /\
 (∃cur,W.heap[w.heap.size]? = some (.cells cur 23 (0,0))/\cur.size=n/\∀k,k<n->∃x:Nat,cur[k]? = some (.int .u16 x)/\x<64/\∀j,j<6->x.testBit j=F k j) /\
 Only (fun x=>w.heap.size<=x) w W
theorem TSt.move{w W W':World}{n:Nat}{F:Nat->Nat->Bool}{N b:Nat}(h:TSt w W n F)(k:Only (fun x=>x=b\/N<=x) W W')(hb:w.heap.size+2<=b)(hN:w.heap.size+2<=N):TSt w W' n F:=by
 obtain⟨h1,⟨cur,h2,h3⟩,ho⟩:=h;refine⟨(k.same (k03 h1) zz1).trans h1,⟨cur,(k.same (k03 h2) zz1).trans h2,h3⟩,ho.then k (fun x hx hq=>by omega)⟩
theorem TSt.to{w W:World}{n:Nat}{F F':Nat->Nat->Bool}(h:TSt w W n F)(e:∀k,k<n->∀j,j<6->F k j=F' k j):TSt w W n F':=by
 obtain⟨h1,⟨cur,h2,h3,h4⟩,ho⟩:=h;refine⟨h1,⟨cur,h2,h3,fun k hk=>?_⟩,ho⟩;obtain⟨x,a,b,c⟩:=h4 k hk;exact⟨x,a,b,fun j hj=>(c j hj).trans (e k hk j hj)⟩
def Marks(w W:World)(Ms:List Nat):Prop:=Ms.Nodup/\∀D∈Ms,w.heap.size+2<=D/\W.heap[D]? = some (.deferred (some []))
theorem Marks.move{w W W':World}{Ms:List Nat}{N b:Nat}(h:Marks w W Ms)(k:Only (fun x=>x=b\/N<=x) W W')(hb:∀D∈Ms,D≠b)(hN:W.heap.size<=N):Marks w W' Ms:=
 ⟨h.1,fun D hD=>⟨(h.2 D hD).1,(k.same (k03 (h.2 D hD).2) (by have:=k03 (h.2 D hD).2;have:=hb D hD;omega)).trans (h.2 D hD).2⟩⟩
theorem k71{fn:Func}{tmps:Array Value}{R:Ending->World->Prop}{w:World}{n:Nat}{v:Value}(hres:∀W:World,(results fn tmps).run Tryz.prog W=.ok v W) :
 ∀(Ms:List Nat)(W:World),Marks w W Ms->(∀W',Only (fun x=>x∈Ms) W W'->R (.returned v) W') ->
  LeavesInM Fence.wide n Tryz.prog fn tmps R (Ms.map fun D=>{ target:=.collected D,args:=#[] }) .returning W:=by
 intro Ms
 induction Ms with
 |nil=>exact fun W _ h=>⟨v,hres W,h W (Only.refl _ _)⟩
 |cons D Ms ih=>
  intro W hm h;refine⟨zz6,.inl ⟨D,_,rfl,run_takeDeferred (hm.2 D zz6).2,?_⟩⟩;have hnd:=List.nodup_cons.1 hm.1;refine ih _ ⟨hnd.2,fun D' hD'=>⟨(hm.2 D' (by simp[hD'])).1,(World.putObj_heap_other (by rintro rfl;exact hnd.1 hD')).trans (hm.2 D' (by simp[hD'])).2⟩⟩ ?_;intro W' hO;exact h W' (((Only.refl _ W).put (P:=fun x=>x∈D :: Ms) (fun _=>by simp) _).then hO (fun x _ hx=>by simp[hx]))
theorem k9a:∀m:Fin 64,∀n:Fin 6,bits BinOp.or IntKind.u16 (m.1:Int) (IntKind.u16.wrap (2 ^ n.1))=(m.1 ||| 2 ^ n.1:Nat):=by decide
theorem kd0:∀m:Fin 64,0<m.1->∀n:Fin 7,m.1<2 ^ n.1->tz m.1<n.1:=by decide
theorem kbW:∀m:Fin 64,0<m.1->∀k:Fin 6,(clr m.1).testBit k.1=(m.1.testBit k.1 && !(k.1 == tz m.1)):=by decide
theorem k8Y(v:Value)(n:Nat)(rs:List Nat)(g:Option Nat)(w:World)(R:Row w v 23 1 n (u16s rs) g)(hr:∀r∈rs,r<64)(hn0:0<n)(hn:n<7)(hT:Tab w) :
 Calls Tryz.prog 124 #[v,.int .i64 n] w fun e w'=>∃v' g' outs,e=.returned v'/\Row w' v' 23 1 n (u16s outs) (some g')/\w.heap.size<=g'/\Below w.heap.size w w' /\
  ∀k,k<n->∃x,outs[k]? = some x/\x<64/\∀j,j<6->x.testBit j=(decide (j<n) && (low (rs.getD j 0) n).testBit k):=by
 have t1:decide ((n:Int)<1)=false:=decide_eq_false zz1;have t2:decide ((16:Int)<n)=false:=decide_eq_false zz1;obtain⟨i0,hi,hz0,hz1,hz2⟩:=info_parts kae;have hmk:∀W:World,(Instr.makeSlice 168 (.int .i64 n) (.int .i64 n)).run Tryz.prog W=.ok (.slice (some ⟨W.heap.size,0,none⟩) n n) (W.alloc (.cells (madeCells (Value.int .u16 0).cells (n*1)) 23)):=fun W=>by
  have:=run_make (P:=Tryz.prog) W 168 23 i0 _ Tryz.underlying168 hi hz0 .i64 .i64 n n zz1 zz1 zz91 zz1;exact zz53
 obtain⟨b,off,cap,hg,rfl,hcap,hfz,hcell⟩:=R.open hn0;refine(callsIn_wide (n:=9)).1 ?_;refine callsIn_of_wp_marks Tryz.func124 rfl trivial ?_ rfl;simp only[Tryz.ntmps124,List.size_toArray,List.length_cons,List.length_nil,Nat.reduceAdd,Nat.reduceSub,Array.replicate_succ,Array.replicate_zero,List.push_toArray,List.append_toArray,List.nil_append,List.cons_append]
 gi_wp2
 have hW0:TSt w ((w.alloc (Obj.cells (madeCells #[Value.int IntKind.u16 0] n) 23)).alloc (Obj.cells #[Value.slice (some { block:=w.heap.size,off:=0 }) n n] 168)) n (fun k j=>decide (j<0) && (low (rs.getD j 0) n).testBit k):=by
  refine⟨by have:=heap_alloc_new (w.alloc (Obj.cells (madeCells #[Value.int IntKind.u16 0] n) 23)) (Obj.cells #[Value.slice (some { block:=w.heap.size,off:=0 }) n n] 168);rwa [World.size_alloc]at this,
   ⟨_,(Below.heap_alloc _ _ _ zz6).trans (heap_alloc_new w _),by simp[size_madeCells],fun k hk=>⟨0,?_,zz1,fun j hj=>by simp⟩⟩,((Only.refl _ w).alloc _).alloc _⟩
  unfold madeCells;exact zz94
 refine wpIn_loop (fun a W=>∃(d:Nat)(Ms:List Nat)(u6 u7 u8 u24 u25 u26 u27 u28 u29 u30 u31 u32 u33 u34 u35 u36 u37 u38 u39 u40 u41:Value),d<=n/\TSt w W n (fun k j=>decide (j<d) && (low (rs.getD j 0) n).testBit k)/\Marks w W Ms/\Tab W /\
  a = { tmps:=List.toArray ((Value.slice (some ⟨b,off,none⟩) n cap) :: (Value.int .i64 n) :: undef :: undef :: (Value.slice none 0 0) :: (Value.pointer (some ⟨w.heap.size+1,0,none⟩)) :: u6 :: u7 :: u8 :: (Value.int .i64 n) :: (Value.bool false) :: (Value.bool false) :: (Value.int .i64 n) :: (Value.bool false) :: (Value.bool false) :: (Value.int .i64 n) :: (Value.slice (some ⟨w.heap.size,0,none⟩) n n) :: (Value.slice (some ⟨b,off,none⟩) n cap) :: (Value.slice (some ⟨b,off,none⟩) n cap) :: (Value.int .i64 n) :: (Value.int .i64 n) :: (Value.slice (some ⟨b,off,none⟩) n cap) :: (Value.int .i64 n) :: (Value.int .i64 d) :: u24 :: u25 :: u26 :: u27 :: u28 :: u29 :: u30 :: u31 :: u32 :: u33 :: u34 :: u35 :: u36 :: u37 :: u38 :: u39 :: u40 :: u41 :: undef :: []),defers:=Ms.map fun D=>{ target:=.collected D,args:=#[] } })
  (fun a _=>n-ixOf (a.tmps.getD 23 undef)) ?_ ?_
 ·exact⟨0,[],_,_,_,_,_,_,_,_,_,_,_,_,_,_,_,_,_,_,_,_,_,zz1,hW0,⟨List.nodup_nil,zz6⟩,(hT.alloc _).alloc _,rfl⟩
 ·rintro a W ⟨d,Ms,u6,u7,u8,u24,u25,u26,u27,u28,u29,u30,u31,u32,u33,u34,u35,u36,u37,u38,u39,u40,u41,hd,hS,hM,hTT,rfl⟩
  clear hW0 hmk hi hz0 hz1 hz2;by_cases hlt:d<n
  ·have e1:decide ((d:Int)<n)=true:=decide_eq_true zz1
   have hlen:rs.length=n:=by have:=R.1;simpa[u16s] using this
   obtain⟨r,hrd⟩:∃r,rs.getD d 0=r:=⟨_,rfl⟩;have hrd':rs[d]? = some r:=by
    rw[<- hrd,List.getD_eq_getElem?_getD,List.getElem?_eq_getElem zz1];rfl
   have hr6:r<64:=hr r (List.mem_of_getElem? hrd');have hcd:W.cell? ⟨b,off+d,none⟩=some (.int .u16 r):=by
    have h0:=hcell d (by simp[u16s];omega);have h0':w.cell? ⟨b,off+d,none⟩=some (.int .u16 r):=by rw[h0];simp[u16s,hrd']
    have hb:=World.block_lt_of_cell? w _ h0';exact hS.2.2.cell h0' (fun hc=>Nat.not_lt.2 hc hb)
   have HS:=Ab hS;have HM:=Ab hM;have hTw:=hT;clear hS hM R hcell hrd' hT
   gi_wp2_with (refine⟨trivial,?_⟩;first
    |(gi_at_call 149;refine(callsIn_wide.2 (k4m _ _ _ zz1 zz1)).mono ?_;rintro e w' ⟨rfl,rfl⟩)
    |(gi_at_call 148;refine(callsIn_wide.2 (k3D _ _)).mono ?_;rintro e w' ⟨rfl,rfl⟩))
   have hwW:=HS.1.2.2.size;have hAl:=k03 HS.1.1;have hln:=k7S (k:=n) hr6;have hMl:∀D∈Ms,D<W.heap.size:=fun D hD=>k03 (HM.1.2 D hD).2
   have hF0:TSt w W n (fun k j=>(decide (j<d) && (low (rs.getD j 0) n).testBit k) || (decide (j=d) && (low r n).testBit k && !(low r n).testBit k)):=HS.1.to (fun k hk j hj=>by
    cases (low r n).testBit k<;>simp)
   refine' k3v (b:=W.heap.size+1) (m0:=low r n) zz1 rfl (by have:=World.alloc_heap_new (W.alloc (.cells #[.int .i64 d] 3)) (.cells #[.int .u16 (low r n)] 23);rwa [World.size_alloc]at this) ((hTT.alloc _).alloc _) zz1 hln
    (fun m V=>(m<=low r n/\∀k,k<n->m.testBit k=true->(low r n).testBit k=true)/\TSt w V n (fun k j=>(decide (j<d) && (low (rs.getD j 0) n).testBit k) || (decide (j=d) && (low r n).testBit k && !m.testBit k))/\Marks w V Ms/\V.heap[W.heap.size]? = some (.cells #[.int .i64 d] 3))
    (fun _ _=>False)
    ?hI ?hIx ?h0 _ ?assign ?body ?done ?stop
   case hI=>
    rintro mm V V' ⟨hmm,h,hM,h6⟩ k;refine⟨hmm,h.move k zz1 zz20,⟨hM.1,fun D hD=>⟨(hM.2 D hD).1,(k.same (k03 (hM.2 D hD).2) (by have:=hMl D hD;simp;omega)).trans (hM.2 D hD).2⟩⟩,(k.same (k03 h6) zz20).trans h6⟩
   case hIx=>exact fun _ _ _ h _=>h
   case h0=>
    have hO2:Only (fun x=>x=W.heap.size+1\/W.heap.size<=x) W ((W.alloc (.cells #[.int .i64 d] 3)).alloc (.cells #[.int .u16 (low r n)] 23)):=((Only.refl _ W).alloc _).alloc _;exact⟨⟨Nat.le_refl _,fun _ _ h=>h⟩,hF0.move hO2 zz1 zz1,HM.1.move hO2 (fun D hD=>by have:=hMl D hD;omega) (Nat.le_refl _),(Below.heap_alloc _ _ _ zz6).trans (heap_alloc_new W _)⟩
   case assign=>
    intro l m V K hK
    gi_wp2
    exact hK
   case body=>
    rintro l m V ⟨⟨hmm,hsub⟩,⟨h1,⟨cur,h2,h3,h4⟩,ho⟩,hM,h6⟩ hm0 hm1 hTV hsz;have hm2:m<2 ^ n:=Nat.lt_of_le_of_lt hmm (Nat.mod_lt _ (Nat.two_pow_pos n));have hz:=kd0 ⟨m,hm1⟩ hm0 ⟨n,hn⟩ hm2;have hcb:=kbW ⟨m,hm1⟩ hm0;have hcl:=(kbM ⟨m,hm1⟩ hm0).2;simp only at hz hcb hcl;obtain⟨x,hx,hx6,hxb⟩:=h4 _ hz;have hor:=k9a ⟨x,hx6⟩ ⟨d,zz1⟩;simp only at hor;have c5:=k00 h1 0;have c6:=k00 h6 0;have cA:=(k00 h2 (tz m)).trans hx;have fA:=k02 h2 (tz m);simp only[List.getElem?_toArray,List.getElem?_cons_zero]at c5 c6;have hzi:(tz m:Int)<n:=by omega
    have hn1:w.heap.size+1≠w.heap.size:=zz1
    have hn2:W.heap.size≠w.heap.size:=zz1
    have hn3:W.heap.size+1≠w.heap.size:=zz1
    have hx64:x ||| 2 ^ d<64:=by
     have:2 ^ d<2 ^ 6:=Nat.pow_lt_pow_right zz7 zz1;exact Nat.or_lt_two_pow (n:=6) hx6 this
    have FIN:k07 (KeepsOthers V (V.setCell ⟨w.heap.size,tz m,none⟩ (.int .u16 (x ||| 2 ^ d:Nat))).drew/\(V.setCell ⟨w.heap.size,tz m,none⟩ (.int .u16 (x ||| 2 ^ d:Nat))).drew.heap[W.heap.size+1]? = V.heap[W.heap.size+1]? /\ Tab (V.setCell ⟨w.heap.size,tz m,none⟩ (.int .u16 (x ||| 2 ^ d:Nat))).drew/\(clr m<=low r n/\∀k,k<n->(clr m).testBit k=true->(low r n).testBit k=true) /\
     TSt w (V.setCell ⟨w.heap.size,tz m,none⟩ (.int .u16 (x ||| 2 ^ d:Nat))).drew n (fun k j=>(decide (j<d) && (low (rs.getD j 0) n).testBit k) || (decide (j=d) && (low r n).testBit k && !(clr m).testBit k))/\Marks w (V.setCell ⟨w.heap.size,tz m,none⟩ (.int .u16 (x ||| 2 ^ d:Nat))).drew Ms/\(V.setCell ⟨w.heap.size,tz m,none⟩ (.int .u16 (x ||| 2 ^ d:Nat))).drew.heap[W.heap.size]? = some (.cells #[.int .i64 d] 3)):=by
     refine⟨⟨(KeepsOthers.setCell _ _ _).trans (KeepsOthers.drew _),Below.heap_setCell _ _ _ _ hn3,(hTV.set (by have:=hTw.lt;omega) _ _).drew,⟨zz1,fun k hk hc=>hsub k hk (by have:=hcb ⟨k,zz1⟩;simp only at this;rw[this]at hc;exact(Bool.and_eq_true _ _▸hc).1)⟩,⟨(Below.heap_setCell _ _ _ _ hn1).trans h1,⟨_,k05 h2 _ _,by simpa using h3,fun k hk=>?_⟩,(ho.set (fun _=>Nat.le_refl _) _).drew⟩,⟨hM.1,fun D hD=>⟨(hM.2 D hD).1,(Below.heap_setCell _ _ _ _ (show D≠w.heap.size by have:=(hM.2 D hD).1;omega)).trans (hM.2 D hD).2⟩⟩,(Below.heap_setCell _ _ _ _ hn2).trans h6⟩⟩;by_cases e:tz m=k
     ·subst e
      refine⟨x ||| 2 ^ d,k2K _ _ zz1,hx64,fun j hj=>?_⟩;rw[Nat.testBit_or,hxb j hj,Nat.testBit_two_pow];have hb:=(kdp ⟨m,hm1⟩ hm0).2;have hc:=hcb ⟨tz m,zz1⟩;simp only at hb hc;dsimp only;rw[hc,hb];have hlow:(low r n).testBit (tz m)=true:=hsub _ hz hb;by_cases e2:d=j
      ·subst e2
       simp[hlow]
      ·have e3:¬j=d:=fun h=>e2 h.symm
       simp[e2,e3]
     ·obtain⟨y,hy,hy6,hyb⟩:=h4 k hk
      refine⟨y,(k1w _ _ e).trans hy,hy6,fun j hj=>?_⟩;have hc:=hcb ⟨k,zz1⟩;simp only at hc;have e3:(k == tz m)=false:=beq_eq_false_iff_ne.mpr (fun h=>e h.symm);rw[hyb j hj];dsimp only;rw[hc,e3];exact zz6
    clear h1 h2 ho hM h6 hx h4 hxb hcb hsub hn1 hn2 hn3 hx64
    gi_wp2
    gi_region
    all_goals(gi_wp2;exact FIN.1)
   case stop=>exact fun _ _ _ _ h _=>h.elim
   case done=>
    rintro D V hD ⟨_,hS,hM,_⟩ hTV hK
    gi_wp2
    have hMD:D ∉ Ms:=fun h=>by have:=hMl D h;simp at hD;omega
    refine⟨⟨d+1,D :: Ms,_,_,_,_,_,_,_,_,_,_,_,_,_,_,_,_,_,_,_,_,_,zz1,hS.to (fun k hk j hj=>?_),⟨List.nodup_cons.2 ⟨hMD,hM.1⟩,fun D' h'=>?_⟩,hTV,rfl⟩,?_⟩
    ·have hz0:(0:Nat).testBit k=false:=by simp
     rw[hz0];by_cases e:j=d
     ·subst e
      rw[hrd];exact zz6
     ·have e2:(j<d+1) ↔ (j<d):=by omega
      simp[e,e2]
    ·rcases List.mem_cons.1 h' with rfl|h'
     ·exact⟨by simp at hD;omega,hK⟩
     ·exact hM.2 _ h'
    ·show n-ixOf (.int .i64 ((d:Int)+1))<n-ixOf (.int .i64 (d:Int))
     simp only[ixOf];exact zz1
  ·have e1:decide ((d:Int)<n)=false:=decide_eq_false zz1
   obtain rfl:d=n:=by omega
   have hc:=k00 hS.1 0;simp only[List.getElem?_toArray,List.getElem?_cons_zero]at hc
   gi_wp2
   refine k71 (v:=.slice (some ⟨w.heap.size,0,none⟩) d d) ?_ Ms W hM ?_
   ·intro W'
    exact results_tmp (fn:=Tryz.f124) (t:=4) rfl _ _ _
   ·intro W' hO
    obtain⟨h1,⟨cur,h2,h3,h4⟩,ho⟩:=hS;have hb2:=(hO.same (k03 h2) (fun hm=>by have:=(hM.2 _ hm).1;omega)).trans h2;obtain⟨outs,houts⟩:∃outs:List Nat,outs=cur.toList.map (fun v=>match v with|.int _ x=>x.toNat|_=>0):=⟨_,rfl⟩;have hk:∀k,k<d->∃x:Nat,outs[k]? = some x/\cur[k]? = some (.int .u16 x)/\x<64/\∀j,j<6->x.testBit j=(decide (j<d) && (low (rs.getD j 0) d).testBit k):=by
     intro k hk;obtain⟨x,a,b,c⟩:=h4 k hk;refine⟨x,?_,a,b,c⟩;rw[houts,List.getElem?_map,Array.getElem?_toList,a];exact zz6
    have hlen:outs.length=d:=by rw[houts,List.length_map,Array.length_toList,h3]
    refine⟨_,w.heap.size,outs,rfl,⟨by simp[u16s,hlen],.inr ⟨_,0,d,cur,rfl,rfl,hb2,Nat.le_refl _,zz1,?_⟩⟩,Nat.le_refl _,?_,fun k hk'=>?_⟩
    ·intro j hj
     have hj':j<d:=by simpa[u16s,hlen] using hj
     obtain⟨x,a,b,_⟩:=hk j hj';rw[Nat.zero_add,b];simp[u16s,a]
    ·exact(ho.then hO (fun b hb hq=>by have:=(hM.2 _ hq).1;omega)).toBelow (fun b hb=>by omega)
    ·obtain⟨x,a,_,b,c⟩:=hk k hk'
     exact⟨x,a,b,c⟩
end Go.Proofs.YtdopmlopafgonaaGreatDoor.Own
namespace Go.Proofs.YtdopmlopafgonaaGreatDoor.Own
open Go.RowKit Go.Proofs.YtdopmlopafgonaaGreatDoorW.PrintWords Go.Proofs.YtdopmlopafgonaaGreatDoorW.PrintLast Go.Proofs.YtdopmlopafgonaaGreatDoorW.PrintMore
def bod(f:Int×Int×Int)(l:List Pk):List Int:=(l.filter fun x=>decide ((x.src,x.dst,x.lane)=f)).map Pk.body
def u32s(l:List Int):List Value:=l.map fun x=>Value.int .u32 x
theorem kdf:(Tryz.prog.info? 24).map (fun i=>(i.zero,i.size,i.bytes))=some (some (.int .u32 0),1,4):=by kernel_rfl
theorem kau(f:Int×Int×Int)(l:List Pk)(i:Nat)(hi:i<l.length):bod f (l.take (i+1))=bod f (l.take i)++if(l[i].src,l[i].dst,l[i].lane)=f then[l[i].body] else[]:=by
 rw[List.take_succ_eq_append_getElem hi];unfold bod;rw[List.filter_append,List.map_append];congr 1;by_cases h:(l[i].src,l[i].dst,l[i].lane)=f
 ·rw[if_pos h,List.filter_cons_of_pos zz74];rfl
 ·rw[if_neg h,List.filter_cons_of_neg zz74];rfl
theorem if3(p q r:Prop)[Decidable p][Decidable q][Decidable r](w:World):(if p then if q then if r then Result.ok (Next.value (Value.bool true)) w else Result.ok (Next.value (Value.bool false)) w else Result.ok (Next.value (Value.bool false)) w else Result.ok (Next.value (Value.bool false)) w)=Result.ok (Next.value (Value.bool (decide (p/\q/\r)))) w:=by
 by_cases h1:p<;>by_cases h2:q<;>by_cases h3:r<;>simp[h1,h2,h3]
section
variable{w:World}
theorem k39(v:Value)(l:List Pk)(g:Option Nat)(f:Int×Int×Int)(w:World)(R:Row w v 40 4 l.length (k0J l) g)(hl:l.length<=10000) :
 Calls Tryz.prog 13 #[v,.agg #[.int .i64 f.1,.int .i64 f.2.1,.int .i64 f.2.2]] w fun e w'=>∃v' g',e=.returned v'/\Row w' v' 24 1 (bod f l).length (u32s (bod f l)) g'/\Below w.heap.size w w'/\(∀b,g'=some b->w.heap.size<=b):=by
 obtain⟨A,cap,rfl,_⟩:=R.size;obtain⟨n,hn⟩:∃n,n=l.length:=⟨_,rfl⟩;have HN:=Ab hn;have HR:=Ab R;have R0:=fun(W:World)=>Row.nil W 24 1
 rw[<- hn]at hl ⊢;clear R hn;go_enter Tryz.func13,Tryz.ntmps13;go_wp2
 go_loopw [5,6] (fun s5 s6 wr=>∃(i:Nat)(g5:Option Nat),i<=n/\s6=.int .i64 i/\k07 (Row wr s5 24 1 (bod f (l.take i)).length (u32s (bod f (l.take i))) g5/\Below w.heap.size w wr/\(∀b,g5=some b->w.heap.size<b)/\wr.heap[w.heap.size]? = some (.cells #[.int .i64 f.1,.int .i64 f.2.1,.int .i64 f.2.2] 53 (0,0)))) (fun _ s6 _=>n-ixOf s6)
 case atStart=>exact⟨0,none,Nat.zero_le _,rfl,⟨Row.nil _ _ _,(Below.refl _ w).alloc (Nat.le_refl _) _,fun b h=>zz52,heap_alloc_new w _⟩⟩
 case round=>
  obtain⟨i,g5,hi,rfl,Q⟩:=hrel;obtain⟨A5,c5,rfl,_⟩:=Q.1.1.size;by_cases hlt:i<n
  ·have e1:(i:Int)<(n:Int):=by omega
   obtain⟨x,hx⟩:∃x,l[i]? = some x:=⟨_,List.getElem?_eq_getElem zz32⟩;have HX:=Ab hx;obtain⟨b,off,cap',hg,hv,_,_,hc⟩:=(HR.1.below Q.1.2.1).open zz32;have hix:i<l.length:=by have:=HN.1;omega
   have hxe:l[i]=x:=by rw[List.getElem?_eq_getElem hix]at hx;exact Option.some.inj hx
   have g0:=fun j hj=>(hc (i*4+j) (by rw[k1x];omega)).trans (k3x l i j hix hj)
   rw[hxe]at g0;simp only[Value.slice.injEq]at hv;obtain⟨rfl,_,rfl⟩:=hv;have HS:=Sat.mk (S:=fun(W:World)=>W.cell? ⟨b,off+i*4,none⟩=some (.int .i64 x.src)/\W.cell? ⟨b,off+i*4+1,none⟩=some (.int .i64 x.dst)/\W.cell? ⟨b,off+i*4+2,none⟩=some (.int .i64 x.lane)/\W.cell? ⟨b,off+i*4+3,none⟩=some (.int .u32 x.body)/\W.cell? ⟨w.heap.size,0,none⟩=some (.int .i64 f.1)/\W.cell? ⟨w.heap.size,1,none⟩=some (.int .i64 f.2.1)/\W.cell? ⟨w.heap.size,2,none⟩=some (.int .i64 f.2.2)) (w:=wr) (⟨g0 0 zz1,g0 1 zz1,g0 2 zz1,g0 3 zz1,(k00 Q.1.2.2.2 0).trans rfl,(k00 Q.1.2.2.2 1).trans rfl,(k00 Q.1.2.2.2 2).trans rfl⟩);clear hx hc g0 hix hxe
   go_wp2_with fail
   refine WpL.rg HS 99 zz2 ?_;refine WpL.E 0 HS.1 ?_;refine WpL.E 1 HS.1 ?_;refine WpL.E 2 HS.1 ?_;refine WpL.E 3 HS.1 ?_;refine WpL.E 5 HS.1 ?_;refine WpL.one (i:=4) zz2 rfl (fun K hK=>?_);go_simp;refine(k6S _ _ _ _ _).mono ?_;rintro e w4 ⟨rfl,hb4⟩;have B4:=Ac (Below wr.heap.size wr w4) ((Below.refl _ wr).drew.trans hb4);have HS4:=HS.to w4 (by
    obtain⟨p0,p1,p2,p3,p4,p5,p6⟩:=HS.1;exact⟨k01 B4.1 p0,k01 B4.1 p1,k01 B4.1 p2,k01 B4.1 p3,k01 B4.1 p4,k01 B4.1 p5,k01 B4.1 p6⟩)
   clear hb4;simp only[];refine hK.out _ _ (fun _=>HS4.1) ?_;clear hK K
   try refine Sm ?_
   refine WpL.takeE (i:=6) (v:=?vq1_6) (rfl) zz2 zz2 zz2 zz2 zz2 (fun _ _ _ h=>h) ?yq1_6 (HS4.1) ?rq1_6
   case yq1_6=>refine Or.inl ⟨?_,?_⟩;rfl;intro w hSw;go_simp;exact if3 (x.src=f.1) (x.dst=f.2.1) (x.lane=f.2.2) _
   refine Sm ?_;refine WpL.done zz2 ?_ _;have hbl:(bod f (l.take i)).length<=10000:=by
    refine Nat.le_trans ?_ hl;unfold bod;rw[List.length_map];refine Nat.le_trans (List.length_filter_le _ _) ?_;rw[List.length_take];exact zz1
   have hix:i<l.length:=zz32
   have hbt:=kau f l i hix;have hxe:l[i]=x:=by have h:=HX.1;rw[List.getElem?_eq_getElem hix]at h;exact Option.some.inj h
   rw[hxe]at hbt;have HB:=Ac (_/\_/\_) (⟨hbl,hbt,hix⟩);have R4:=Ac (Row w4 (.slice A5 (bod f (l.take i)).length c5) 24 1 (bod f (l.take i)).length (u32s (bod f (l.take i))) g5/\Below w.heap.size w w4/\w4.heap[w.heap.size]? = some (.cells #[.int .i64 f.1,.int .i64 f.2.1,.int .i64 f.2.2] 53 (0,0))) (⟨Q.1.1.below B4.1,Q.1.2.1.trans (B4.1.mono Q.1.2.1.size),(B4.1.block _ (k03 Q.1.2.2.2)).trans Q.1.2.2.2⟩);obtain⟨m,hm⟩:∃m,m=(bod f (l.take i)).length:=⟨_,rfl⟩;have HM:=Ab hm;rw[<- hm]at hbl R4 ⊢;clear hbt hxe hm hix;by_cases hq:x.src=f.1/\x.dst=f.2.1/\x.lane=f.2.2
   ·rw[decide_eq_true hq]
    obtain⟨_,_,_,p3,_⟩:=HS4.1;have HQ:=Ab hq;clear hq
    go_wp2_with(at_builtin;refine k0z rfl _ _ 50 24 (.int .u32 0) 1 4 rfl Tryz.underlying50 kdf rfl zz7 zz7 (.slice A5 m c5) m (u32s (bod f (l.take i))) [.int .u32 x.body] g5 R4.1.1 rfl rfl rfl rfl zz34 zz1 ?_;intro v1 w5 g1 R1p O1 G1;have K1:=Ac (_/\_/\_) (⟨R1p,O1,G1⟩);obtain⟨A1',k1,rfl,_⟩:=R1p.size;clear R1p O1 G1)
    have hlt:=k03 Q.1.2.2.2;have hsz:=Q.1.2.1.size;have hs4:=R4.1.2.1.size;refine⟨⟨i+1,g1,zz1,rfl,⟨?_,?_,?_,?_⟩⟩,?_⟩
    ·have h:=K1.1.1
     rw[HB.1.2.1,if_pos (by obtain⟨e1,e2,e3⟩:=HQ.1;rw[e1,e2,e3])];simp only[List.length_append,List.length_singleton,u32s,List.map_append,List.map_cons,List.map_nil];rw[<- HM.1];exact h
    ·exact((Only.of_below (P:=fun b=>w.heap.size<=b) R4.1.2.1).then K1.1.2.1 (fun b _ hq=>by have:=Q.1.2.2.1 b hq;omega)).toBelow (fun b hb hq=>by omega)
    ·intro b' hb'
     rcases K1.1.2.2 with h|⟨b2,h,hb2⟩
     ·exact Q.1.2.2.1 b' (h▸hb')
     ·rw[h]at hb';cases hb';have:=k03 R4.1.2.2;omega
    ·exact(K1.1.2.1.keep _ (k03 R4.1.2.2) (fun h=>by have:=Q.1.2.2.1 _ h;omega)).trans R4.1.2.2
    ·show n-ixOf (.int .i64 ((i:Int)+1))<n-ixOf (.int .i64 (i:Int))
     simp only[ixOf];exact zz1
   ·rw[decide_eq_false hq]
    have HQ:=Ab hq;clear hq;go_wp2;refine⟨⟨i+1,g5,zz1,rfl,⟨?_,R4.1.2.1,Q.1.2.2.1,R4.1.2.2⟩⟩,?_⟩
    ·have h:=R4.1.1
     rw[HB.1.2.1,if_neg (fun e=>HQ.1 (by cases e;exact⟨rfl,rfl,rfl⟩)),List.append_nil,<- HM.1];exact h
    ·show n-ixOf (.int .i64 ((i:Int)+1))<n-ixOf (.int .i64 (i:Int))
     simp only[ixOf];exact zz1
  ·have e1:¬(i:Int)<(n:Int):=by omega
   obtain rfl:n=i:=by omega
   have e:=Q.1.1;have et:l.take n=l:=by rw[HN.1];exact List.take_length
   rw[et]at e;have E:=Ab e;clear e;rw[et];go_wp2;go_ret;exact⟨_,rfl,_,E.1,Q.1.2.1,fun b hb=>Nat.le_of_lt (Q.1.2.2.1 b hb)⟩
end
theorem kb1{a b:Int}{l m:List Int}(h:List.Sublist (a :: l) (b :: m))(e:a≠b):List.Sublist (a :: l) m:=by
 cases h with
 |cons _ h=>exact h
 |cons_cons _ h=>exact absurd rfl e
theorem kb9{l m:List Int}{i j:Nat}(hi:i<l.length)(hj:j<m.length)(h:List.Sublist (l.drop i) (m.drop j)):(l[i]=m[j]->List.Sublist (l.drop (i+1)) (m.drop (j+1)))/\(l[i]≠m[j]->List.Sublist (l.drop i) (m.drop (j+1))):=by
 rw[List.drop_eq_getElem_cons hi,List.drop_eq_getElem_cons hj]at h;refine⟨fun e=>?_,fun e=>?_⟩
 ·rw[e]at h
  exact List.cons_sublist_cons.1 h
 ·rw[List.drop_eq_getElem_cons hi]
  exact kb1 h e
section
variable{w:World}
theorem k8o(v1 v2:Value)(l m:List Int)(g1 g2:Option Nat)(w:World)(R1:Row w v1 24 1 l.length (u32s l) g1)(R2:Row w v2 24 1 m.length (u32s m) g2)(h:List.Sublist l m)(hl:m.length<=10000) :
 Calls Tryz.prog 12 #[v1,v2] w fun e w'=>e=.returned (.bool true)/\Below w.heap.size w w':=by
 obtain⟨A1,k1,rfl,_⟩:=R1.size;obtain⟨A2,k2,rfl,_⟩:=R2.size;have HH:=Ab h;have hll:l.length<=m.length:=h.length_le;obtain⟨n1,hn1⟩:∃n,n=l.length:=⟨_,rfl⟩;obtain⟨n2,hn2⟩:∃n,n=m.length:=⟨_,rfl⟩;have HN:=Ac (n1=l.length/\n2=m.length) (⟨hn1,hn2⟩);have HR:=Ac (_/\_) (⟨R1,R2⟩);rw[<- hn1]at hll;rw[<- hn2]at hl hll;rw[<- hn1,<- hn2];clear R1 R2 hn1 hn2 h;go_enter Tryz.func12,Tryz.ntmps12;go_wp2
 go_loopw [5,6] (fun s5 s6 wr=>∃(i j:Nat),i<=n1/\j<=n2/\s5=.int .i64 i/\s6=.int .i64 j/\k07 (List.Sublist (l.drop i) (m.drop j)/\Below w.heap.size w wr)) (fun _ s6 _=>n2-ixOf s6)
 case atStart=>exact⟨0,0,Nat.zero_le _,Nat.zero_le _,rfl,rfl,⟨HH.1,Below.refl _ _⟩⟩
 case round=>
  obtain⟨i,j,hi,hj,rfl,rfl,Q⟩:=hrel;by_cases hlt:j<n2
  ·have e1:(j:Int)<(n2:Int):=by omega
   by_cases hit:i<n1
   ·have e2:(i:Int)<(n1:Int):=by omega
    obtain⟨b1,f1,c1,_,hv1,_,_,hc1⟩:=(HR.1.1.below Q.1.2).open (by have:=HN.1.1;omega);obtain⟨b2,f2,c2,_,hv2,_,_,hc2⟩:=(HR.1.2.below Q.1.2).open (by have:=HN.1.2;omega);simp only[Value.slice.injEq]at hv1 hv2;obtain⟨rfl,_,rfl⟩:=hv1;obtain⟨rfl,_,rfl⟩:=hv2;have hil:i<l.length:=by have:=HN.1.1;omega
    have hjl:j<m.length:=by have:=HN.1.2;omega
    have hst:=kb9 hil hjl Q.1.1;have p1:=(hc1 i (by simp[u32s];omega)).trans (show(u32s l)[i]? = some (.int .u32 l[i]) by simp[u32s,hil]);have p2:=(hc2 j (by simp[u32s];omega)).trans (show(u32s m)[j]? = some (.int .u32 m[j]) by simp[u32s,hjl]);obtain⟨a,ha⟩:∃a,a=l[i]:=⟨_,rfl⟩;obtain⟨c,hcc⟩:∃c,c=m[j]:=⟨_,rfl⟩;rw[<- ha]at p1 hst;rw[<- hcc]at p2 hst;have HS:=Sat.mk (S:=fun(W:World)=>W.cell? ⟨b1,f1+i,none⟩=some (.int .u32 a)/\W.cell? ⟨b2,f2+j,none⟩=some (.int .u32 c)) (w:=wr) (⟨p1,p2⟩);have HT:=Ab hst;clear hc1 hc2 p1 p2 hst ha hcc hil hjl;by_cases hac:a=c
    ·subst hac
     go_wp2_with fail
     refine WpL.region (fun(W:World)=>W.cell? ⟨b1,f1+i,none⟩=some (.int .u32 a)/\W.cell? ⟨b2,f2+j,none⟩=some (.int .u32 a)) 99 zz2 ?_;refine WpL.E 0 HS.1 ?_;refine WpL.E 1 HS.1 ?_;refine WpL.E 2 HS.1 ?_;refine WpL.E 3 HS.1 ?_;refine WpL.E 4 HS.1 ?_;refine WpL.E 5 HS.1 ?_;refine WpL.E 6 HS.1 ?_;refine WpL.E 7 HS.1 ?_;refine WpL.E 8 HS.1 ?_;refine WpL.E 9 HS.1 ?_;refine WpL.E 10 HS.1 ?_;refine WpL.E 11 HS.1 ?_;refine WpL.E 12 HS.1 ?_;refine WpL.E 13 HS.1 ?_;refine WpL.E 14 HS.1 ?_;refine WpL.done zz2 ?_ _;go_wp2;refine⟨⟨i+1,j+1,zz1,zz1,rfl,rfl,⟨HT.1.1 trivial,Q.1.2.drew⟩⟩,?_⟩;exact zz60
    ·have e3:(a == c)=false:=by simpa using hac
     have HA:=Ab hac;clear hac
     go_wp2_with fail
     refine WpL.region (fun(W:World)=>W.cell? ⟨b1,f1+i,none⟩=some (.int .u32 a)/\W.cell? ⟨b2,f2+j,none⟩=some (.int .u32 c)) 99 zz2 ?_;refine WpL.E 0 HS.1 ?_;refine WpL.E 1 HS.1 ?_;refine WpL.E 2 HS.1 ?_;refine WpL.E 3 HS.1 ?_;refine WpL.E 4 HS.1 ?_;refine WpL.E 5 HS.1 ?_;refine WpL.E 6 HS.1 ?_;refine WpL.E 7 HS.1 ?_;refine WpL.E 8 HS.1 ?_;refine WpL.E 9 HS.1 ?_;refine WpL.E 10 HS.1 ?_;refine WpL.E 11 HS.1 ?_;refine WpL.E 12 HS.1 ?_;refine WpL.E 13 HS.1 ?_;refine WpL.E 14 HS.1 ?_;refine WpL.done zz2 ?_ _;go_wp2;refine⟨⟨i,j+1,zz1,zz1,rfl,rfl,⟨HT.1.2 HA.1,Q.1.2.drew⟩⟩,?_⟩;exact zz60
   ·have e2:¬(i:Int)<(n1:Int):=by omega
    go_wp2_with fail
    refine WpL.region (fun(_:World)=>True) 99 zz2 ?_;refine WpL.E 0 trivial ?_;refine WpL.E 1 trivial ?_;refine WpL.E 2 trivial ?_;refine WpL.E 3 trivial ?_;refine WpL.E 4 trivial ?_;refine WpL.E 5 trivial ?_;refine WpL.E 6 trivial ?_;refine WpL.E 7 trivial ?_;refine WpL.E 8 trivial ?_;refine WpL.E 9 trivial ?_;refine WpL.E 10 trivial ?_;refine WpL.E 11 trivial ?_;refine WpL.E 12 trivial ?_;refine WpL.E 13 trivial ?_;refine WpL.E 14 trivial ?_;refine WpL.done zz2 ?_ _;have hsub:List.Sublist (l.drop i) (m.drop (j+1)):=by
     rw[List.drop_eq_nil_of_le (show l.length<=i by have:=HN.1.1;omega)];exact List.nil_sublist _
    have HU:=Ab hsub;clear hsub;go_wp2;refine⟨⟨i,j+1,zz1,zz1,rfl,rfl,⟨HU.1,Q.1.2.drew⟩⟩,?_⟩;exact zz60
  ·have e1:¬(j:Int)<(n2:Int):=by omega
   have hin:i=n1:=by
    have h:=Q.1.1;rw[List.drop_eq_nil_of_le (show m.length<=j by have:=HN.1.2;omega)]at h;have:=h.length_le;rw[List.length_drop]at this;have:=HN.1.1;simp at *;exact zz1
   subst hin;go_wp2;go_ret;exact⟨rfl,Q.1.2⟩
end
end Go.Proofs.YtdopmlopafgonaaGreatDoor.Own
