/- TopOrder: of each flow what came is some of what was injected, in its order (a part of the walks and of the plain laws). -/
import Derived.Test.YtdopmlopafgonaaGreatDoorD0
import Derived.Test.YtdopmlopafgonaaGreatDoorD9
import Derived.LoopIn
import Derived.LoopNIn
import Derived.OwnWalkIn
import Derived.RangeFuncBound
import Derived.RangeFuncCalls
import Derived.RangeFuncLeaves
import Derived.RangeFuncNested
import Derived.Shelf.RegionOpen
import Derived.TacticsInMore
set_option linter.unusedVariables false
set_option linter.unusedSimpArgs false
set_option maxHeartbeats 4000000
set_option maxRecDepth 100000
namespace Go.Proofs.YtdopmlopafgonaaGreatDoor.Own
open Go.RowKit Go.Proofs.YtdopmlopafgonaaGreatDoorW.PrintWords Go.Proofs.YtdopmlopafgonaaGreatDoorW.PrintLast Go.Proofs.YtdopmlopafgonaaGreatDoorW.PrintMore
attribute [local go_sem] Oper.semAt_some
def tabL:List Int:=[0,1,28,2,29,14,24,3,30,22,20,15,25,17,4,8,31,27,13,23,21,19,16,7,26,12,18,6,11,5,10,9]
def Tab(w:World):Prop:=∀k,k<32->w.cell? ⟨0,k,none⟩=some (.int .u8 (tabL.getD k 0))
theorem Tab.only{P:Nat->Prop}{w w':World}(h:Tab w)(k:Only P w w')(hp:¬P 0):Tab w':=fun j hj=>k.cell (h j hj) hp
theorem Tab.tr{S:Col->Prop}{o o':Nat->Col}{w w':World}(h:Tab w)(t:Tr S o w o' w')(hp:¬S (o 0)):Tab w':=h.only t.only hp
theorem Tab.below{w w':World}(h:Tab w)(k:Below w.heap.size w w'):Tab w':=h.only (Only.of_below (P:=fun _=>False) k) (fun x=>x)
theorem Tab.drew{w:World}(h:Tab w):Tab w.drew:=h
theorem Tab.lt{w:World}(h:Tab w):0<w.heap.size:=World.block_lt_of_cell? w _ (h 0 zz7)
def tz(m:Nat):Nat:=((List.range 6).find? (fun k=>m.testBit k)).getD 16
def clr(m:Nat):Nat:=m &&& (m-1)
def tzAt(x:Int):Nat:=(bits BinOp.and IntKind.u16 x (IntKind.u16.wrap (-x)) % 4294967296*125613361 % 4294967296 / 134217728).toNat
theorem tz_at:∀m:Fin 64,0<m.1->tzAt (m.1:Int)<32/\tabL.getD (tzAt (m.1:Int)) 0=(tz m.1:Nat):=by decide
theorem kbM:∀m:Fin 64,0<m.1->bits BinOp.and IntKind.u16 (m.1:Int) ((m.1:Int)-1)=(clr m.1:Nat)/\clr m.1<m.1:=by decide
theorem kdp:∀m:Fin 64,0<m.1->tz m.1<6/\m.1.testBit (tz m.1)=true:=by decide
theorem kbU:∀k:Fin 32,IntKind.i64.wrap (tabL.getD k.1 0)=tabL.getD k.1 0:=by decide
theorem kaG(m:Nat)(w:World)(h0:0<m)(h1:m<64)(hT:Tab w) :
 Calls Tryz.prog 170 #[.int .u16 m] w fun e w'=>e=.returned (.int .i64 (tz m:Nat))/\w'=w:=by
 have hx:((m:Int) == 0)=false:=beq_eq_false_iff_ne.mpr zz1;obtain⟨f1,f2⟩:=tz_at ⟨m,h1⟩ h0;have f3:=kbU ⟨tzAt (m:Int),f1⟩;have hc:=hT _ f1;simp only at f1 f2 f3 hc;rw[f2]at hc f3;unfold tzAt at hc;clear hT;go_enter Tryz.func170,Tryz.ntmps170;exact zz16
theorem kbh(n l b:Nat)(hn:1<=n)(J K:Nat->World->Prop)(Jx:World->Prop)
 (hJ:∀m W,J m W->W.heap[b]? = some (.cells #[.int .u16 m] 23 (0,0))/\Tab W)
 (hK:∀m W,K m W->W.heap[b]? = some (.cells #[.int .u16 m] 23 (0,0)))
 (hY:∀m W,J m W->0<m->m<64->YieldAt Fence.wide (n-1) Tryz.prog l #[.int .i64 (tz m:Nat)] W fun e W'=>
   (e=.returned (.bool true)/\K m W')\/(e=.returned (.bool false)/\Jx W'))
 (hS:∀m W,K m W->0<m->m<64->J (clr m) (W.setCell ⟨b,0,none⟩ (.int .u16 (clr m:Nat))))
 (m:Nat) (W:World) (h0:J m W) (hm:m<64) :
 CallsIn Fence.wide n Tryz.prog 169 #[.func (.yield l) #[] #[],.pointer (some ⟨b,0,none⟩)] W fun e W'=>(∃v,e=.returned v)/\(J 0 W'\/Jx W'):=by
 refine callsIn_of_wp Tryz.func169 rfl trivial ?_ rfl;simp only[Tryz.ntmps169,List.size_toArray,List.length_cons,List.length_nil,Nat.reduceAdd,Nat.reduceSub,Array.replicate_succ,Array.replicate_zero,List.push_toArray,List.append_toArray,List.nil_append,List.cons_append]
 gi_wp2
 gi_loopw [] (fun wr=>∃m:Nat,m<64/\J m wr) (fun wr=>match wr.cell? ⟨b,0,none⟩ with|some (.int _ k)=>k.toNat|_=>0)
 case atStart=>exact⟨m,hm,h0⟩
 case round=>
  obtain⟨m,hm,hj⟩:=hrel;obtain⟨hb,hT⟩:=hJ m _ hj;have hc:=k00 hb 0;have hf:=k02 hb 0;simp only[List.getElem?_toArray,List.getElem?_cons_zero]at hc;by_cases h00:m=0
  ·subst h00
   gi_wp2
   go_end0;exact⟨⟨_,rfl⟩,.inl hj⟩
  ·have hx:((m:Int) != 0)=true:=by simp;exact h00
   have hcl:=kbM ⟨m,hm⟩ (by show 0<m;omega);obtain⟨fn,tmps,assign,body,hy,hR⟩:=hY m wr hj zz1 hm
   gi_wp2_with (refine⟨trivial,?_⟩;gi_at_call 170;refine(callsIn_wide.2 (kaG m wr zz1 hm hT)).mono ?_;rintro e w' ⟨rfl,rfl⟩)
   refine hR.mono ?_;rintro e W3 (⟨rfl,hk⟩|⟨rfl,hjx⟩)
   ·have hb3:=hK m _ hk
    have hc3:=k00 hb3 0;have hf3:=k02 hb3 0;simp only[List.getElem?_toArray,List.getElem?_cons_zero]at hc3
    gi_wp2
    go_roundw
    case rel=>exact⟨clr m,by have:=hcl.2;omega,hS m _ hk zz1 hm⟩
    case measure=>
     rw[World.cell?_setCell_same' _ _ _ (by rw[hc3];rfl),hc];have:=hcl.2;exact zz39
   ·gi_wp2
    refine bodyPost_ret (results_none rfl _ _ _) rfl ?_;exact⟨⟨_,rfl⟩,.inr hjx⟩
theorem Only.put{P:Nat->Prop}{w W:World}(h:Only P w W){l:Nat}(hp:l<w.heap.size->P l)(x:Obj):Only P w (W.putObj l x):=
 h.then (Q:=fun b=>b=l) ⟨rfl,rfl,rfl,zz6,fun b _ hb=>World.putObj_heap_other hb⟩ (fun b hb e=>e▸hp (e▸hb))
theorem Tab.set{w:World}(h:Tab w){b:Nat}(hb:b≠0)(v:Value)(i:Nat):Tab (w.setCell ⟨b,i,none⟩ v):=
 fun k hk=>(World.cell?_of_block (Below.heap_setCell _ _ _ _ (Ne.symm hb))).trans (h k hk)
theorem Tab.put{w:World}(h:Tab w){l:Nat}(hb:l≠0)(x:Obj):Tab (w.putObj l x):=
 fun k hk=>(World.cell?_of_block (World.putObj_heap_other (Ne.symm hb))).trans (h k hk)
theorem Tab.alloc{w:World}(h:Tab w)(x:Obj):Tab (w.alloc x):=h.below ((Below.refl _ w).alloc (Nat.le_refl _) x)
def kc6(b:Nat)(I:Nat->World->Prop)(Ix:Code->World->Prop)(m:Nat)(W:World):Exit->Act->World->Prop
 |.normal,_,W'=>KeepsOthers W W'/\W'.heap[b]? = W.heap[b]? /\ Tab W'/\I (clr m) W'
 |.ret,_,W'=>KeepsOthers W W'/\Ix .ret W'
 |.exit id,_,W'=>KeepsOthers W W'/\Ix (.exit id) W'
 |.goto t,_,W'=>KeepsOthers W W'/\Ix (.goto t) W'
 |.panic _,_,_=>False
 |.outgrown,_,_=>False
theorem k3v{g:Operand}{p:Tmp}{assign body:Code}{Q:Exit->Act->World->Prop}{a:Act}{w:World}{n b m0:Nat}(hn:4<=n)
 (hg:a.eval g=.func (.func 169) #[] #[.pointer (some ⟨b,0,none⟩)])
 (hb:w.heap[b]? = some (.cells #[.int .u16 m0] 23 (0,0))) (hT:Tab w) (hb0:b≠0) (hm:m0<64)
 (I:Nat->World->Prop) (Ix:Code->World->Prop)
 (hI:∀m W W',I m W->Only (fun x=>x=b\/w.heap.size<=x) W W'->I m W') (hIx:∀c W W',Ix c W->Only (fun x=>x=b\/w.heap.size<=x) W W'->Ix c W')
 (h0:I m0 w) (a₁ : Nat->Act)
 (hassign:∀(l:Nat)(m:Nat)(W:World)(K:Act->World->Prop),K (a₁ m) W ->
   assign.wpIn (Fence.wide.inRound l) (n-1-1) Tryz.prog (Exit.then K (fun _ _ _=>False)) { tmps:=((#[p]:Array Tmp).zip #[Value.int .i64 (tz m:Nat)]).foldl (fun t (p,v)=>t.setIfInBounds p v) a.tmps,defers:=[] } W)
 (hbody:∀(l:Nat)(m:Nat)(W:World),I m W->0<m->m<64->Tab W->w.heap.size<=W.heap.size->body.wpIn (Fence.wide.inRound l) (n-1-1) Tryz.prog (kc6 b I Ix m W) (a₁ m) W)
 (hdone:∀(D:Nat)(W:World),w.heap.size<=D->I 0 W->Tab W->W.heap[D]? = some (.deferred (some []))->Q .normal { a with defers:={ target:=.collected D,args:=#[] } :: a.defers } W)
 (hstop:∀(D:Nat)(c:Code)(W:World),w.heap.size<=D->Ix c W->W.heap[D]? = some (.deferred (some []))->c.wpIn Fence.wide n Tryz.prog Q { a with defers:={ target:=.collected D,args:=#[] } :: a.defers } W) :
 (Code.rangeFunc g #[p] assign body).wpIn Fence.wide n Tryz.prog Q a w:=by
 refine wpIn_rangeFunc ?_;intro fn hfn;have hbl:=k03 hb;obtain⟨rec,hrec⟩:∃rec:LoopState->Option Code->Loop,rec=fun st pe=>{ state:=st,pending:=pe,fn,tmps:=a.tmps,params:=#[p],assign,body,defers:=w.heap.size }:=⟨_,rfl⟩
 obtain⟨W1,hW1⟩:∃W1,(w.alloc (.deferred (some []))).alloc (.loop (rec .ready none))=W1:=⟨_,rfl⟩;have hL1:W1.heap[w.heap.size+1]? = some (.loop (rec .ready none)):=by
  rw[<- hW1];have:=World.alloc_heap_new (w.alloc (.deferred (some []))) (.loop (rec .ready none));rwa [World.size_alloc]at this
 have hK1:W1.heap[w.heap.size]? = some (.deferred (some [])):=by
  rw[<- hW1];exact(Below.heap_alloc _ _ _ zz6).trans (World.alloc_heap_new w _)
 have hO1:Only (fun x=>x=b\/w.heap.size<=x) w W1:=by rw[<- hW1];exact((Only.refl _ w).alloc _).alloc _
 have hs1:W1.heap.size=w.heap.size+2:=by rw[<- hW1];simp
 have hB1:Below w.heap.size w W1:=by rw[<- hW1];exact(((Below.refl _ w).alloc (Nat.le_refl _) _).alloc zz6 _)
 refine⟨w.heap.size+1,[{ target:=.collected w.heap.size,args:=#[] }],W1,{ target:=.fn (.func 169) #[.pointer (some ⟨b,0,none⟩)],args:=#[.func (.yield (w.heap.size+1)) #[] #[]] },W1,169,
  #[.func (.yield (w.heap.size+1)) #[] #[],.pointer (some ⟨b,0,none⟩)],W1,?_,?_,?_,?_,fun _=>by omega,?_⟩
 ·rw[<- hW1,hrec];exact run_enterLoop_outer _ _ _ _ _
 ·simp only[resolve,hg]
  simp[go_sem]
 ·intro f' hf';trivial
 ·have eg:=enters_of (P:=Tryz.prog) Tryz.func169 zz2 rfl
  simp[invoke,go_sem,eg]
 ·refine(kbh (n-1) (w.heap.size+1) b zz1
   (fun m W=>I m W/\(W.heap[w.heap.size+1]? = some (.loop (rec .ready none))/\W.heap[w.heap.size]? = some (.deferred (some [])))/\W.heap[b]? = some (.cells #[.int .u16 m] 23 (0,0))/\Tab W)
   (fun m W=>I (clr m) W/\(W.heap[w.heap.size+1]? = some (.loop (rec .ready none))/\W.heap[w.heap.size]? = some (.deferred (some [])))/\W.heap[b]? = some (.cells #[.int .u16 m] 23 (0,0))/\Tab W)
   (fun W=>∃c,Ix c W/\(W.heap[w.heap.size+1]? = some (.loop (rec .done (some c)))/\W.heap[w.heap.size]? = some (.deferred (some []))))
   (fun m W h=>h.2.2) (fun m W h=>h.2.2.1) ?_ ?_ m0 W1 (by exact⟨hI _ _ _ h0 hO1,⟨hL1,hK1⟩,(hB1.block b hbl).trans hb,hT.below hB1⟩) hm).mono ?_
  ·
   rintro m W ⟨hi,⟨hl,hk⟩,hbb,hTT⟩ hm0 hm1;have hlt:=k03 hl;have hy:=run_yield (P:=Tryz.prog) (args:=#[.int .i64 (tz m:Nat)]) hl (by rw[hrec];rfl);rw[hrec]at hy;have ho2:Only (fun x=>x=b\/w.heap.size<=x) W (W.putObj (w.heap.size+1) (.loop { rec .ready none with state:=.busy })):=(Only.refl _ W).put (fun _=>.inr zz1) _;have hl2:(W.putObj (w.heap.size+1) (.loop { rec .ready none with state:=.busy })).heap[w.heap.size+1]? = some (.loop { rec .ready none with state:=.busy }):=World.putObj_heap_same hlt;have hk2:(W.putObj (w.heap.size+1) (.loop { rec .ready none with state:=.busy })).heap[w.heap.size]? = some (.deferred (some [])):=(World.putObj_heap_other zz1).trans hk;have hb2:(W.putObj (w.heap.size+1) (.loop { rec .ready none with state:=.busy })).heap[b]? = some (.cells #[.int .u16 m] 23 (0,0)):=(World.putObj_heap_other zz1).trans hbb;refine⟨fn,_,assign,body,hy,?_⟩;refine roundIn_of_wpIn trivial ?_;refine hassign _ m W _ ?_;refine⟨_,run_beginRound hl (by rw[hrec]),?_⟩;refine wpIn_mono (hbody _ m _ (hI _ _ _ hi ho2) hm0 hm1 (hTT.put zz1 _) zz20) ?_;have fin:∀(jump:Option Code)(W3:World),KeepsOthers (W.putObj (w.heap.size+1) (.loop { rec .ready none with state:=.busy })) W3 ->
    (Instr.endRound (w.heap.size+1) jump).run Tryz.prog W3=.ok (.bool jump.isNone) (W3.putObj (w.heap.size+1) (.loop (rec (if jump.isNone then .ready else .done) jump))) /\
    W3.heap[w.heap.size+1]? = some (.loop { rec .ready none with state:=.busy }) /\
    (W3.putObj (w.heap.size+1) (.loop (rec (if jump.isNone then .ready else .done) jump))).heap[w.heap.size+1]? = some (.loop (rec (if jump.isNone then .ready else .done) jump)) /\
    (W3.putObj (w.heap.size+1) (.loop (rec (if jump.isNone then .ready else .done) jump))).heap[w.heap.size]? = some (.deferred (some [])) /\
    Only (fun x=>x=b\/w.heap.size<=x) W3 (W3.putObj (w.heap.size+1) (.loop (rec (if jump.isNone then .ready else .done) jump))):=fun jump W3 hk3=>by
    have hl3:=hk3.same _ _ hl2 rfl;have:=run_endRound (P:=Tryz.prog) jump hl3;rw[hrec]at this ⊢;exact⟨this,by rw[hrec]at hl3;exact hl3,World.putObj_heap_same (Array.getElem?_eq_some_iff.1 hl3).1,(World.putObj_heap_other zz1).trans (hk3.same _ _ hk2 rfl),(Only.refl _ W3).put (fun _=>.inr zz1) _⟩
   rintro e a3 W3 hp;cases e with
   |normal=>
    obtain⟨hk3,hbk,hT3,hi3⟩:=hp;obtain⟨hr,hl3,hl4,hk4,ho4⟩:=fin none W3 hk3;exact⟨_,_,hr,.inl ⟨rfl,hI _ _ _ hi3 ho4,⟨hl4,hk4⟩,(World.putObj_heap_other zz1).trans (hbk.trans hb2),hT3.put zz1 _⟩⟩
   |ret=>
    obtain⟨hk3,hi3⟩:=hp;obtain⟨hr,hl3,hl4,hk4,ho4⟩:=fin (some .ret) W3 hk3;exact⟨_,_,hr,.inr ⟨rfl,.ret,hIx _ _ _ hi3 ho4,hl4,hk4⟩⟩
   |exit id=>
    obtain⟨hk3,hi3⟩:=hp;obtain⟨hr,hl3,hl4,hk4,ho4⟩:=fin (some (.exit id)) W3 hk3;exact⟨_,_,hr,.inr ⟨rfl,.exit id,hIx _ _ _ hi3 ho4,hl4,hk4⟩⟩
   |goto t=>
    obtain⟨hk3,hi3⟩:=hp;obtain⟨hr,hl3,hl4,hk4,ho4⟩:=fin (some (.goto t)) W3 hk3;exact⟨_,_,hr,.inr ⟨rfl,.goto t,hIx _ _ _ hi3 ho4,hl4,hk4⟩⟩
   |panic ch=>exact hp.elim
   |outgrown=>exact hp.elim
  ·rintro m W ⟨hi,⟨hl,hk⟩,hbb,hTT⟩ hm0 hm1
   refine⟨hI _ _ _ hi ((Only.refl _ W).set (fun _=>.inl rfl) _),⟨(Below.heap_setCell _ _ _ _ (show _≠b by omega)).trans hl,(Below.heap_setCell _ _ _ _ (show _≠b by omega)).trans hk⟩,?_,hTT.set hb0 _ _⟩;have:=k05 hbb 0 (Value.int .u16 (clr m:Nat));exact zz39
  ·rintro e W2 ⟨⟨v,rfl⟩,(⟨hi,⟨hl,hk⟩,hbb,hTT⟩|⟨c,hi,hl,hk⟩)⟩
   ·exact⟨none,_,by have:=run_endLoop (P:=Tryz.prog) hl (by rw[hrec];simp);rw[hrec]at this;exact this,hdone _ _ (Nat.le_refl _) (hI _ _ _ hi ((Only.refl _ _).put (fun _=>.inr zz1) _)) (hTT.put zz1 _) ((World.putObj_heap_other zz1).trans hk)⟩
   ·exact⟨some c,_,by have:=run_endLoop (P:=Tryz.prog) hl (by rw[hrec];simp);rw[hrec]at this;exact this,hstop _ c _ (Nat.le_refl _) (hIx _ _ _ hi ((Only.refl _ _).put (fun _=>.inr zz1) _)) ((World.putObj_heap_other zz1).trans hk)⟩
end Go.Proofs.YtdopmlopafgonaaGreatDoor.Own
namespace Go.Proofs.YtdopmlopafgonaaGreatDoor.Own
open Go.RowKit Go.Proofs.YtdopmlopafgonaaGreatDoorW.PrintWords Go.Proofs.YtdopmlopafgonaaGreatDoorW.PrintLast Go.Proofs.YtdopmlopafgonaaGreatDoorW.PrintMore
attribute [local go_sem] Oper.semAt_some
def low(m k:Nat):Nat:=m % 2 ^ k
def hi(m k:Nat):Nat:=m-low m k
theorem kd1:∀m:Fin 64,∀n:Fin 7,bits BinOp.and IntKind.u16 (m.1:Int) (IntKind.u16.wrap (IntKind.u16.wrap (2 ^ n.1)-1))=(low m.1 n.1:Nat):=by decide
theorem hi_at:∀m:Fin 64,∀n:Fin 7,bits BinOp.andNot IntKind.u16 (m.1:Int) (low m.1 n.1:Nat)=(hi m.1 n.1:Nat):=by decide
theorem k7S{m k:Nat}(h:m<64):low m k<64:=Nat.lt_of_le_of_lt (Nat.mod_le _ _) h
theorem kdv{m k:Nat}(h:m<64):hi m k<64:=by unfold hi;omega
theorem k4m(m n:Nat)(w:World)(h1:m<64)(hn:n<7) :
 Calls Tryz.prog 149 #[.int .u16 m,.int .i64 n] w fun e w'=>e=.returned (.int .u16 (low m n:Nat))/\w'=w:=by
 have f:=kd1 ⟨m,h1⟩ ⟨n,hn⟩;simp only at f;go_enter Tryz.func149,Tryz.ntmps149;exact zz16
theorem k3D(m:Nat)(w:World) :
 Calls Tryz.prog 148 #[.int .u16 m] w fun e w'=>e=.returned (.func (.func 169) #[] #[.pointer (some ⟨w.heap.size,0,none⟩)])/\w'=w.alloc (.cells #[.int .u16 m] 23):=by
 go_enter Tryz.func148,Tryz.ntmps148;exact zz16
theorem k2U{fn:Func}{p:Tmp}{x:Int}(h:fn.results=#[.cell p 3])(tmps:Array Value)(w:World)(g:Nat)
 (hp:tmps.getD p undef=.pointer (some ⟨g,0,none⟩)) (hg:w.heap[g]? = some (.cells #[.int .i64 x] 3 (0,0))) :
 (results fn tmps).run Tryz.prog w=.ok (.int .i64 x) w:=by
 have hp':tmps[p]?.getD undef=.pointer (some ⟨g,0,none⟩):=by simpa using hp
 have hc:=k00 hg 0;simp only[List.getElem?_toArray,List.getElem?_cons_zero]at hc;have hv:(loadVar 3 ⟨g,0,none⟩).run Tryz.prog w=.ok (.int .i64 x) w:=by
  go_simp
 simp[results,h,hp',asAddr,hv]
def pick(m i n:Nat):Int:=if hi (low m n) i≠0 then(tz (hi (low m n) i):Nat) else if low m n≠0 then(tz (low m n):Nat) else -1
theorem k2F(m i n:Nat)(w:World)(h1:m<64)(hn0:0<n)(hn:n<7)(hi0:i<n)(hT:Tab w) :
 Calls Tryz.prog 126 #[.int .u16 m,.int .i64 i,.int .i64 n] w fun e w'=>e=.returned (.int .i64 (pick m i n))/\Below w.heap.size w w':=by
 have t1:decide ((n:Int)<1)=false:=decide_eq_false zz1;have t2:decide ((16:Int)<n)=false:=decide_eq_false zz1;have t3:decide ((i:Int)<0)=false:=decide_eq_false zz1;have t4:decide ((n:Int)<=i)=false:=decide_eq_false zz1;have hm1:=k7S (k:=n) h1;have f:=hi_at ⟨low m n,hm1⟩ ⟨i,zz1⟩;simp only at f;refine(callsIn_wide (n:=9)).1 ?_;refine callsIn_of_wp_marks Tryz.func126 rfl trivial ?_ rfl;simp only[Tryz.ntmps126,List.size_toArray,List.length_cons,List.length_nil,Nat.reduceAdd,Nat.reduceSub,Array.replicate_succ,Array.replicate_zero,List.push_toArray,List.append_toArray,List.nil_append,List.cons_append]
 gi_wp2_with (refine⟨trivial,?_⟩;first
  |(gi_at_call 149;refine(callsIn_wide.2 (k4m _ _ _ zz1 zz1)).mono ?_;rintro e w' ⟨rfl,rfl⟩)
  |(gi_at_call 148;refine(callsIn_wide.2 (k3D _ _)).mono ?_;rintro e w' ⟨rfl,rfl⟩))
 obtain⟨M0,hM0⟩:∃M0,M0=hi (low m n) i:=⟨_,rfl⟩;have hM1:M0<64:=by rw[hM0];exact kdv hm1
 rw[<- hM0];have HM:=Ab hM0;clear hM0;refine' k3v (b:=w.heap.size+1) (m0:=M0) zz1 rfl (by have:=World.alloc_heap_new (w.alloc (.cells #[.int .i64 0] 3)) (.cells #[.int .u16 M0] 23);rwa [World.size_alloc]at this) ((hT.alloc _).alloc _) zz1 hM1
  (fun mm W=>M0=mm/\W.heap[w.heap.size]? = some (.cells #[.int .i64 0] 3)/\Only (fun x=>w.heap.size<=x) w W)
  (fun c W=>c=.ret/\M0≠0/\W.heap[w.heap.size]? = some (.cells #[.int .i64 (tz M0:Nat)] 3)/\Only (fun x=>w.heap.size<=x) w W)
  ?hI ?hIx ?h0 _ ?assign ?body ?done ?stop
 case hI=>
  rintro mm W W' ⟨rfl,h,ho⟩ k;refine⟨rfl,(k.same (k03 h) zz20).trans h,ho.then k ?_⟩;exact zz89
 case hIx=>
  rintro c W W' ⟨rfl,h0,h,ho⟩ k;refine⟨rfl,h0,(k.same (k03 h) zz20).trans h,ho.then k ?_⟩;exact zz89
 case h0=>exact⟨rfl,(Below.heap_alloc _ _ _ zz6).trans (World.alloc_heap_new w _),((Only.refl _ w).alloc _).alloc _⟩
 case assign=>
  intro l m W K hK
  gi_wp2
  exact hK
 case body=>
  rintro l mm W ⟨rfl,h,ho⟩ hm0 hm1 hTT _;have hc:=k00 h 0;have hf:=k02 h 0;simp only[List.getElem?_toArray,List.getElem?_cons_zero]at hc
  gi_wp2
  refine⟨KeepsOthers.setCell _ _ _,rfl,zz1,?_,ho.set (fun _=>Nat.le_refl _) _⟩;have:=k05 h 0 (Value.int .i64 (tz M0:Nat));exact zz39
 case stop=>
  rintro D c W hD ⟨rfl,h0,h,ho⟩ hK
  gi_wp2
  refine⟨zz6,.inl ⟨_,_,rfl,run_takeDeferred hK,?_⟩⟩;have hs:w.heap.size≠D:=by simp at hD;omega
  have hb:=(World.putObj_heap_other (w:=W) (o:=.deferred none) hs).trans h;refine⟨_,k2U rfl _ _ w.heap.size rfl hb,?_,?_⟩
  ·have:=HM.1
   unfold pick;rw[<- this,if_pos h0]
  ·exact(ho.put (fun h=>by simp at hD;omega) _).toBelow (fun b hb=>by omega)
 case done=>
  rintro D W hD ⟨h0,h,ho⟩ hTT hK;have hsW:=ho.size;have hDl:=k03 hK
  gi_wp2_with (refine⟨trivial,?_⟩;(gi_at_call 148;refine(callsIn_wide.2 (k3D _ _)).mono ?_;rintro e w' ⟨rfl,rfl⟩))
  have hwD:w.heap.size+2<=D:=by simpa using hD
  clear hD;refine' k3v (b:=W.heap.size) (m0:=low m n) zz1 rfl (World.alloc_heap_new W _) (hTT.alloc _) (by have:=hT.lt;omega) hm1
   (fun mm W'=>low m n=mm/\(W'.heap[w.heap.size]? = some (.cells #[.int .i64 0] 3)/\W'.heap[D]? = some (.deferred (some [])))/\Only (fun x=>w.heap.size<=x) w W')
   (fun c W'=>c=.ret/\low m n≠0/\(W'.heap[w.heap.size]? = some (.cells #[.int .i64 (tz (low m n):Nat)] 3)/\W'.heap[D]? = some (.deferred (some [])))/\Only (fun x=>w.heap.size<=x) w W')
   ?hI ?hIx ?h0 _ ?assign ?body ?done ?stop
  case hI=>
   rintro mm V V' ⟨hmm,⟨h,hd⟩,ho⟩ k;refine⟨hmm,⟨(k.same (k03 h) zz20).trans h,(k.same (k03 hd) zz20).trans hd⟩,ho.then k ?_⟩;exact zz89
  case hIx=>
   rintro c V V' ⟨rfl,h0,⟨h,hd⟩,ho⟩ k;refine⟨rfl,h0,⟨(k.same (k03 h) zz20).trans h,(k.same (k03 hd) zz20).trans hd⟩,ho.then k ?_⟩;exact zz89
  case h0=>exact⟨rfl,⟨(Below.heap_alloc _ _ _ (k03 h)).trans h,(Below.heap_alloc _ _ _ hDl).trans hK⟩,ho.alloc _⟩
  case assign=>
   intro l m W K hK
   gi_wp2
   exact hK
  case body=>
   rintro l mm V ⟨hmm,⟨h,hd⟩,ho⟩ hm0 hm1 hTT _;have hc:=k00 h 0;have hf:=k02 h 0;simp only[List.getElem?_toArray,List.getElem?_cons_zero]at hc;clear f
   gi_wp2
   have:=k05 h 0 (Value.int .i64 (tz mm:Nat));rw[hmm];refine⟨KeepsOthers.setCell _ _ _,rfl,zz1,⟨zz39,(Below.heap_setCell _ _ _ _ (show D≠w.heap.size by omega)).trans hd⟩,ho.set (fun _=>Nat.le_refl _) _⟩
  case stop=>
   rintro D' c V hD' ⟨rfl,hl0,⟨h,hd⟩,ho⟩ hK'
   gi_wp2
   have hD2:W.heap.size+1<=D':=by simpa using hD'
   refine⟨zz6,.inl ⟨_,_,rfl,run_takeDeferred hK',?_⟩⟩;have hd2:=(World.putObj_heap_other (w:=V) (o:=.deferred none) (show D≠D' by omega)).trans hd;refine⟨zz6,.inl ⟨_,_,rfl,run_takeDeferred hd2,?_⟩⟩;have hb:=(World.putObj_heap_other (w:=V.putObj D' (.deferred none)) (o:=.deferred none) (show w.heap.size≠D by omega)).trans ((World.putObj_heap_other (w:=V) (o:=.deferred none) (show w.heap.size≠D' by omega)).trans h);refine⟨_,k2U rfl _ _ w.heap.size rfl hb,?_,?_⟩
   ·have:=HM.1
    unfold pick;rw[<- this,if_neg zz1,if_pos hl0]
   ·exact((ho.put (fun h=>by omega) _).put (fun h=>by omega) _).toBelow (fun b hb=>by omega)
  case done=>
   rintro D' V hD' ⟨hl0,⟨h,hd⟩,ho⟩ hTT' hK';have hD2:W.heap.size+1<=D':=by simpa using hD'
   have hc:=k00 h 0;have hf:=k02 h 0;simp only[List.getElem?_toArray,List.getElem?_cons_zero]at hc
   gi_wp2
   have h2:=k05 h 0 (Value.int .i64 (-1));have hK2:=(Below.heap_setCell V ⟨w.heap.size,0,none⟩ (.int .i64 (-1)) _ (show D'≠w.heap.size by omega)).trans hK';have hd1:=(Below.heap_setCell V ⟨w.heap.size,0,none⟩ (.int .i64 (-1)) _ (show D≠w.heap.size by omega)).trans hd;refine⟨zz6,.inl ⟨_,_,rfl,run_takeDeferred hK2,?_⟩⟩;have hd2:=(World.putObj_heap_other (w:=V.setCell ⟨w.heap.size,0,none⟩ (.int .i64 (-1))) (o:=.deferred none) (show D≠D' by omega)).trans hd1;refine⟨zz6,.inl ⟨_,_,rfl,run_takeDeferred hd2,?_⟩⟩;have hb:=(World.putObj_heap_other (w:=(V.setCell ⟨w.heap.size,0,none⟩ (.int .i64 (-1))).putObj D' (.deferred none)) (o:=.deferred none) (show w.heap.size≠D by omega)).trans ((World.putObj_heap_other (w:=V.setCell ⟨w.heap.size,0,none⟩ (.int .i64 (-1))) (o:=.deferred none) (show w.heap.size≠D' by omega)).trans h2);refine⟨_,k2U (x:=-1) rfl _ _ w.heap.size rfl (by simpa using hb),?_,?_⟩
   ·have:=HM.1
    unfold pick;rw[<- this,if_neg zz1,if_neg zz1]
   ·exact(((ho.set (fun _=>Nat.le_refl _) _).put (fun h=>by omega) _).put (fun h=>by omega) _).toBelow (fun b hb=>by omega)
end Go.Proofs.YtdopmlopafgonaaGreatDoor.Own
