/- TopOrder: of each flow what came is some of what was injected, in its order (a part of the walks and of the plain laws). -/
import Derived.Test.YtdopmlopafgonaaGreatDoorD0
import Derived.Test.YtdopmlopafgonaaGreatDoorD16
import Derived.Test.YtdopmlopafgonaaGreatDoorD18
import Derived.Laws.CopyRow
set_option linter.unusedVariables false
set_option linter.unusedSimpArgs false
set_option maxHeartbeats 4000000
set_option maxRecDepth 100000
namespace Go.Proofs.YtdopmlopafgonaaGreatDoor.Own
open Go.RowKit Go.Proofs.YtdopmlopafgonaaGreatDoorW.PrintWords Go.Proofs.YtdopmlopafgonaaGreatDoorW.PrintLast Go.Proofs.YtdopmlopafgonaaGreatDoorW.PrintMore
theorem k7y(n:Nat)(w:World)(hn:n<7) :
 Calls Tryz.prog 168 #[.int .u64 1,.int .u64 n] w fun e w'=>e=.returned (.tuple #[.int .u64 0,.int .u64 n])/\w'=w:=by
 have h:n=0\/n=1\/n=2\/n=3\/n=4\/n=5\/n=6:=zz1
 go_enter Tryz.func168,Tryz.ntmps168;rcases h with rfl|rfl|rfl|rfl|rfl|rfl|rfl
 all_goals go_wp2
 all_goals go_ret2
 all_goals exact⟨rfl,rfl⟩
theorem k9D(n:Nat)(w:World)(hn:n<7) :
 Calls Tryz.prog 147 #[.int .u64 1,.int .u64 n] w fun e w'=>e=.returned (.tuple #[.int .u64 0,.int .u64 n])/\w'=w:=by
 have c:=k7y n w hn;go_enter Tryz.func147,Tryz.ntmps147
 go_wp2_with(go_at_call 168;refine c.mono ?_;rintro e w' ⟨rfl,rfl⟩)
 go_ret2
 exact⟨rfl,rfl⟩
theorem k2b{w:World}{g:Nat}{cur cs:Array Value}{t:TypeId}{fr:Nat×Nat}(h:w.heap[g]? = some (.cells cur t fr)):(w.setRow g cs).heap[g]? = some (.cells cs t fr):=by
 obtain⟨hl,hv⟩:=Array.getElem?_eq_some_iff.1 h;unfold World.setRow;simp[Array.getElem?_modify,h]
theorem add7:∀k m:Fin 7,IntKind.i64.wrap ((k.1:Int)+(m.1:Int))=((k.1+m.1:Nat):Int):=by decide
def Negs(w:World)(A n k:Nat):Prop:=∃cur,w.heap[A]? = some (.cells cur 3 (0,0))/\cur.size=n/\∀j,j<k->cur[j]? = some (Value.int .i64 (-1))
theorem k6F{W:World}{A n k m dl dc sl sc:Nat}{ad:Addr}(h:Negs W A n k)(hsrc:∀j,j<m->W.cell? (ad.add j)=some (.int .i64 (-1)))(hm:m=Nat.min sl dl)(hk:k+m<=n) :
 ∃W',(Builtin.copy_ #[29,29] 3 #[.slice (some ⟨A,k,none⟩) dl dc,.slice (some ad) sl sc]).run Tryz.prog W=.ok (.int .i64 m) W'/\Negs W' A n (k+m)/\Only (fun x=>x=A) W W'/\W'.heap.size=W.heap.size:=by
 obtain⟨cur,h1,h2,h3⟩:=h;have hr:=run_copy_row (P:=Tryz.prog) W 29 29 3 3 A k dl dc ad sl sc cur 3 (List.replicate m (.int .i64 (-1))) Tryz.underlying29 zz2 h1 (by simpa using hm)
  (fun j v hj=>by
    have hj2:=(List.getElem?_eq_some_iff.1 hj);obtain⟨hl,he⟩:=hj2;simp at hl he;rw[<- he];exact hsrc j hl) zz20 (fun v hv=>by rw[List.eq_of_mem_replicate hv];rfl)
 rw[List.length_replicate]at hr;refine⟨_,hr,⟨_,k2b h1,by simp;omega,fun j hj=>?_⟩,⟨rfl,rfl,rfl,zz6,fun b _ hb=>setRow_other _ _ _ _ (fun e=>hb e)⟩,zz6⟩;have hl:cur.toList.length=n:=by simpa using h2
 rw[List.getElem?_toArray];by_cases e:j<k
 ·rw[List.append_assoc,List.getElem?_append_left zz51,List.getElem?_take_of_lt e,Array.getElem?_toList]
  exact h3 j e
 ·rw[List.getElem?_append_left (by rw[List.length_append,List.length_take,List.length_replicate];omega),List.getElem?_append_right zz51,List.length_take,List.getElem?_replicate,if_pos zz1]
theorem k3a{P:Program}{ops:Array Oper}{o:Oper}{a:Act}{w:World}{K:Act->World->Prop}{Q:Exit->Act->World->Prop}(hw:Region.wanted o (yielded ops a.tmps)=true)(d s:Operand)(t t':TypeId)
 (ho:o.op=.call { callee:=.builtin .copy,args:=#[d,s],argTypes:=#[t,t'] }) (T:TypeId) (hT:o.type=T) (v u:Value) (hd:a.eval d=v) (hs:a.eval s=u) {v':Value} {w':World}
 (hr:(Builtin.copy_ #[t,t'] T #[v,u]).run P w=.ok v' w') (h:K (a.put o.dst v') w') :
 if Region.wanted o (yielded ops a.tmps)=true then Oper.wp P o a w K Q else K (a.put o.dst undef) w:=by
 rw[if_pos hw];unfold Oper.wp execOp;simp only[ho,hT,resolve,invoke,builtin,Sem.run_bind,Sem.run_pure,Result.andThen_ok,List.map_toArray,List.map_cons,List.map_nil,hd,hs,hr];exact h
theorem kal(n b c:Nat)(w:World)(hn0:0<n)(hn:n<7)(hb:w.cell? ⟨b,0,none⟩=some (.int .i64 (-1))) :
 Calls Tryz.prog 123 #[.slice (some ⟨b,0,none⟩) 1 c,.int .i64 n] w fun e w'=>e=.returned (.slice (some ⟨w.heap.size,0,none⟩) n n)/\Negs w' w.heap.size n n/\Below w.heap.size w w'/\w'.heap.size=w.heap.size+1:=by
 have cm:=k9D n w hn;have t1:decide ((n:Int)<0)=false:=decide_eq_false zz1;obtain⟨i0,hi,hz0,hz1,hz2⟩:=info_parts k1o;have hmk:∀W:World,(Instr.makeSlice 29 (.int .i64 n) (.int .i64 n)).run Tryz.prog W=.ok (.slice (some ⟨W.heap.size,0,none⟩) n n) (W.alloc (.cells (madeCells (Value.int .i64 0).cells (n*1)) 3)):=fun W=>by
  have:=run_make (P:=Tryz.prog) W 29 3 i0 _ Tryz.underlying29 hi hz0 .i64 .i64 n n zz1 zz1 zz91 zz1;exact zz53
 have hb':=World.block_lt_of_cell? w _ hb;have hN0:Negs (w.alloc (.cells (madeCells #[.int .i64 0] n) 3)) w.heap.size n 0:=⟨_,heap_alloc_new w _,by simp[size_madeCells],fun j hj=>by omega⟩;obtain⟨W1,hr1,hN1,hO1,hs1⟩:=k6F (m:=1) (dl:=n) (dc:=n) (sl:=1) (sc:=c) (ad:=⟨b,0,none⟩) hN0 (fun j hj=>by
  have:j=0:=by omega
  subst this;exact(World.cell?_of_block (Below.heap_alloc w _ b hb')).trans hb) (by show 1=min 1 n;omega) zz1
 have hB1:Below w.heap.size w W1:=(((Only.refl (fun x=>x=w.heap.size) w).alloc _).trans hO1).toBelow (fun b hb=>by omega);have hz:W1.heap.size=w.heap.size+1:=by simpa using hs1
 have H:=Ac (_/\_/\_) (⟨hN1,hB1,hz⟩);clear hN0 hN1 hB1 hO1 hs1;go_enter Tryz.func123,Tryz.ntmps123
 go_wp2_with(go_at_call 147;refine cm.mono ?_;rintro e w' ⟨rfl,rfl⟩)
 clear hr1 hmk cm hb hi hz0 hz1 hz2
 go_loopw [8] (fun s8 wr=>∃k:Nat,0<k/\k<=n/\s8=.int .i64 k/\k07 (Negs wr w'.heap.size n k/\Below w'.heap.size w' wr/\wr.heap.size=w'.heap.size+1)) (fun s8 _=>n-ixOf s8)
 case atStart=>exact⟨1,zz1,zz1,rfl,H⟩
 case round=>
  obtain⟨k,hk0,hk,rfl,R⟩:=hrel
  trace_state
  by_cases hlt:k<n
  ·have e1:(k:Int)<(n:Int):=by omega
   have e2:¬n=k:=zz1
   obtain⟨m,hm⟩:∃m,m=min k (n-k):=⟨_,rfl⟩;have hm0:0<m/\k+m<=n:=by omega
   have ew:=add7 ⟨k,zz1⟩ ⟨m,zz1⟩;simp only at ew;obtain⟨W2,hr2,hN2,hO2,hs2⟩:=k6F (W:=wr.drew) (m:=m) (dl:=n-k) (dc:=n-k) (sl:=k) (sc:=n) (ad:=⟨w'.heap.size,0,none⟩) R.1.1 (fun j hj=>by
    obtain⟨cur,h1,h2,h3⟩:=R.1.1;rw[Addr.add_lit];exact(k00 h1 _).trans (h3 _ zz1)) hm zz1
   clear hm;go_wp2;refine WpL.region (fun _=>True) 9 zz2 ?_;refine WpL.T 0 [] trivial ?_;refine WpL.T 1 [] trivial ?_;refine WpL.T 2 [] trivial ?_;refine WpL.T 3 [] trivial ?_;refine WpL.T 4 [] trivial ?_;refine WpL.T 5 [] trivial ?_;refine WpL.T 6 [] trivial ?_;refine WpL.one (i:=7) zz2 rfl (fun K hK=>?_);refine k3a zz2 _ _ 29 29 rfl 3 rfl (.slice (some ⟨w'.heap.size,k,none⟩) (n-k) (n-k)) (.slice (some ⟨w'.heap.size,0,none⟩) k n) rfl rfl hr2 ?_;refine hK.out _ _ (fun _=>trivial) ?_;clear hK K
   try refine Sm ?_
   refine WpL.T 8 [] trivial ?_;refine WpL.one (i:=9) zz2 rfl (fun K hK=>?_);go_simp;refine hK.out _ _ (fun h=>absurd rfl h) ?_;clear hK K
   try refine Sm ?_
   refine WpL.done zz2 ?_ _;go_wp2
   go_roundw
   case rel=>
    refine⟨k+m,zz1,zz1,rfl,⟨⟨hN2,?_,by rw[hs2];exact R.1.2.2⟩⟩⟩;exact((Only.of_below (P:=fun x=>x=w'.heap.size) R.1.2.1).drew.trans hO2).toBelow (fun b hb=>by omega)
   case measure=>
    show n-ixOf (.int .i64 _)<n-ixOf (.int .i64 _);exact zz9
  ·have e1:¬(k:Int)<(n:Int):=by omega
   obtain rfl:k=n:=by omega
   go_wp2;go_ret;exact⟨rfl,R.1⟩
def NumsB(w:World)(b n:Nat)(f:Nat->Nat):Prop:=∃cur,w.heap[b]? = some (.cells cur 3 (0,0))/\cur.size=n/\∀j,j<n->f j<n/\cur[j]? = some (.int .i64 (f j:Nat))
def ArbAt(w:World)(o:Nat->Col)(c:Col)(g n:Nat):Prop:=
 o g=c/\∃ga gb f1 f2,w.heap[g]? = some (.cells #[.slice (some ⟨ga,0,none⟩) n n,.slice (some ⟨gb,0,none⟩) n n] 195 (0,0))/\ga≠gb/\o ga=c/\o gb=c/\NumsB w ga n f1/\NumsB w gb n f2
theorem NumsB.lt{w:World}{b n:Nat}{f:Nat->Nat}(h:NumsB w b n f):b<w.heap.size:=by obtain⟨_,h,_⟩:=h;exact k03 h
theorem NumsB.of_blk{w w':World}{b n:Nat}{f:Nat->Nat}(h:NumsB w b n f)(e:w'.heap[b]? = w.heap[b]?):NumsB w' b n f:=by obtain⟨cur,h,r⟩:=h;exact⟨cur,e.trans h,r⟩
theorem ArbAt.tr{S:Col->Prop}{o o':Nat->Col}{w w':World}{c:Col}{g n:Nat}(h:ArbAt w o c g n)(t:Tr S o w o' w')(hc:¬S c):ArbAt w' o' c g n:=by
 obtain⟨hg,ga,gb,f1,f2,hh,hne,oa,ob,h1,h2⟩:=h;exact⟨(t.own _ (k03 hh)).trans hg,ga,gb,f1,f2,t.blk hh (by rw[hg];exact hc),hne,(t.own _ h1.lt).trans oa,(t.own _ h2.lt).trans ob,h1.of_blk (t.only.same h1.lt (by rw[oa];exact hc)),h2.of_blk (t.only.same h2.lt (by rw[ob];exact hc))⟩
theorem ArbAt.new{w w':World}{o:Nat->Col}{c:Col}{g n:Nat}{ga gb:Nat}(hh:w.heap[g]? = some (.cells #[.slice (some ⟨ga,0,none⟩) n n,.slice (some ⟨gb,0,none⟩) n n] 195 (0,0)))(hne:ga≠gb)(hg:o g=c)(oa:o ga=c)(ob:o gb=c)(h1:NumsB w ga n fun _=>0)(h2:NumsB w gb n fun _=>0):ArbAt w o c g n:=
 ⟨hg,ga,gb,_,_,hh,hne,oa,ob,h1,h2⟩
theorem k5m{w:World}{b n:Nat}(h:w.heap[b]? = some (.cells (madeCells #[Value.int .i64 0] n) 3 (0,0))):NumsB w b n fun _=>0:=by
 refine⟨_,h,by simp[size_madeCells],fun j hj=>⟨by show 0<n;omega,?_⟩⟩;unfold madeCells;rw[Array.getElem?_map,Array.getElem?_range,if_pos zz83];simp[Nat.mod_one]
theorem k9h(w:World)(x y z:Obj):(((w.alloc x).alloc y).alloc z).heap[w.heap.size]? = some x/\(((w.alloc x).alloc y).alloc z).heap[w.heap.size+1]? = some y/\(((w.alloc x).alloc y).alloc z).heap[w.heap.size+2]? = some z:=by
 refine⟨(Below.heap_alloc _ _ _ zz20).trans ((Below.heap_alloc _ _ _ zz6).trans (heap_alloc_new w _)),(Below.heap_alloc _ _ _ zz6).trans ?_,?_⟩
 ·have:=heap_alloc_new (w.alloc x) y
  simpa using this
 ·have:=heap_alloc_new ((w.alloc x).alloc y) z
  simpa using this
theorem ka9(n:Nat)(w:World)(h0:1<=n)(h1:n<=16) :
 Calls Tryz.prog 69 #[.int .i64 n] w fun e w'=>∃ga gb,e=.returned (.pointer (some ⟨w.heap.size+2,0,none⟩))/\Below w.heap.size w w'/\w'.heap.size=w.heap.size+3/\w'.heap[w.heap.size+2]? = some (.cells #[.slice (some ⟨ga,0,none⟩) n n,.slice (some ⟨gb,0,none⟩) n n] 195 (0,0))/\ga≠gb/\w.heap.size<=ga/\w.heap.size<=gb/\NumsB w' ga n (fun _=>0)/\NumsB w' gb n fun _=>0:=by
 obtain⟨i0,hi,hz0,hz1,hz2⟩:=info_parts k1o;have hmk:∀W:World,(Instr.makeSlice 29 (.int .i64 n) (.int .i64 n)).run Tryz.prog W=.ok (.slice (some ⟨W.heap.size,0,none⟩) n n) (W.alloc (.cells (madeCells (Value.int .i64 0).cells (n*1)) 3)):=fun W=>by
  have:=run_make (P:=Tryz.prog) W 29 3 i0 _ Tryz.underlying29 hi hz0 .i64 .i64 n n zz1 zz1 zz91 zz1;exact zz53
 have t1:decide ((n:Int)<1)=false:=decide_eq_false zz1;have t2:decide ((16:Int)<n)=false:=decide_eq_false zz1;go_enter Tryz.func69,Tryz.ntmps69;go_wp2
 go_region
 all_goals go_wp2
 all_goals go_ret
 all_goals
  refine⟨_,_,rfl,((((Below.refl _ w).alloc (Nat.le_refl _) _).alloc zz6 _).alloc zz20 _).drew,zz6,(k9h w _ _ _).2.2,?_,?_,?_,k5m ?_,k5m ?_⟩
  all_goals(first|exact(k9h w _ _ _).1|exact(k9h w _ _ _).2.1|omega)
theorem k8g:∀a b:Fin 64,bits BinOp.and IntKind.u16 (a.1:Int) (b.1:Int)=(a.1 &&& b.1:Nat)/\a.1 &&& b.1<64:=by decide
theorem kcP:∀m:Fin 64,∀k:Fin 7,∀j:Fin 6,(hi m.1 k.1).testBit j.1=true->m.1.testBit j.1=true:=by decide
theorem k27(m k j:Nat):(low m k).testBit j=(decide (j<k) && m.testBit j):=by unfold low;exact Nat.testBit_mod_two_pow ..
theorem k2n(m i n:Nat)(h1:m<64)(hi0:i<n)(hn:n<7):(pick m i n = -1/\∀k,k<n->m.testBit k=false)\/∃k,k<n/\m.testBit k=true/\pick m i n=(k:Nat):=by
 have hl:=k7S (k:=n) h1;have key:∀M:Nat,M<64->M≠0->(∀j,j<6->M.testBit j=true->(low m n).testBit j=true)->∃k,k<n/\m.testBit k=true/\((tz M:Nat):Int)=(k:Nat):=fun M hM h0 hs=>by
  obtain⟨a,b⟩:=kdp ⟨M,hM⟩ (Nat.pos_of_ne_zero h0);simp only at a b;have:=hs _ a b;rw[k27,Bool.and_eq_true,decide_eq_true_iff]at this;exact⟨tz M,this.1,this.2,rfl⟩
 unfold pick;by_cases c1:hi (low m n) i=0
 ·rw[if_neg (by simpa using c1)]
  by_cases c2:low m n=0
  ·rw[if_neg (by simpa using c2)]
   refine .inl ⟨rfl,fun k hk=>?_⟩;have:=k27 m n k;rw[c2,Nat.zero_testBit]at this;simpa[hk] using this.symm
  ·rw[if_pos c2]
   exact .inr (key _ hl c2 (fun _ _ h=>h))
 ·rw[if_pos c1]
  exact .inr (key _ (kdv hl) c1 (fun j hj h=>kcP ⟨_,hl⟩ ⟨i,zz1⟩ ⟨j,hj⟩ h))
def k1T(cols:List Nat)(ins outs:Nat)(f:Nat->Nat)(n i j:Nat):Bool:=(pick (cols.getD j 0 &&& ins) (f j) n == (i:Int)) && outs.testBit j
def GSt(w V:World)(A n k:Nat)(B:Nat->Nat->Bool):Prop:=
 Below w.heap.size w V/\A=w.heap.size/\∃cur,V.heap[A]? = some (.cells cur 23 (0,0))/\cur.size=n/\∀i,i<n->∃x:Nat,cur[i]? = some (.int .u16 x)/\x<64/\∀j,j<6->x.testBit j=(decide (j<k) && B i j)
theorem GSt.skip{w V:World}{A n k:Nat}{B:Nat->Nat->Bool}(h:GSt w V A n k B)(hb:∀i,i<n->B i k=false):GSt w V A n (k+1) B:=by
 obtain⟨q1,q2,cur,q3,q4,q5⟩:=h;refine⟨q1,q2,cur,q3,q4,fun i hi=>?_⟩;obtain⟨x,a,b,c⟩:=q5 i hi;refine⟨x,a,b,fun j hj=>(c j hj).trans ?_⟩;by_cases e:j=k
 ·subst e;simp[hb i hi]
 ·have:(j<k+1) ↔ (j<k):=by omega
  simp[this]
theorem GSt.one{w V:World}{A n k i y:Nat}{B:Nat->Nat->Bool}{cur:Array Value}(h:GSt w V A n k B)(hi:i<n)(hc:V.heap[A]? = some (.cells cur 23 (0,0)))(hy:cur[i]? = some (.int .u16 y))(hy6:y<64)(hk:k<n)(hn:k<6)(hb:∀i',i' < n->B i' k=(i == i')) :
 GSt w (V.setCell ⟨A,i,none⟩ (.int .u16 (y ||| 2 ^ k:Nat))).drew A n (k+1) B:=by
 obtain⟨q1,q2,cur',q3,q4,q5⟩:=h;rw[hc]at q3;cases q3;refine⟨(q1.setCell (p:=⟨A,i,none⟩) (by show _<=A;omega) _).drew,q2,cur.setIfInBounds i (.int .u16 (y ||| 2 ^ k:Nat)),k05 hc _ _,by simpa using q4,fun i' hi'=>?_⟩;obtain⟨x,a,b,c⟩:=q5 i' hi';by_cases e:i=i'
 ·subst e
  rw[hy]at a;have hxy:x=y:=by
   have:(y:Int)=x:=by simpa using a
   omega
  subst hxy;refine⟨x ||| 2 ^ k,k2K _ _ zz1,Nat.or_lt_two_pow (n:=6) hy6 (Nat.pow_lt_pow_right zz7 zz1),fun j hj=>?_⟩;rw[Nat.testBit_or,c j hj,Nat.testBit_two_pow];by_cases e2:k=j
  ·subst e2
   simp[hb i hi]
  ·have:(j<k+1) ↔ (j<k):=by omega
   simp[this,e2]
 ·refine⟨x,(k1w _ _ e).trans a,b,fun j hj=>(c j hj).trans ?_⟩
  by_cases e2:j=k
  ·subst e2
   have e3:(i == i')=false:=beq_eq_false_iff_ne.mpr e;simp[hb i' hi',e3]
  ·have:(j<k+1) ↔ (j<k):=by omega
   simp[this]
theorem k60(g R ga n ins outs:Nat)(v2 mv cv:Value)(cols:List Nat)(cg:Option Nat)(f:Nat->Nat)(w:World)(hn0:0<n)(hn:n<7)
 (hg:w.heap[g]? = some (.cells #[.slice (some ⟨ga,0,none⟩) n n,v2] 195 (0,0))) (hga:NumsB w ga n f) (hR:w.heap[R]? = some (.cells #[mv,.int .u16 ins,.int .u16 outs] 216 (0,0)))
 (hc:Row w cv 23 1 n (u16s cols) cg) (hcl:∀x∈cols,x<64) (hi:ins<64) (ho:outs<64) (hT:Tab w) :
 Calls Tryz.prog 125 #[.pointer (some ⟨g,0,none⟩),.pointer (some ⟨R,0,none⟩),cv] w fun e w'=>e=.returned (.slice (some ⟨w.heap.size,0,none⟩) n n)/\GSt w w' w.heap.size n n (k1T cols ins outs f n):=by
 obtain⟨i0,hi',hz0,hz1,hz2⟩:=info_parts kae;have hmk:∀W:World,(Instr.makeSlice 168 (.int .i64 n) (.int .i64 n)).run Tryz.prog W=.ok (.slice (some ⟨W.heap.size,0,none⟩) n n) (W.alloc (.cells (madeCells (Value.int .u16 0).cells (n*1)) 23)):=fun W=>by
  have:=run_make (P:=Tryz.prog) W 168 23 i0 _ Tryz.underlying168 hi' hz0 .i64 .i64 n n zz1 zz1 zz91 zz1;exact zz53
 obtain⟨b,off,cap,hcg,rfl,hcap,hfz,hcell⟩:=hc.open hn0;have hlen:cols.length=n:=by have:=hc.1;simpa[u16s] using this
 have H0:GSt w (w.alloc (.cells (madeCells #[Value.int .u16 0] n) 23)) w.heap.size n 0 (k1T cols ins outs f n):=by
  refine⟨(Below.refl _ w).alloc (Nat.le_refl _) _,rfl,_,heap_alloc_new w _,by simp[size_madeCells],fun k hk=>⟨0,?_,zz1,fun j hj=>by simp⟩⟩;unfold madeCells;exact zz94
 have H:=Ab H0;have C:=Ac (_/\_/\_/\_/\_/\_) (⟨hg,hga,hR,hcell,hcl,hT⟩);clear H0 hc hcell hcl hga hg hR hT hcg;go_enter Tryz.func125,Tryz.ntmps125;go_wp2;clear hmk hi' hz0 hz1 hz2
 go_loopw [16] (fun s16 wr=>∃k:Nat,k<=n/\s16=.int .i64 k/\k07 (GSt w wr w.heap.size n k (k1T cols ins outs f n))) (fun s16 _=>n-ixOf s16)
 case atStart=>exact⟨0,zz1,rfl,H⟩
 case round=>
  obtain⟨k,hk,rfl,G⟩:=hrel;by_cases hlt:k<n
  ·have e1:(k:Int)<(n:Int):=by omega
   obtain⟨x,hx⟩:∃x,cols.getD k 0=x:=⟨_,rfl⟩;have hx':cols[k]? = some x:=by rw[<- hx,List.getD_eq_getElem?_getD,List.getElem?_eq_getElem zz1];rfl
   have hx6:x<64:=C.1.2.2.2.2.1 x (List.mem_of_getElem? hx');have hck:wr.cell? ⟨b,off+k,none⟩=some (.int .u16 x):=by
    have h0:w.cell? ⟨b,off+k,none⟩=some (.int .u16 x):=by rw[C.1.2.2.2.1 k (by simp[u16s];omega)];simp[u16s,hx']
    exact(G.1.1.cell (World.block_lt_of_cell? w _ h0)).trans h0
   have hf:=C.1.2.1;obtain⟨cf,hf1,hf2,hf3⟩:=C.1.2.1;obtain⟨hfk,hfc⟩:=hf3 k hlt;have ha:=k8g ⟨x,hx6⟩ ⟨ins,hi⟩;simp only at ha;have hsz:=G.1.1.size;have cR:wr.cell? ⟨R,1,none⟩=some (.int .u16 ins):=(G.1.1.cell (k03 C.1.2.2.1)).trans (k00 C.1.2.2.1 1);have cg0:wr.cell? ⟨g,0,none⟩=some (.slice (some ⟨ga,0,none⟩) n n):=(G.1.1.cell (k03 C.1.1)).trans (k00 C.1.1 0);have cga:wr.cell? ⟨ga,k,none⟩=some (.int .i64 (f k:Nat)):=(G.1.1.cell (k03 hf1)).trans ((k00 hf1 k).trans hfc);have HS:=Sat.mk (S:=fun(W:World)=>W.cell? ⟨R,1,none⟩=some (.int .u16 ins)/\W.cell? ⟨g,0,none⟩=some (.slice (some ⟨ga,0,none⟩) n n)/\W.cell? ⟨ga,k,none⟩=some (.int .i64 (f k:Nat))) (w:=wr) (⟨cR,cg0,cga⟩);have HT:=Ab (C.1.2.2.2.2.2.below G.1.1);clear cR cg0 cga hfc hf3 hf2 hf1 hf cf;go_wp2;refine WpL.rg HS 16 zz2 ?_;refine WpL.T 0 [] HS.1 ?_;refine WpL.T 1 [] HS.1 ?_;refine WpL.T 2 [] HS.1 ?_;refine WpL.T 3 [] HS.1 ?_;refine WpL.T 4 [] HS.1 ?_;refine WpL.T 5 [] HS.1 ?_;refine WpL.T 6 [] HS.1 ?_;refine WpL.T 7 [] HS.1 ?_;refine WpL.T 8 [] HS.1 ?_;refine WpL.T 9 [] HS.1 ?_;refine WpL.T 10 [] HS.1 ?_;refine WpL.T 11 [] HS.1 ?_;refine WpL.T 12 [] HS.1 ?_;refine WpL.T 13 [] HS.1 ?_;refine WpL.T 14 [] HS.1 ?_;refine WpL.one (i:=15) zz2 rfl (fun K hK=>?_);go_simp;refine(k2F _ _ _ _ ha.2 hn0 hn hfk HT.1.drew).mono ?_;rintro e w3 ⟨rfl,hb3⟩;have HB3:=Ac (Below wr.heap.size wr w3) (undrew hb3);have HS3:=HS.to w3 (⟨(HB3.1.cell (World.block_lt_of_cell? wr _ HS.1.1)).trans HS.1.1,(HB3.1.cell (World.block_lt_of_cell? wr _ HS.1.2.1)).trans HS.1.2.1,(HB3.1.cell (World.block_lt_of_cell? wr _ HS.1.2.2)).trans HS.1.2.2⟩);clear hb3;simp only[];refine hK.out _ _ (fun _=>HS3.1) ?_;clear hK K
   try refine Sm ?_
   refine WpL.one (i:=16) zz2 rfl (fun K hK=>?_);go_simp;refine hK.out _ _ (fun h=>absurd rfl h) ?_;clear hK K
   try refine Sm ?_
   refine WpL.done zz2 ?_ _;obtain⟨p,hp⟩:∃p,p=pick (x &&& ins) (f k) n:=⟨_,rfl⟩;rw[<- hp];have HP:=Ab hp;have hsp:=k2n (x &&& ins) (f k) n ha.2 hfk hn;rw[<- hp]at hsp;clear hp;have cR3:w3.cell? ⟨R,2,none⟩=some (.int .u16 outs):=((G.1.1.trans (HB3.1.mono hsz)).cell (k03 C.1.2.2.1)).trans (k00 C.1.2.2.1 2);have G3:=Ac (GSt w w3 w.heap.size n k (k1T cols ins outs f n)) (by
    obtain⟨q1,q2,cur,q3,q4⟩:=G.1;exact⟨q1.trans (HB3.1.mono hsz),rfl,cur,(HB3.1.block _ (k03 q3)).trans q3,q4⟩)
   rcases hsp with⟨hp1,hpn⟩|⟨i,hi1,hi2,hpi⟩
   ·subst hp1
    go_wp2;refine⟨⟨k+1,zz1,rfl,⟨G3.1.skip (fun i hi=>?_)⟩⟩,?_⟩
    ·unfold k1T
     rw[hx,<- HP.1];have:((-1:Int) == (i:Int))=false:=beq_eq_false_iff_ne.mpr zz1;rw[this,Bool.false_and]
    ·show n-ixOf (.int .i64 ((k:Int)+1))<n-ixOf (.int .i64 (k:Int))
     simp only[ixOf];exact zz1
   ·subst hpi
    have e3:((i:Int) != -1)=true:=by rw[bne_iff_ne];omega
    have hh:=fun(W:World)=>k9H outs k W ho zz1
    cases hob:outs.testBit k with
    |false=>
     rw[hob]at hh
     go_wp2_with(go_at_call 150;refine(hh _).mono ?_;rintro e w4 ⟨rfl,rfl⟩)
     refine⟨⟨k+1,zz1,rfl,⟨G3.1.skip (fun i hi=>?_)⟩⟩,?_⟩
     ·unfold k1T
      rw[hob,Bool.and_false]
     ·show n-ixOf (.int .i64 ((k:Int)+1))<n-ixOf (.int .i64 (k:Int))
      simp only[ixOf];exact zz1
    |true=>
     rw[hob]at hh;obtain⟨q1,q2,cur,q3,q4,q5⟩:=G3.1;obtain⟨y,hy1,hy2,hy3⟩:=q5 i hi1;have cA:w3.cell? ⟨w.heap.size,i,none⟩=some (.int .u16 y):=(k00 q3 i).trans hy1;have fA:=k02 q3 i;have hor:=k9a ⟨y,hy2⟩ ⟨k,zz1⟩;simp only at hor;have hii:(i:Int)<n:=by omega
     have HS7:=Sat.mk (S:=fun(W:World)=>W.cell? ⟨w.heap.size,i,none⟩=some (.int .u16 y)/\W.frozen? ⟨w.heap.size,i,none⟩=false) (w:=w3) (⟨cA,fA⟩);have FIN:=Ab (show GSt w (w3.setCell ⟨w.heap.size,i,none⟩ (.int .u16 (y ||| 2 ^ k:Nat))).drew w.heap.size n (k+1) (k1T cols ins outs f n) from
      GSt.one G3.1 hi1 q3 hy1 hy2 hlt zz1 (fun i' hi'=>by
       unfold k1T;rw[hx,<- HP.1,hob,Bool.and_true];by_cases e:i=i'
       ·subst e;simp
       ·have e2:((i:Int) == (i':Int))=false:=beq_eq_false_iff_ne.mpr zz1
        rw[e2];exact(beq_eq_false_iff_ne.mpr e).symm))
     clear q1 q2 q3 q4 q5 hy1 hy3 cA fA hob hi2
     go_wp2_with(go_at_call 150;refine(hh _).mono ?_;rintro e w4 ⟨rfl,rfl⟩)
     obtain⟨cA7,fA7⟩:=HS7.1;refine WpL.region (fun(W:World)=>W.cell? ⟨w.heap.size,i,none⟩=some (.int .u16 y)/\W.frozen? ⟨w.heap.size,i,none⟩=false) 8 zz2 ?_;refine WpL.T 0 [] HS7.1 ?_;refine WpL.T 1 [] HS7.1 ?_;refine WpL.T 2 [] HS7.1 ?_;refine WpL.T 3 [] HS7.1 ?_;refine WpL.T 4 [] HS7.1 ?_;refine WpL.T 5 [] HS7.1 ?_;refine WpL.T 6 [] HS7.1 ?_;refine WpL.T 7 [] HS7.1 ?_;refine WpL.one (i:=8) zz2 rfl (fun K hK=>?_);go_simp;refine hK.out _ _ (fun h=>absurd rfl h) ?_;clear hK K
     try refine Sm ?_
     refine WpL.done zz2 ?_ _;go_wp2;refine⟨⟨k+1,zz1,rfl,FIN⟩,?_⟩;show n-ixOf (.int .i64 ((k:Int)+1))<n-ixOf (.int .i64 (k:Int));exact zz9
  ·have e1:¬(k:Int)<(n:Int):=by omega
   obtain rfl:k=n:=by omega
   go_wp2;go_ret;exact⟨rfl,G.1⟩
end Go.Proofs.YtdopmlopafgonaaGreatDoor.Own
