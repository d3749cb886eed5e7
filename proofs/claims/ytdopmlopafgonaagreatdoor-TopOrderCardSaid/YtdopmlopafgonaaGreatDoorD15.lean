/- TopOrder: of each flow what came is some of what was injected, in its order (a part of the walks and of the plain laws). -/
import Derived.Test.YtdopmlopafgonaaGreatDoorD0
import Derived.Test.YtdopmlopafgonaaGreatDoorD14
import Derived.Deep.Upon
set_option linter.unusedVariables false
set_option linter.unusedSimpArgs false
set_option maxHeartbeats 4000000
set_option maxRecDepth 100000
namespace Go.Proofs.YtdopmlopafgonaaGreatDoor.Own
open Go.RowKit Go.Deep Go.Proofs.YtdopmlopafgonaaGreatDoorW.PrintWords Go.Proofs.YtdopmlopafgonaaGreatDoorW.PrintLast Go.Proofs.YtdopmlopafgonaaGreatDoorW.PrintMore
def efl(f:Int×Int×Int):List Value:=[.int .i64 f.1,.int .i64 f.2.1,.int .i64 f.2.2]
def encF(l:List (Int×Int×Int)):List Value:=l.flatMap efl
theorem k1X(l:List (Int×Int×Int)):(encF l).length=l.length*3:=by
 induction l with
 |nil=>rfl
 |cons x l ih=>show(efl x++encF l).length=_;rw[List.length_append,ih,List.length_cons,Nat.succ_mul];simp[efl];omega
theorem k16(l m:List (Int×Int×Int)):encF (l++m)=encF l++encF m:=by simp[encF]
theorem k4b(x:Int×Int×Int):encF [x]=efl x:=by simp[encF]
theorem k4y(l:List (Int×Int×Int))(k:Nat)(hk:k<=l.length):(encF l).drop (k*3)=encF (l.drop k):=by
 conv=>lhs;rw[<- List.take_append_drop k l,k16]
 rw[List.drop_append_of_le_length (by rw[k1X,List.length_take];omega),List.drop_eq_nil_of_le (by rw[k1X,List.length_take];omega)];rfl
theorem k7Y(l:List (Int×Int×Int))(i j:Nat)(hi:i<l.length)(hj:j<3):(encF l)[i*3+j]? = (efl (l[i]))[j]?:=by
 induction l generalizing i with
 |nil=>simp at hi
 |cons x l ih=>
  show(efl x++encF l)[i*3+j]? = _
  match i with
  |0=>rw[List.getElem?_append_left (by simp[efl];omega)];simp
  |i+1=>
   rw[List.getElem?_append_right (by simp[efl];omega)];have h:=ih i (by simpa using hi);rw[show(i+1)*3+j-(efl x).length=i*3+j by simp[efl];omega,h];exact zz6
theorem k3V:(Tryz.prog.info? 53).map (fun i=>(i.zero,i.size,i.bytes))=some (some (.agg #[.int .i64 0,.int .i64 0,.int .i64 0]),3,24):=by kernel_rfl
theorem k7I:∃i,Tryz.prog.info? 53=some i/\i.size=3:=by
 obtain⟨i,hi,h⟩:=Option.map_eq_some_iff.1 k3V;simp only[Prod.mk.injEq]at h;exact⟨i,hi,h.2.1⟩
theorem k4p(l:List (Int×Int×Int)):∀u∈encF l,u.oneCell'=true:=by
 intro u hu;obtain⟨f,_,hf⟩:=List.mem_flatMap.1 hu;simp[efl]at hf;rcases hf with rfl|rfl|rfl<;>rfl
theorem k3A{w W w7 w8:World}{g6 g7 g8:Option Nat}(hB:Below w.heap.size w W)(h6:∀b,g6=some b->w.heap.size<=b)(O7:Only (fun b=>g6=some b) W w7)(G7:g7=g6\/∃b,g7=some b/\W.heap.size<=b)(O8:Only (fun b=>g7=some b) w7 w8)(G8:g8=g7\/∃b,g8=some b/\w7.heap.size<=b):Below w.heap.size w w8/\(∀b,g8=some b->w.heap.size<=b):=by
 have s:=hB.size;have s7:=O7.size;have h7:∀b,g7=some b->w.heap.size<=b:=fun b hb=>by
  rcases G7 with e|⟨c,e,hc⟩
  ·exact h6 b (e▸hb)
  ·rw[e]at hb;cases hb;omega
 refine⟨(((Only.of_below (P:=fun b=>w.heap.size<=b) hB).then O7 (fun b _ hq=>h6 b hq)).then O8 (fun b _ hq=>h7 b hq)).toBelow (fun b hb hq=>by omega),fun b hb=>?_⟩;rcases G8 with e|⟨c,e,hc⟩
 ·exact h7 b (e▸hb)
 ·rw[e]at hb;cases hb;omega
section
variable{w W:World}{v x:Value}{T:TypeId}{sz n m c:Nat}{cs ys:List Value}{g gx:Option Nat}{A:Option Addr}
theorem Row.cut(h:Row w (.slice A m c) T sz m cs g)(k:Nat)(hk:k<=m):Row w (.slice (if c=k then A else A.map (·.add (k*sz))) (m-k) (c-k)) T sz (m-k) (cs.drop (k*sz)) g:=by
 obtain⟨hl,⟨hv,h0,h1⟩|⟨b,off,cap,cur,rfl,hv,hh,hc,hs,hr⟩⟩:=h
 ·simp only[Value.slice.injEq]at hv
  obtain⟨rfl,rfl,rfl⟩:=hv;obtain rfl:k=0:=by omega
  refine⟨by simp at hl;simp[hl],.inl ⟨zz6,zz1,h1⟩⟩
 ·simp only[Value.slice.injEq]at hv
  obtain⟨rfl,_,rfl⟩:=hv;have hcs:c*sz=(c-k)*sz+k*sz:=by rw[<- Nat.add_mul];congr 1;omega
  have hms:m*sz=(m-k)*sz+k*sz:=by rw[<- Nat.add_mul];congr 1;omega
  refine⟨by rw[List.length_drop];omega,.inr ⟨b,if c=k then off else off+k*sz,c-k,cur,rfl,?_,hh,zz1,?_,fun j hj=>?_⟩⟩
  ·by_cases e:c=k
   ·rw[if_pos e,if_pos e]
   ·rw[if_neg e,if_neg e,Option.map_some,Addr.add_lit]
  ·by_cases e:c=k
   ·rw[if_pos e];subst e;simp at hcs ⊢;omega
   ·rw[if_neg e];omega
  ·rw[List.length_drop]at hj
   by_cases e:c=k
   ·have:m-k=0:=by omega
    rw[this]at hms;exact zz1
   ·rw[if_neg e,List.getElem?_drop,Nat.add_assoc]
    exact hr _ zz1
theorem k4E{P:Program}(t ty:TypeId)(z:Value)(bytes:Nat)
 (ht:P.underlying t=some (.slice T)) (hinfo:(P.info? T).map (fun i=>(i.zero,i.size,i.bytes))=some (some z,sz,bytes)) (hz:z.cells.size=sz) (hs0:0<sz) (hb0:0<bytes)
 (R:Row w v T sz n cs g) (X:Row w x T sz m ys gx) (h1:∀u∈ys,u.oneCell'=true) (hl:(n+m)*bytes<=140737488355328) :
 ∃v1 w1 g1,(Builtin.append_ #[t,t] ty #[v,x]).run P w=.ok v1 w1/\Row w1 v1 T sz (n+m) (cs++ys) g1/\Only (fun b=>g=some b) w w1/\(g1=g\/∃b,g1=some b/\w.heap.size<=b):=by
 rcases Nat.eq_zero_or_pos m with rfl|hm
 ·obtain⟨i0,hi,hzz⟩:=Option.map_eq_some_iff.1 hinfo
  simp only[Prod.mk.injEq]at hzz;obtain⟨hz0,hz1,hz2⟩:=hzz;obtain rfl:ys=[]:=List.eq_nil_of_length_eq_zero (by have:=X.1;simpa using this);obtain⟨A1,c1,rfl,hc1⟩:=R.size;obtain⟨A2,c2,rfl,_⟩:=X.size;have hs:Src P i0.size t (.slice A2 0 c2) 0 [] w:=by
   cases A2 with
   |none=>exact Src.ofNil w ht c2
   |some a=>exact Src.ofSlice w ht a 0 c2 [] zz6 zz6 zz6
  exact⟨_,w,g,run_append_nothing w t t ty T i0 ht hi A1 n c1 hc1 _ hs,by simpa using R,Only.refl _ _,.inl rfl⟩
 ·have X1:=X.1
  obtain⟨b,off,cap,_,rfl,_,_,hc⟩:=X.open hm;exact k1L (P:=P) t ty T z sz bytes ht hinfo hz hs0 hb0 v n m cap cs ys g R ⟨b,off,none⟩ X1 hm (fun j u hu=>by
   rw[Addr.add_lit,hc j (List.getElem?_eq_some_iff.1 hu).1];exact hu) h1 hl
end
section
variable{P:Program}{ops:Array Oper}{rest:List Oper}{o:Oper}{a:Act}{Q:Exit->Act->World->Prop}{w:World}{K:Act->World->Prop}
theorem k2Y(hgd:o.guard=none)(s x:Operand)(t T:TypeId)(z:Value)(sz bytes:Nat)
 (ho:o.op=.call { callee:=.builtin .append,args:=#[s,x],argTypes:=#[t,t] })
 (ht:P.underlying t=some (.slice T)) (hinfo:(P.info? T).map (fun i=>(i.zero,i.size,i.bytes))=some (some z,sz,bytes)) (hz:z.cells.size=sz) (hs0:0<sz) (hb0:0<bytes)
 (v u:Value) (n m:Nat) (cs ys:List Value) (g gx:Option Nat) (R:Row w v T sz n cs g) (X:Row w u T sz m ys gx) (hs:a.eval s=v) (hx:a.eval x=u) (h1:∀u∈ys,u.oneCell'=true)
 (hl:(n+m)*bytes<=140737488355328)
 (h:∀v1 w1 g1,Row w1 v1 T sz (n+m) (cs++ys) g1->Only (fun b=>g=some b) w w1->(g1=g\/∃b,g1=some b/\w.heap.size<=b)->wpList P ops Q rest (a.put o.dst v1) w1) :
 wpList P ops Q (o :: rest) a w:=by
 refine wpList_plain hgd fun K' hK'=>?_
 obtain⟨v1,w1,g1,hrun,r1,r2,r3⟩:=k4E (P:=P) t o.type z bytes ht hinfo hz hs0 hb0 R X h1 hl;exact zz76
end
end Go.Proofs.YtdopmlopafgonaaGreatDoor.Own
namespace Go.Proofs.YtdopmlopafgonaaGreatDoor.Own
open Go.RowKit Go.Proofs.YtdopmlopafgonaaGreatDoorW.PrintWords Go.Proofs.YtdopmlopafgonaaGreatDoorW.PrintLast Go.Proofs.YtdopmlopafgonaaGreatDoorW.PrintMore
section
variable{w:World}
theorem k6L(v:Value)(l:List Pk)(g:Option Nat)(w:World)(R:Row w v 40 4 l.length (k0J l) g)(hl:l.length<=10000) :
 Calls Tryz.prog 11 #[v] w fun e w'=>∃(v':Value)(g':Option Nat)(fs:List (Int×Int×Int)),e=.returned v'/\fs.length<=l.length/\Row w' v' 53 3 fs.length (encF fs) g'/\Below w.heap.size w w'/\(∀b,g'=some b->w.heap.size<=b):=by
 obtain⟨A,cap,rfl,_⟩:=R.size;obtain⟨n,hn⟩:∃n,n=l.length:=⟨_,rfl⟩;have HN:=Ab hn;have HR:=Ab R;have R0:=Ab (fun(W:World)=>Row.nil W 53 3);rw[<- hn]at hl ⊢;clear R hn;go_enter Tryz.func11,Tryz.ntmps11;go_wp2
 go_loopw [3,4] (fun s3 s4 wr=>∃(i:Nat)(fs:List (Int×Int×Int))(g3:Option Nat),i<=n/\s4=.int .i64 i/\k07 (fs.length<=i/\Row wr s3 53 3 fs.length (encF fs) g3/\Below w.heap.size w wr/\(∀b,g3=some b->w.heap.size<=b))) (fun _ s4 _=>n-ixOf s4)
 case atStart=>exact⟨0,[],none,Nat.zero_le _,rfl,⟨Nat.zero_le _,Row.nil _ _ _,Below.refl _ _,fun b h=>zz52⟩⟩
 case round=>
  obtain⟨i,fs,g3,hi,rfl,Q⟩:=hrel;obtain⟨A3,c3,rfl,hc3⟩:=Q.1.2.1.size;obtain⟨m,hm⟩:∃m,m=fs.length:=⟨_,rfl⟩;have HM:=Ab hm;have hmi:m<=i:=by rw[hm];exact Q.1.1
  rw[<- hm]at hc3 ⊢;clear hm;by_cases hlt:i<n
  ·have e1:(i:Int)<(n:Int):=by omega
   obtain⟨x,hx⟩:∃x,l[i]? = some x:=⟨_,List.getElem?_eq_getElem zz32⟩;obtain⟨b,off,cap',hg,hv,_,_,hc⟩:=(HR.1.below Q.1.2.2.1).open zz32;have hix:i<l.length:=by have:=HN.1;omega
   have hxe:l[i]=x:=by rw[List.getElem?_eq_getElem hix]at hx;exact Option.some.inj hx
   have g0:=fun j hj=>(hc (i*4+j) (by rw[k1x];omega)).trans (k3x l i j hix hj)
   rw[hxe]at g0;simp only[Value.slice.injEq]at hv;obtain⟨rfl,_,rfl⟩:=hv;have p0:wr.cell? ⟨b,off+i*4,none⟩=some (.int .i64 x.src):=g0 0 zz1;have p1:wr.cell? ⟨b,off+i*4+1,none⟩=some (.int .i64 x.dst):=g0 1 zz1;have p2:wr.cell? ⟨b,off+i*4+2,none⟩=some (.int .i64 x.lane):=g0 2 zz1;have p3:wr.cell? ⟨b,off+i*4+3,none⟩=some (.int .u32 x.body):=g0 3 zz1;clear hx hc g0 hix hxe
   go_wp2_with(go_at_call 33;refine(k6S _ _ _ _ _).mono ?_;rintro e w4 ⟨rfl,hb4⟩;have B4:=Ab hb4;clear hb4 p0 p1 p2 p3)
   obtain⟨bx,hbx⟩:∃bx,bx=w4.heap.size:=⟨_,rfl⟩;obtain⟨w2,hw2⟩:∃w2,w2=w4.alloc (.cells #[.int .i64 x.src,.int .i64 x.dst,.int .i64 x.lane] 53):=⟨_,rfl⟩;have BX:=Ac (w2.heap[bx]? = some (.cells #[.int .i64 x.src,.int .i64 x.dst,.int .i64 x.lane] 53 (0,0))/\Below wr.heap.size wr w2/\wr.heap.size<=bx) (by rw[hw2,hbx];exact⟨heap_alloc_new _ _,B4.1.alloc B4.1.size _,B4.1.size⟩);rw[<- hw2,<- hbx];clear hw2 hbx B4;have RF:=Ac (Row w2 (.slice A3 m c3) 53 3 m (encF fs) g3/\(∀b,g3=some b->b<wr.heap.size)/\m=fs.length) (by
    have h:=Q.1.2.1;rw[<- HM.1]at h;exact⟨h.below BX.1.2.1,fun b hb=>h.lt hb,HM.1⟩)
   go_loopw [6,7] (fun s6 s7 wq=>∃(k:Nat)(nx:List (Int×Int×Int))(g6:Option Nat),k<=m/\s7=.int .i64 k/\k07 (nx.length=k/\Row wq s6 53 3 k (encF nx) g6/\Below w2.heap.size w2 wq/\(∀b,g6=some b->w2.heap.size<=b))) (fun _ s7 _=>m-ixOf s7)
   case atStart=>exact⟨0,[],none,Nat.zero_le _,rfl,⟨rfl,R0.1 _,Below.refl _ _,fun b h=>zz52⟩⟩
   case round=>
    obtain⟨k,nx,g6,hk,rfl,Z⟩:=hrel;obtain⟨A6,c6,rfl,hc6⟩:=Z.1.2.1.size;have z0:=((k00 ((Z.1.2.2.1.block _ (k03 BX.1.1)).trans BX.1.1) 0).trans rfl:wr.cell? ⟨bx,0,none⟩=some (.int .i64 x.src));have z1:=((k00 ((Z.1.2.2.1.block _ (k03 BX.1.1)).trans BX.1.1) 1).trans rfl:wr.cell? ⟨bx,1,none⟩=some (.int .i64 x.dst));have z2:=((k00 ((Z.1.2.2.1.block _ (k03 BX.1.1)).trans BX.1.1) 2).trans rfl:wr.cell? ⟨bx,2,none⟩=some (.int .i64 x.lane));by_cases hkm:k<m
    ·have e2:(k:Int)<(m:Int):=by omega
     obtain⟨y,hy⟩:∃y,fs[k]? = some y:=⟨_,List.getElem?_eq_getElem (by have:=RF.1.2.2;omega)⟩;obtain⟨b3,f3,c3',hg3,hv3,_,_,hd⟩:=(RF.1.1.below Z.1.2.2.1).open zz1;have hkx:k<fs.length:=by have:=RF.1.2.2;omega
     have hye:fs[k]=y:=by rw[List.getElem?_eq_getElem hkx]at hy;exact Option.some.inj hy
     have d0:=fun j hj=>(hd (k*3+j) (by rw[k1X];omega)).trans (k7Y fs k j hkx hj)
     rw[hye]at d0;simp only[Value.slice.injEq]at hv3;obtain⟨rfl,_,rfl⟩:=hv3;have HS:=Sat.mk (S:=fun(W:World)=>W.cell? ⟨b3,f3+k*3,none⟩=some (.int .i64 y.1)/\W.cell? ⟨b3,f3+k*3+1,none⟩=some (.int .i64 y.2.1)/\W.cell? ⟨b3,f3+k*3+2,none⟩=some (.int .i64 y.2.2)/\W.cell? ⟨bx,0,none⟩=some (.int .i64 x.src)/\W.cell? ⟨bx,1,none⟩=some (.int .i64 x.dst)/\W.cell? ⟨bx,2,none⟩=some (.int .i64 x.lane)) (w:=wr) (⟨d0 0 zz1,d0 1 zz1,d0 2 zz1,z0,z1,z2⟩);clear hy hd d0 hkx hye z0 z1 z2
     go_wp2_with fail
     refine WpL.rg HS 99 zz2 ?_;refine WpL.E 0 HS.1 ?_;refine WpL.E 1 HS.1 ?_;refine WpL.E 2 HS.1 ?_;refine WpL.E 3 HS.1 ?_;refine WpL.E 4 HS.1 ?_;refine WpL.E 5 HS.1 ?_;refine WpL.E 6 HS.1 ?_;refine WpL.E 7 HS.1 ?_;refine WpL.E 8 HS.1 ?_;refine WpL.E 9 HS.1 ?_;refine WpL.one (i:=10) zz2 rfl (fun K hK=>?_);go_simp;refine(k7l _ _ _ _ _ _ _).mono ?_;rintro e w5 ⟨⟨t,rfl⟩,hb5⟩;have B5:=Ac (Below wr.heap.size wr w5) ((Below.refl _ wr).drew.trans hb5);have HS5:=HS.to w5 (by
      obtain⟨p0,p1,p2,p3,p4,p5⟩:=HS.1;exact⟨k01 B5.1 p0,k01 B5.1 p1,k01 B5.1 p2,k01 B5.1 p3,k01 B5.1 p4,k01 B5.1 p5⟩)
     clear hb5;simp only[];refine hK.out _ _ (fun _=>HS5.1) ?_;clear hK K
     try refine Sm ?_
     refine WpL.E 11 HS5.1 ?_;refine WpL.done zz2 ?_ _;have R5:=Ac (Row w5 (.slice A6 k c6) 53 3 k (encF nx) g6/\Below w2.heap.size w2 w5) (⟨Z.1.2.1.below B5.1,Z.1.2.2.1.trans (B5.1.mono Z.1.2.2.1.size)⟩);cases t
     ·go_wp2_with fail
      refine WpL.region (fun(W:World)=>W.cell? ⟨b3,f3+k*3,none⟩=some (.int .i64 y.1)/\W.cell? ⟨b3,f3+k*3+1,none⟩=some (.int .i64 y.2.1)/\W.cell? ⟨b3,f3+k*3+2,none⟩=some (.int .i64 y.2.2)/\W.cell? ⟨bx,0,none⟩=some (.int .i64 x.src)/\W.cell? ⟨bx,1,none⟩=some (.int .i64 x.dst)/\W.cell? ⟨bx,2,none⟩=some (.int .i64 x.lane)) 99 zz2 ?_;refine WpL.E 0 HS5.1 ?_;refine WpL.E 1 HS5.1 ?_;refine WpL.E 2 HS5.1 ?_;refine WpL.E 3 HS5.1 ?_;refine WpL.E 4 HS5.1 ?_;refine WpL.E 5 HS5.1 ?_;refine WpL.E 6 HS5.1 ?_;refine WpL.E 7 HS5.1 ?_;refine WpL.E 8 HS5.1 ?_;refine WpL.E 9 HS5.1 ?_;refine WpL.takeE (i:=10) (v:=?vq9_10) (rfl) zz2 zz2 zz2 zz2 zz2 (fun _ _ _ h=>h) ?yq9_10 (HS5.1) ?rq9_10
      case yq9_10=>refine Or.inl ⟨?_,?_⟩;rfl;intro w hSw;go_simp;exact if3 (y.1=x.src) (y.2.1=x.dst) (y.2.2=x.lane) _
      refine Sm ?_;refine WpL.E 11 HS5.1 ?_;refine WpL.done zz2 ?_ _;obtain⟨_,_,_,z0,z1,z2⟩:=HS5.1;by_cases hq:y.1=x.src/\y.2.1=x.dst/\y.2.2=x.lane
      ·have hd:(decide (y.1=x.src) && (decide (y.2.1=x.dst) && decide (y.2.2=x.lane)))=true:=by
        obtain⟨h1,h2,h3⟩:=hq;simp[h1,h2,h3]
       rw[decide_eq_true hq,hd];clear hq hd;have hkk:k+1<=m:=hkm;obtain⟨i53,hi53,hs53⟩:=k7I;obtain⟨mm,hmm⟩:∃mm,mm=m-(k+1):=⟨_,rfl⟩;obtain⟨cm,hcm⟩:∃cm,cm=c3-(k+1):=⟨_,rfl⟩;obtain⟨A4,hA4⟩:∃A4,A4=(if c3=k+1 then(some ⟨b3,f3,none⟩) else((some ⟨b3,f3,none⟩):Option Addr).map (·.add ((k+1)*3))):=⟨_,rfl⟩;have CUT:=RF.1.1.cut (k+1) hkk;rw[<- hA4,<- hmm,<- hcm,k4y fs (k+1) (by have:=RF.1.2.2;omega)]at CUT;have CT:∀W:World,(Instr.slice 47 (.slice (some ⟨b3,f3,none⟩) m c3) (some (.int .i64 ((k:Int)+1))) none none).run Tryz.prog W=.ok (.slice A4 mm cm) W:=fun W=>by
        have h:=k0P 47 53 .i64 Tryz.underlying47 hi53 3 hs53 (some ⟨b3,f3,none⟩) m c3 ((k:Int)+1) zz1 zz1 W;rw[hA4,hmm,hcm];exact zz74
       have hsm:k+1+mm<=10000:=zz1
       have HC:=Ac (Row w2 (.slice A4 mm cm) 53 3 mm (encF (fs.drop (k+1))) g3/\mm+(k+1)=m/\k+1+mm<=i+1) (⟨CUT,zz1,zz1⟩);have HW:=Ac (Row w5.drew (.slice A6 k c6) 53 3 k (encF nx) g6/\Below w2.heap.size w2 w5.drew) (⟨R5.1.1.drew,R5.1.2.drew⟩);clear hmm hcm hA4 CUT hi53 hs53 hkk
       go_wp2_with(first
        |(at_builtin;refine k2Y rfl _ _ 47 53 (.agg #[.int .i64 0,.int .i64 0,.int .i64 0]) 3 24 rfl Tryz.underlying47 k3V rfl zz7 zz7 (.slice A7 (k+1) c7) (.slice A4 mm cm) (k+1) mm (encF nx++[.int .i64 x.src,.int .i64 x.dst,.int .i64 x.lane]) (encF (fs.drop (k+1))) g7 g3 K7.1.1 K7.1.2.2.2 rfl rfl (k4p _) zz1 ?_;intro v8 w8 g8 R8 O8 G8;have K8:=Ac (_/\_/\_) (⟨R8,O8,G8⟩);obtain⟨A8,c8,rfl,_⟩:=R8.size;clear R8 O8 G8)
        |(at_builtin;refine k0z rfl _ _ 47 53 (.agg #[.int .i64 0,.int .i64 0,.int .i64 0]) 3 24 rfl Tryz.underlying47 k3V rfl zz7 zz7 (.slice A6 k c6) k (encF nx) [.int .i64 x.src,.int .i64 x.dst,.int .i64 x.lane] g6 HW.1.1 rfl rfl rfl rfl zz33 zz1 ?_;intro v7 w7 g7 R7 O7 G7;have K7:=Ac (Row w7 v7 53 3 (k+1) (encF nx++[.int .i64 x.src,.int .i64 x.dst,.int .i64 x.lane]) g7/\Only (fun b=>g6=some b) w5.drew w7/\(g7=g6\/∃b,g7=some b/\w5.drew.heap.size<=b)/\Row w7 (.slice A4 mm cm) 53 3 mm (encF (fs.drop (k+1))) g3) (⟨R7,O7,G7,(HC.1.1.below HW.1.2).only O7 (fun b hb hg=>by have h1:=RF.1.2.1 b hb;have h2:=Z.1.2.2.2 b hg;have h3:=BX.1.2.1.size;omega)⟩);obtain⟨A7,c7,rfl,_⟩:=R7.size;clear R7 O7 G7))
       obtain⟨hbl,hge⟩:=k3A (Q.1.2.2.1.trans ((BX.1.2.1.trans (HW.1.2.mono BX.1.2.1.size)).mono Q.1.2.2.1.size)) (fun b hb=>by have h1:=Z.1.2.2.2 b hb;have h2:=BX.1.2.1.size;have h3:=Q.1.2.2.1.size;omega) K7.1.2.1 K7.1.2.2.1 K8.1.2.1 K8.1.2.2;have hln:(nx++[(x.src,x.dst,x.lane)]++fs.drop (k+1)).length=k+1+mm:=by
        rw[List.length_append,List.length_append,Z.1.1,List.length_drop,<- RF.1.2.2];have:=HC.1.2.1;exact zz84
       refine⟨⟨i+1,nx++[(x.src,x.dst,x.lane)]++fs.drop (k+1),g8,zz1,rfl,⟨by rw[hln];exact HC.1.2.2,?_,hbl,hge⟩⟩,?_⟩
       ·rw[hln,k16,k16,k4b]
        exact K8.1.1
       ·show n-ixOf (.int .i64 ((i:Int)+1))<n-ixOf (.int .i64 (i:Int))
        simp only[ixOf];exact zz1
      ·have hd:(decide (y.1=x.src) && (decide (y.2.1=x.dst) && decide (y.2.2=x.lane)))=false:=by
        rw[Bool.eq_false_iff];intro e;exact hq (by simpa using e)
       rw[decide_eq_false hq,hd];clear hq hd;have hkk:k<=m:=hk;obtain⟨i53,hi53,hs53⟩:=k7I;obtain⟨mm,hmm⟩:∃mm,mm=m-(k):=⟨_,rfl⟩;obtain⟨cm,hcm⟩:∃cm,cm=c3-(k):=⟨_,rfl⟩;obtain⟨A4,hA4⟩:∃A4,A4=(if c3=k then(some ⟨b3,f3,none⟩) else((some ⟨b3,f3,none⟩):Option Addr).map (·.add ((k)*3))):=⟨_,rfl⟩;have CUT:=RF.1.1.cut (k) hkk;rw[<- hA4,<- hmm,<- hcm,k4y fs (k) (by have:=RF.1.2.2;omega)]at CUT;have CT:∀W:World,(Instr.slice 47 (.slice (some ⟨b3,f3,none⟩) m c3) (some (.int .i64 (k:Nat))) none none).run Tryz.prog W=.ok (.slice A4 mm cm) W:=fun W=>by
        have h:=k0P 47 53 .i64 Tryz.underlying47 hi53 3 hs53 (some ⟨b3,f3,none⟩) m c3 (k:Nat) zz1 zz1 W;rw[hA4,hmm,hcm];exact zz74
       have hsm:k+1+mm<=10000:=zz1
       have HC:=Ac (Row w2 (.slice A4 mm cm) 53 3 mm (encF (fs.drop (k))) g3/\mm+(k)=m/\k+1+mm<=i+1) (⟨CUT,zz1,zz1⟩);have HW:=Ac (Row w5.drew (.slice A6 k c6) 53 3 k (encF nx) g6/\Below w2.heap.size w2 w5.drew) (⟨R5.1.1.drew,R5.1.2.drew⟩);clear hmm hcm hA4 CUT hi53 hs53 hkk
       go_wp2_with(first
        |(at_builtin;refine k2Y rfl _ _ 47 53 (.agg #[.int .i64 0,.int .i64 0,.int .i64 0]) 3 24 rfl Tryz.underlying47 k3V rfl zz7 zz7 (.slice A7 (k+1) c7) (.slice A4 mm cm) (k+1) mm (encF nx++[.int .i64 x.src,.int .i64 x.dst,.int .i64 x.lane]) (encF (fs.drop (k))) g7 g3 K7.1.1 K7.1.2.2.2 rfl rfl (k4p _) zz1 ?_;intro v8 w8 g8 R8 O8 G8;have K8:=Ac (_/\_/\_) (⟨R8,O8,G8⟩);obtain⟨A8,c8,rfl,_⟩:=R8.size;clear R8 O8 G8)
        |(at_builtin;refine k0z rfl _ _ 47 53 (.agg #[.int .i64 0,.int .i64 0,.int .i64 0]) 3 24 rfl Tryz.underlying47 k3V rfl zz7 zz7 (.slice A6 k c6) k (encF nx) [.int .i64 x.src,.int .i64 x.dst,.int .i64 x.lane] g6 HW.1.1 rfl rfl rfl rfl zz33 zz1 ?_;intro v7 w7 g7 R7 O7 G7;have K7:=Ac (Row w7 v7 53 3 (k+1) (encF nx++[.int .i64 x.src,.int .i64 x.dst,.int .i64 x.lane]) g7/\Only (fun b=>g6=some b) w5.drew w7/\(g7=g6\/∃b,g7=some b/\w5.drew.heap.size<=b)/\Row w7 (.slice A4 mm cm) 53 3 mm (encF (fs.drop (k))) g3) (⟨R7,O7,G7,(HC.1.1.below HW.1.2).only O7 (fun b hb hg=>by have h1:=RF.1.2.1 b hb;have h2:=Z.1.2.2.2 b hg;have h3:=BX.1.2.1.size;omega)⟩);obtain⟨A7,c7,rfl,_⟩:=R7.size;clear R7 O7 G7))
       obtain⟨hbl,hge⟩:=k3A (Q.1.2.2.1.trans ((BX.1.2.1.trans (HW.1.2.mono BX.1.2.1.size)).mono Q.1.2.2.1.size)) (fun b hb=>by have h1:=Z.1.2.2.2 b hb;have h2:=BX.1.2.1.size;have h3:=Q.1.2.2.1.size;omega) K7.1.2.1 K7.1.2.2.1 K8.1.2.1 K8.1.2.2;have hln:(nx++[(x.src,x.dst,x.lane)]++fs.drop (k)).length=k+1+mm:=by
        rw[List.length_append,List.length_append,Z.1.1,List.length_drop,<- RF.1.2.2];have:=HC.1.2.1;exact zz84
       refine⟨⟨i+1,nx++[(x.src,x.dst,x.lane)]++fs.drop (k),g8,zz1,rfl,⟨by rw[hln];exact HC.1.2.2,?_,hbl,hge⟩⟩,?_⟩
       ·rw[hln,k16,k16,k4b]
        exact K8.1.1
       ·show n-ixOf (.int .i64 ((i:Int)+1))<n-ixOf (.int .i64 (i:Int))
        simp only[ixOf];exact zz1
     ·obtain⟨z0,z1,z2,_,_,_⟩:=HS5.1
      go_wp2_with(at_builtin;refine k0z rfl _ _ 47 53 (.agg #[.int .i64 0,.int .i64 0,.int .i64 0]) 3 24 rfl Tryz.underlying47 k3V rfl zz7 zz7 (.slice A6 k c6) k (encF nx) [.int .i64 y.1,.int .i64 y.2.1,.int .i64 y.2.2] g6 R5.1.1 rfl rfl rfl rfl zz33 zz1 ?_;intro v1 w6 g1 R1p O1 G1;have K1:=Ac (_/\_/\_) (⟨R1p,O1,G1⟩);obtain⟨A1',k1,rfl,_⟩:=R1p.size;clear R1p O1 G1)
      refine⟨⟨k+1,nx++[y],g1,zz1,rfl,⟨by rw[List.length_append,Z.1.1];rfl,?_,?_,?_⟩⟩,?_⟩
      ·rw[k16,k4b];exact K1.1.1
      ·exact((Only.of_below (P:=fun b=>w2.heap.size<=b) R5.1.2).then K1.1.2.1 (fun b _ hq=>by have:=Z.1.2.2.2 b hq;omega)).toBelow (fun b hb hq=>by omega)
      ·intro b' hb'
       have hs5:=R5.1.2.size;rcases K1.1.2.2 with h|⟨b2,h,hb2⟩
       ·exact Z.1.2.2.2 b' (h▸hb')
       ·rw[h]at hb';cases hb';omega
      ·show m-ixOf (.int .i64 ((k:Int)+1))<m-ixOf (.int .i64 (k:Int))
       simp only[ixOf];exact zz1
    ·have e2:¬(k:Int)<(m:Int):=by omega
     obtain rfl:m=k:=by omega
     go_wp2_with fail
     refine WpL.region (fun(_:World)=>True) 99 zz2 ?_;refine WpL.E 0 trivial ?_;refine WpL.E 1 trivial ?_;refine WpL.E 2 trivial ?_;refine WpL.E 3 trivial ?_;refine WpL.E 4 trivial ?_;refine WpL.E 5 trivial ?_;refine WpL.E 6 trivial ?_;refine WpL.E 7 trivial ?_;refine WpL.E 8 trivial ?_;refine WpL.E 9 trivial ?_;refine WpL.one (i:=10) zz2 rfl (fun K hK=>?_);go_simp;refine hK.out _ _ (fun _=>trivial) ?_;clear hK K
     try refine Sm ?_
     refine WpL.E 11 trivial ?_;refine WpL.done zz2 ?_ _
     go_wp2_with fail
     refine WpL.region (fun(_:World)=>True) 99 zz2 ?_;refine WpL.E 0 trivial ?_;refine WpL.E 1 trivial ?_;refine WpL.E 2 trivial ?_;refine WpL.E 3 trivial ?_;refine WpL.E 4 trivial ?_;refine WpL.E 5 trivial ?_;refine WpL.E 6 trivial ?_;refine WpL.E 7 trivial ?_;refine WpL.E 8 trivial ?_;refine WpL.E 9 trivial ?_;refine WpL.E 10 trivial ?_;refine WpL.E 11 trivial ?_;refine WpL.done zz2 ?_ _;have hkk:m<=m:=Nat.le_refl _;obtain⟨i53,hi53,hs53⟩:=k7I;obtain⟨mm,hmm⟩:∃mm,mm=m-(m):=⟨_,rfl⟩;obtain⟨cm,hcm⟩:∃cm,cm=c3-(m):=⟨_,rfl⟩;obtain⟨A4,hA4⟩:∃A4,A4=(if c3=m then A3 else(A3:Option Addr).map (·.add ((m)*3))):=⟨_,rfl⟩;have CUT:=RF.1.1.cut (m) hkk;rw[<- hA4,<- hmm,<- hcm,k4y fs (m) (by have:=RF.1.2.2;omega)]at CUT;have CT:∀W:World,(Instr.slice 47 (.slice A3 m c3) (some (.int .i64 (m:Nat))) none none).run Tryz.prog W=.ok (.slice A4 mm cm) W:=fun W=>by
      have h:=k0P 47 53 .i64 Tryz.underlying47 hi53 3 hs53 A3 m c3 (m:Nat) zz1 zz1 W;rw[hA4,hmm,hcm];exact zz74
     have hsm:m+1+mm<=10000:=zz1
     have HC:=Ac (Row w2 (.slice A4 mm cm) 53 3 mm (encF (fs.drop (m))) g3/\mm+(m)=m/\m+1+mm<=i+1) (⟨CUT,zz1,zz1⟩);have HW:=Ac (Row wr.drew.drew (.slice A6 m c6) 53 3 m (encF nx) g6/\Below w2.heap.size w2 wr.drew.drew) (⟨Z.1.2.1.drew.drew,Z.1.2.2.1.drew.drew⟩);clear hmm hcm hA4 CUT hi53 hs53 hkk
     go_wp2_with(first
      |(at_builtin;refine k2Y rfl _ _ 47 53 (.agg #[.int .i64 0,.int .i64 0,.int .i64 0]) 3 24 rfl Tryz.underlying47 k3V rfl zz7 zz7 (.slice A7 (m+1) c7) (.slice A4 mm cm) (m+1) mm (encF nx++[.int .i64 x.src,.int .i64 x.dst,.int .i64 x.lane]) (encF (fs.drop (m))) g7 g3 K7.1.1 K7.1.2.2.2 rfl rfl (k4p _) zz1 ?_;intro v8 w8 g8 R8 O8 G8;have K8:=Ac (_/\_/\_) (⟨R8,O8,G8⟩);obtain⟨A8,c8,rfl,_⟩:=R8.size;clear R8 O8 G8)
      |(at_builtin;refine k0z rfl _ _ 47 53 (.agg #[.int .i64 0,.int .i64 0,.int .i64 0]) 3 24 rfl Tryz.underlying47 k3V rfl zz7 zz7 (.slice A6 m c6) m (encF nx) [.int .i64 x.src,.int .i64 x.dst,.int .i64 x.lane] g6 HW.1.1 rfl rfl rfl rfl zz33 zz1 ?_;intro v7 w7 g7 R7 O7 G7;have K7:=Ac (Row w7 v7 53 3 (m+1) (encF nx++[.int .i64 x.src,.int .i64 x.dst,.int .i64 x.lane]) g7/\Only (fun b=>g6=some b) wr.drew.drew w7/\(g7=g6\/∃b,g7=some b/\wr.drew.drew.heap.size<=b)/\Row w7 (.slice A4 mm cm) 53 3 mm (encF (fs.drop (m))) g3) (⟨R7,O7,G7,(HC.1.1.below HW.1.2).only O7 (fun b hb hg=>by have h1:=RF.1.2.1 b hb;have h2:=Z.1.2.2.2 b hg;have h3:=BX.1.2.1.size;omega)⟩);obtain⟨A7,c7,rfl,_⟩:=R7.size;clear R7 O7 G7))
     obtain⟨hbl,hge⟩:=k3A (Q.1.2.2.1.trans ((BX.1.2.1.trans (HW.1.2.mono BX.1.2.1.size)).mono Q.1.2.2.1.size)) (fun b hb=>by have h1:=Z.1.2.2.2 b hb;have h2:=BX.1.2.1.size;have h3:=Q.1.2.2.1.size;omega) K7.1.2.1 K7.1.2.2.1 K8.1.2.1 K8.1.2.2;have hln:(nx++[(x.src,x.dst,x.lane)]++fs.drop (m)).length=m+1+mm:=by
      rw[List.length_append,List.length_append,Z.1.1,List.length_drop,<- RF.1.2.2];have:=HC.1.2.1;exact zz84
     refine⟨⟨i+1,nx++[(x.src,x.dst,x.lane)]++fs.drop (m),g8,zz1,rfl,⟨by rw[hln];exact HC.1.2.2,?_,hbl,hge⟩⟩,?_⟩
     ·rw[hln,k16,k16,k4b]
      exact K8.1.1
     ·show n-ixOf (.int .i64 ((i:Int)+1))<n-ixOf (.int .i64 (i:Int))
      simp only[ixOf];exact zz1
  ·have e1:¬(i:Int)<(n:Int):=by omega
   obtain rfl:n=i:=by omega
   go_wp2;go_ret;exact⟨_,rfl,g3,fs,by have:=HM.1;omega,by have h:=Q.1.2.1;rw[<- HM.1]at h ⊢;exact h,Q.1.2.2⟩
end
end Go.Proofs.YtdopmlopafgonaaGreatDoor.Own
