/- TopQuick: one packet alone is brought from host to host (a part of the walks and of the plain laws). -/
import Derived.Test.YtdopmlopafgonaaGreatDoorC0
import Derived.Test.YtdopmlopafgonaaGreatDoorC35
set_option linter.unusedVariables false
set_option linter.unusedSimpArgs false
set_option maxHeartbeats 4000000
set_option maxRecDepth 100000
namespace Go.Proofs.YtdopmlopafgonaaGreatDoor.Own
open Go.RowKit Go.Proofs.YtdopmlopafgonaaGreatDoorW.PrintWords Go.Proofs.YtdopmlopafgonaaGreatDoorW.PrintLast Go.Proofs.YtdopmlopafgonaaGreatDoorW.PrintMore
def pkOf (F:Wire.Fr):Pk:=⟨F.a,F.b,F.l,F.y⟩
def DataRel (D:PlanD) (v i:Nat) (st:NSt) (F:Wire.Fr) (st':NSt):Prop:=
 ((D.nodes:Int)<=F.a\/(D.nodes:Int)<=F.b)/\st'=st \/
 (F.a<D.nodes/\F.b<D.nodes) /\
   ((k0q (st.rcv i F.l.toNat).1 F.s<(st.rcv i F.l.toNat).1\/(st.rcv i F.l.toNat).1+(D.room-(st.rcv i F.l.toNat).2)<=k0q (st.rcv i F.l.toNat).1 F.s)/\st'=st \/
    ((st.rcv i F.l.toNat).1<=k0q (st.rcv i F.l.toNat).1 F.s/\k0q (st.rcv i F.l.toNat).1 F.s<(st.rcv i F.l.toNat).1+(D.room-(st.rcv i F.l.toNat).2)) /\
     ∃ q',st' = { st with rcv:=upd2 st.rcv i F.l.toNat (k0q (st.rcv i F.l.toNat).1 F.s+1,(st.rcv i F.l.toNat).2+1),q:=q' } /\
      (q'=updw st.q (i,tw D v F.b.toNat,F.l.toNat) (st.q (i,tw D v F.b.toNat,F.l.toNat)++[pkOf F])\/(q'=st.q/\∃ a,st.q a≠[])))
section
variable {w:World} {o:Nat->Col} {v:Nat} {D:PlanD} {T:NTab} {st:NSt}
def kc8 (R:NSt->Prop) (w:World) (o:Nat->Col) (v:Nat) (D:PlanD) (T:NTab) (e:Ending) (w':World):Prop:=∃ (c:Int) (o':Nat->Col) (st':NSt),e = .returned (.int .u16 c)/\R st'/\NodeAt w' o' v D T st'/\Tr (k0u v) o w o' w'
theorem k7Y (i:Nat) (F:Wire.Fr) (M:Int) (C:Nat) (H:NodeAt w o v D T st) (G:Good D) (hv:v<D.nodes) (hf:Fresh o w) (K:NodeOk D v M C st) (hi1:1<=i) (hi:i<np D v) (hw:F.wf) (hl:F.l<D.lanes) :
 Calls Tryz.prog 100 #[.pointer (some ⟨T.g,0,none⟩),.int .i64 i,.agg #[.pointer (some ⟨T.snd i F.l.toNat,0,none⟩),.pointer (some ⟨T.rcv i F.l.toNat,0,none⟩)],.agg #[.int .u8 F.k,.int .u8 F.l,.int .u16 F.s,.int .u8 F.a,.int .u8 F.b,.int .u32 F.y]] w (kc8 (DataRel D v i st F) w o v D T):=by
 obtain ⟨⟨hk0,hk1⟩,⟨hl0,hl1⟩,⟨hs0,hs1⟩,⟨ha0,ha1⟩,⟨hb0,hb1⟩,⟨hy0,hy1⟩⟩:=hw;have hln:F.l.toNat<D.lanes:=by omega
 have B2:Below w.heap.size w ((w.alloc (.cells #[.pointer (some ⟨T.snd i F.l.toNat,0,none⟩),.pointer (some ⟨T.rcv i F.l.toNat,0,none⟩)] 148)).alloc (.cells #[.int .u8 F.k,.int .u8 F.l,.int .u16 F.s,.int .u8 F.a,.int .u8 F.b,.int .u32 F.y] 163)):=((Below.refl _ w).alloc (Nat.le_refl _) _).alloc zz17 _;obtain ⟨w2,hw2⟩:∃ w2,w2=(w.alloc (.cells #[.pointer (some ⟨T.snd i F.l.toNat,0,none⟩),.pointer (some ⟨T.rcv i F.l.toNat,0,none⟩)] 148)).alloc (.cells #[.int .u8 F.k,.int .u8 F.l,.int .u16 F.s,.int .u8 F.a,.int .u8 F.b,.int .u32 F.y] 163):=⟨_,rfl⟩;have Z1:w2.heap[w.heap.size]? = some (.cells #[.pointer (some ⟨T.snd i F.l.toNat,0,none⟩),.pointer (some ⟨T.rcv i F.l.toNat,0,none⟩)] 148):=by rw [hw2];exact (Below.heap_alloc _ _ _ zz17).trans (heap_alloc_new w _)
 have Z2:w2.heap[w.heap.size+1]? = some (.cells #[.int .u8 F.k,.int .u8 F.l,.int .u16 F.s,.int .u8 F.a,.int .u8 F.b,.int .u32 F.y] 163):=by
  have h:=heap_alloc_new (w.alloc (.cells #[.pointer (some ⟨T.snd i F.l.toNat,0,none⟩),.pointer (some ⟨T.rcv i F.l.toNat,0,none⟩)] 148)) (.cells #[.int .u8 F.k,.int .u8 F.l,.int .u16 F.s,.int .u8 F.a,.int .u8 F.b,.int .u32 F.y] 163);rw [World.size_alloc] at h;rw [hw2];exact h
 rw [<- hw2] at B2;obtain ⟨m,hm⟩:∃ m,m=if F.a<F.b then F.b else F.a:=⟨_,rfl⟩
 have m1:∀ W:World,(Builtin.max_ #[5,5] 5 #[.int .u8 F.a,.int .u8 F.b]).run Tryz.prog W = .ok (.int .u8 m) W:=fun W=>by
  simp only [k1q,k17];rw [hm];simp [Sem.run_bind]
 have hm0:0<=m/\m<=255:=by rw [hm];split <;> omega
 have u1:IntKind.i64.wrap m=m:=IntWalk.i64_in _ zz1;have H2:=Ab (H.blw hf B2);have HS:=Ab (show (fun (W:World)=>W.cell? ⟨w.heap.size+1,3,none⟩=some (.int .u8 F.a)/\W.cell? ⟨w.heap.size+1,4,none⟩=some (.int .u8 F.b)/\W.cell? ⟨T.g,1,none⟩=some (.int .i64 D.nodes)) w2 from ⟨(k00 Z2 3).trans rfl,(k00 Z2 4).trans rfl,(k00 H2.out.blk 1).trans rfl⟩);have ZZ:=Ab Z2;have b1:=fun j=>k00 Z1 j
 have b2:=fun j=>k00 Z2 j
 have H0:=Ab (show _/\_/\_/\_/\_ from ⟨H,G,hf,K,B2⟩);have HM:=Ab hm;have HW2:=Ab hw2;clear H G hf K B2 hm hw2;go_enter Tryz.func100,Tryz.ntmps100;go_wp2;rw [<- HW2.out];refine WpL.region (fun (W:World)=>W.cell? ⟨w.heap.size+1,3,none⟩=some (.int .u8 F.a)/\W.cell? ⟨w.heap.size+1,4,none⟩=some (.int .u8 F.b)/\W.cell? ⟨T.g,1,none⟩=some (.int .i64 D.nodes)) 99 zz3 ?_;refine WpL.E 0 HS.out ?_;refine WpL.E 1 HS.out ?_;refine WpL.E 2 HS.out ?_;refine WpL.E 3 HS.out ?_;refine WpL.E 4 HS.out ?_;refine WpL.E 5 HS.out ?_;refine WpL.E 6 HS.out ?_;refine WpL.E 7 HS.out ?_;refine WpL.E 8 HS.out ?_;refine WpL.E 9 HS.out ?_;refine WpL.E 10 HS.out ?_;refine WpL.E 11 HS.out ?_;refine WpL.done zz3 ?_ _;by_cases hbig:(D.nodes:Int)<=m
 · have HB:=Ab hbig
   have e1:decide ((D.nodes:Int)<=m)=true:=decide_eq_true hbig;clear b1 b2 m1;go_wp2;go_ret;refine ⟨_,o,st,rfl,.inl ⟨?_,rfl⟩,?_,?_⟩
   · have:=HB.out;rw [HM.out] at this;split at this <;> omega
   · exact H2.out.blw (H0.out.2.2.1.blw H0.out.2.2.2.2) ((Below.refl _ _).drew)
   · exact Tr.below H0.out.2.2.1 (H0.out.2.2.2.2.drew)
 · have e1:decide ((D.nodes:Int)<=m)=false:=decide_eq_false hbig
   have HB:=Ab (show F.a<D.nodes/\F.b<D.nodes from by rw [HM.out] at hbig;split at hbig <;> omega);have hmn:m<(D.nodes:Int):=by omega
   clear hbig m1;have F2:=Ab (H0.out.2.2.1.blw H0.out.2.2.2.2);have HD:=Ab (H2.out.blw F2.out ((Below.refl _ _).drew));have FD:=Ab (F2.out.blw ((Below.refl _ w2).drew));obtain ⟨x,hx⟩:∃ x,x=(st.rcv i F.l.toNat).1:=⟨_,rfl⟩;obtain ⟨h,hh⟩:∃ h,h=(st.rcv i F.l.toNat).2:=⟨_,rfl⟩;have r0:=H0.out.2.2.2.1.num.r0 i F.l.toNat hi1 hi hln;have r1:=H0.out.2.2.2.1.num.r1 i F.l.toNat hi1 hi hln;have r2:=H0.out.2.2.2.1.num.r2 i F.l.toNat hi1 hi hln;have r3:=H0.out.2.2.2.1.num.r3 i F.l.toNat hi1 hi hln;have hrm:=H0.out.2.1.r1;have RS:=Ab (show RcvSt w2.drew w2.drew (T.rcv i F.l.toNat) x h D.room from by rw [hx,hh];exact HD.out.rcvSt i F.l.toNat hi1 hi hln);rw [<- hx] at r0 r1;rw [<- hh] at r2 r3;have HX:=Ab (show _/\_ from ⟨hx,hh⟩);clear hx hh;by_cases hst:k0q x F.s<x
   · have HC:=Ab hst
     clear hst
     go_wp2_with (go_at_call 135;refine (k4G (T.rcv i F.l.toNat) x h D.room F.s _ _ RS.out r0 zz1 r2 r3 zz1 HC.out).mono ?_;rintro e w3 ⟨rfl,hr⟩;have B3:=Ab (show Below w2.heap.size w2 w3 from undrew (RS.out.blw hr));have H3:=Ab (H2.out.blw F2.out B3.out);clear hr)
     go_ret;refine ⟨_,o,st,rfl,.inr ⟨HB.out,.inl ⟨.inl (by rw [<- HX.out.1];exact HC.out),rfl⟩⟩,H3.out,Tr.below H0.out.2.2.1 (H0.out.2.2.2.2.trans (B3.out.mono H0.out.2.2.2.2.size))⟩
   by_cases hov:x+(D.room-h)<=k0q x F.s
   · have HC:=Ab hov
     clear hst hov
     go_wp2_with (go_at_call 135;refine (k5G (T.rcv i F.l.toNat) x h D.room F.s _ _ RS.out r0 zz1 r2 r3 zz1 HC.out).mono ?_;rintro e w3 ⟨rfl,hr⟩;have B3:=Ab (show Below w2.heap.size w2 w3 from undrew (RS.out.blw hr));have H3:=Ab (H2.out.blw F2.out B3.out);clear hr)
     go_ret;refine ⟨_,o,st,rfl,.inr ⟨HB.out,.inl ⟨.inr (by rw [<- HX.out.1,<- HX.out.2];exact HC.out),rfl⟩⟩,H3.out,Tr.below H0.out.2.2.1 (H0.out.2.2.2.2.trans (B3.out.mono H0.out.2.2.2.2.size))⟩
   have HC:=Ab (show x<=k0q x F.s/\k0q x F.s<x+(D.room-h) from zz1);obtain ⟨X,hX⟩:∃ X,X=k0q x F.s:=⟨_,rfl⟩;rw [<- hX] at HC;have HXX:=Ab hX;have hl3:=H0.out.2.1.l1;have v1:IntKind.i64.wrap F.a=F.a:=IntWalk.i64_in _ zz1;have v2:IntKind.i64.wrap F.b=F.b:=IntWalk.i64_in _ zz1;have v3:IntKind.i64.wrap F.l=F.l:=IntWalk.i64_in _ zz1;clear hst hov hX
   go_wp2_with (go_at_call 135;refine (k6Q X (T.rcv i F.l.toNat) x h D.room F.s _ _ RS.out r0 zz1 r2 r3 zz1 HXX.out.symm HC.out.1 HC.out.2).mono ?_;rintro e w3 ⟨rfl,hr⟩;have O3:=Ab (show Only (fun b=>o b = .rcv v i F.l.toNat) w2.drew w3 from hr.2.mono (fun b _ e=>by rw [e];exact (H2.out.rcv i F.l.toNat hi1 hi hln).1));have H3:=Ab (HD.out.rcvTo FD.out hi1 hi hln hr);have F3:=Ab (show Fresh o w3 from fun b hb=>FD.out b (Nat.le_trans O3.out.size hb));have Z3:=(O3.out.keep (w.heap.size+1) (k03 ZZ.out) (fun e=>by rw [H0.out.2.2.1 _ zz1] at e;cases e)).trans ZZ.out;have b3:=fun j=>k00 Z3 j;clear hr Z3)
   have BP:=Ab (show Below w3.heap.size w3 (w3.alloc (.cells #[.int .i64 F.a,.int .i64 F.b,.int .i64 F.l,.int .u32 F.y] 40)) from (Below.refl _ _).alloc (Nat.le_refl _) _);have H4:=Ab (H3.out.blw F3.out BP.out);have F4:=Ab (F3.out.blw BP.out);obtain ⟨q0,q1,q2,q3⟩:=box4 (w:=w3) (heap_alloc_new w3 (.cells #[.int .i64 F.a,.int .i64 F.b,.int .i64 F.l,.int .u32 F.y] 40));have HS7:=Ab (show (fun (W:World)=>W.cell? ⟨T.g,15,none⟩=some (.pointer (some ⟨T.rings,0,none⟩))/\W.cell? ⟨w3.heap.size,0,none⟩=some (.int .i64 F.a)/\W.cell? ⟨w3.heap.size,1,none⟩=some (.int .i64 F.b)/\W.cell? ⟨w3.heap.size,2,none⟩=some (.int .i64 F.l)/\W.cell? ⟨w3.heap.size,3,none⟩=some (.int .u32 F.y)) (w3.alloc (.cells #[.int .i64 F.a,.int .i64 F.b,.int .i64 F.l,.int .u32 F.y] 40)) from ⟨(k00 H4.out.blk 15).trans rfl,q0,q1,q2,q3⟩);obtain ⟨d,hd⟩:∃ d,d=F.b.toNat:=⟨_,rfl⟩;have hbd:F.b=(d:Nat):=by omega
   have hdn:d<D.nodes:=by have:=HB.out.2;omega
   have HTW:=Ab (kbU H0.out.2.1 hv hdn);have HTC:=Ab (show Calls Tryz.prog 122 #[.pointer (some ⟨T.g,0,none⟩),.int .i64 F.b] (w3.alloc (.cells #[.int .i64 F.a,.int .i64 F.b,.int .i64 F.l,.int .u32 F.y] 40)).drew _ from by
    have h:=k3L d (H4.out.blw F4.out (Below.refl _ _).drew) H0.out.2.1 hv hdn (F4.out.blw (Below.refl _ _).drew);rw [<- hbd] at h;exact h)
   obtain ⟨l,hll⟩:∃ l,l=F.l.toNat:=⟨_,rfl⟩;have hld:F.l=(l:Nat):=by omega
   have HLD:=Ab (show _/\_/\_ from ⟨hd,hll,hld⟩);clear q0 q1 q2 q3 hd hbd hdn hll hld b3;refine WpL.region (fun (W:World)=>W.cell? ⟨T.g,15,none⟩=some (.pointer (some ⟨T.rings,0,none⟩))/\W.cell? ⟨w3.heap.size,0,none⟩=some (.int .i64 F.a)/\W.cell? ⟨w3.heap.size,1,none⟩=some (.int .i64 F.b)/\W.cell? ⟨w3.heap.size,2,none⟩=some (.int .i64 F.l)/\W.cell? ⟨w3.heap.size,3,none⟩=some (.int .u32 F.y)) 12 zz3 ?_;refine WpL.T 0 [3,2,1] HS7.out ?_;refine WpL.T 1 [3,2] HS7.out ?_;refine WpL.T 2 [3] HS7.out ?_;refine WpL.T 3 [] HS7.out ?_;refine WpL.T 4 [] HS7.out ?_;refine WpL.T 5 [8] HS7.out ?_;refine WpL.T 6 [8,7] HS7.out ?_;refine WpL.T 7 [8] HS7.out ?_;refine WpL.T 9 [10] HS7.out ?_;refine WpL.T 10 [] HS7.out ?_;refine WpL.T 11 [] HS7.out ?_;refine WpL.one (i:=8) zz3 rfl (fun K hK=>?_);go_simp;refine HTC.out.mono ?_;rintro e w5 ⟨rfl,hb⟩;have B5:=Ab (undrew hb);have HS5:=Ab (show (fun (W:World)=>W.cell? ⟨T.g,15,none⟩=some (.pointer (some ⟨T.rings,0,none⟩))/\W.cell? ⟨w3.heap.size,0,none⟩=some (.int .i64 F.a)/\W.cell? ⟨w3.heap.size,1,none⟩=some (.int .i64 F.b)/\W.cell? ⟨w3.heap.size,2,none⟩=some (.int .i64 F.l)/\W.cell? ⟨w3.heap.size,3,none⟩=some (.int .u32 F.y)) w5 from by obtain ⟨k0,k1,k2,k3,k4⟩:=HS7.out;exact ⟨k01 B5.out k0,k01 B5.out k1,k01 B5.out k2,k01 B5.out k3,k01 B5.out k4⟩);clear hb;simp only [];refine hK.out _ _ (fun _=>HS5.out) ?_;clear hK K
   try refine Sm ?_
   refine WpL.one (i:=12) zz3 rfl (fun K hK=>?_);go_simp;have hp:=k4Y i (tw D v d) l (pkOf F) (F4.out.blw B5.out) zz17 zz17 zz17 (H4.out.blw F4.out B5.out).rings (H4.out.rings_n H0.out.2.1 hv) zz1 (by have:=HTW.out;omega) (by have:=HLD.out.2.1;omega);rw [show ((l:Nat):Int)=F.l from HLD.out.2.2.symm] at hp;refine hp.mono ?_;rintro e w6 ⟨b6,o6,q6,rfl,t6,r6,c6⟩;have K6:=Ab (show _/\_/\_ from ⟨t6,r6,c6⟩);clear t6 r6 c6;simp only [];refine hK.out _ _ (fun h=>absurd rfl h) ?_;clear hK K
   try refine Sm ?_
   refine WpL.done zz3 ?_ _;go_wp2;go_ret;have H6:=(H4.out.blw F4.out B5.out).ringsTo K6.out.1 K6.out.2.1;refine ⟨0,o6,_,eset _ _ rfl,.inr ⟨HB.out,.inr ⟨?_,q6,?_,?_⟩⟩,H6,?_⟩
   · rw [<- HX.out.1,<- HX.out.2,<- HXX.out];exact HC.out
   · rw [<- HX.out.1,<- HX.out.2,<- HXX.out]
   · rw [<- HLD.out.1,<- HLD.out.2.1];exact K6.out.2.2
   · exact (((Tr.below (S:=k0u v) H0.out.2.2.1 H0.out.2.2.2.2.drew).then (Tr.same (S:=fun c=>c = .rcv v i F.l.toNat) FD.out O3.out) (fun c e=>by rw [e];rfl)).then (Tr.below (S:=k0u v) F3.out (BP.out.trans (B5.out.mono BP.out.size))) (fun _ x=>x)).then K6.out.1 (fun c e=>by rcases e with e | e <;> rw [e] <;> rfl)
end
def k43 (x h r b:Int):Int:=if k0q x b<=x\/x+(r-h)<k0q x b then x else k0q x b
def TakeRel (D:PlanD) (v i:Nat) (st:NSt) (row:List Int) (st':NSt):Prop:=
 match Wire.dec row with
 | none=>st'=st
 | some F=>((D.lanes:Int)<=F.l/\st'=st)\/(F.l<D.lanes /\
    ((F.k=2/\st' = { st with snd:=upd2 st.snd i F.l.toNat ((st.snd i F.l.toNat).1,k4E (st.snd i F.l.toNat).1 (st.snd i F.l.toNat).2 F.s) }) \/
     (F.k=3/\st' = { st with rcv:=upd2 st.rcv i F.l.toNat (k43 (st.rcv i F.l.toNat).1 (st.rcv i F.l.toNat).2 D.room F.s,(st.rcv i F.l.toNat).2) }) \/
     (F.k=1/\DataRel D v i st F st')))
theorem k8E {w:World} {A:Addr} {n c:Nat} {row:List Int} {g:Option Nat} (R:Row w (.slice (some A) n c) 5 1 n (u8s row) g) (hn:row.length=n) (h1:n<=1000):ReadsInt w .u8 (some A) n row:=by
 refine ⟨hn,zz1,fun h0=>⟨A,rfl,fun j hj=>?_⟩⟩;obtain ⟨b,off,cap,_,hA,_,_,hc⟩:=R.open h0;simp only [Value.slice.injEq,Option.some.injEq,true_and] at hA;obtain ⟨rfl,rfl⟩:=hA;rw [Addr.add_lit];rw [hc j (by simp [u8s];omega)];simp only [u8s,List.getElem?_map,List.getD_eq_getElem?_getD];rw [List.getElem?_eq_getElem zz1];rfl
theorem kaa (g:Nat) (x h r b:Int) (w0 w:World) (s:RcvSt w0 w g x h r) (x0:0<=x) (x1:x<=9000000000000000000) (h0:0<=h) (h1:h<=r) (h2:r<=8) :
 Calls Tryz.prog 99 #[.pointer (some ⟨g,0,none⟩),.int .u16 b] w fun e w'=>(∃ q,e = .returned (.bool q))/\RcvSt w0 w' g (k43 x h r b) h r:=by
 by_cases hc:k0q x b<=x\/x+(r-h)<k0q x b
 · refine (k70 g x h r b w0 w s x0 x1 h0 h1 h2 hc).mono ?_
   rintro e w' ⟨rfl,hs⟩;rw [show k43 x h r b=x from if_pos hc];exact ⟨⟨_,rfl⟩,hs⟩
 · refine (k6u (k0q x b) g x h r b w0 w s x0 x1 h0 h1 h2 rfl zz1 zz1).mono ?_
   rintro e w' ⟨rfl,hs⟩;rw [show k43 x h r b=k0q x b from if_neg hc];exact ⟨⟨_,rfl⟩,hs⟩
section
variable {w:World} {o:Nat->Col} {v:Nat} {D:PlanD} {T:NTab} {st:NSt}
theorem k9h (H:NodeAt w o v D T st) (G:Good D) (hv:v<D.nodes):∀ W:World,(Instr.slice 97 (.slice (some ⟨T.pb,T.po,none⟩) (np D v:Nat) T.pc) (some (.int .i64 1)) none none).run Tryz.prog W = .ok (.slice (some ⟨T.pb,T.po+3,none⟩) ((D.bs v).length:Nat) (T.pc-1)) W:=fun W=>by
 obtain ⟨i97,hi97,_,hs97,_⟩:=info_parts k5U;have hnp:=k6J G hv;obtain ⟨_,cp,hcp,hle⟩:=H.ports.size;cases hcp;have h:=k12 97 141 .i64 Tryz.underlying97 hi97 3 hs97 (some ⟨T.pb,T.po,none⟩) (np D v) T.pc 1 zz1 zz1 W;have e:(if T.pc=1 then some (⟨T.pb,T.po,none⟩:Addr) else (some (⟨T.pb,T.po,none⟩:Addr)).map (·.add (1*3)))=some ⟨T.pb,T.po+3,none⟩:=by
  rw [if_neg zz1,Option.map_some,Addr.add_lit]
 rw [<- e,show (D.bs v).length=np D v-1 from rfl];exact h
def k07 (D:PlanD) (v u:Nat):Nat:=(D.bs v).idxOf u+1
theorem k0O {D:PlanD} {v u:Nat} (h:u∈D.bs v):k07 D v u<np D v:=by
 have:=List.idxOf_lt_length_of_mem h;unfold k07 np;exact zz1
theorem k3l (u:Nat) (M:Int) (C:Nat) (A:Addr) (n c:Nat) (row:List Int) (g:Option Nat) (H:NodeAt w o v D T st) (G:Good D) (hv:v<D.nodes) (hf:Fresh o w) (K:NodeOk D v M C st) (hu:u∈D.bs v) (R:Row w (.slice (some A) n c) 5 1 n (u8s row) g) (hn:row.length=n) (hn12:n<=12) (hO:Wire.Oct row) :
 Calls Tryz.prog 53 #[.pointer (some ⟨T.g,0,none⟩),.int .i64 u,.slice (some A) n c] w (kc8 (TakeRel D v (k07 D v u) st row) w o v D T):=by
 obtain ⟨i,hi⟩:∃ i,i=k07 D v u:=⟨_,rfl⟩;have hi1:1<=i:=by rw [hi];unfold k07;omega
 have hin:i<np D v:=by rw [hi];exact k0O hu
 have hnp:=k2k G hv;have CT:=k9h H G hv;have B1:Below w.heap.size w (w.alloc (.cells #[.int .i64 u] 3)):=(Below.refl _ w).alloc (Nat.le_refl _) _;have H1:=Ab (H.blw hf B1);have F1:=Ab (hf.blw B1);have Z1:=Ab (show (w.alloc (.cells #[.int .i64 u] 3)).cell? ⟨w.heap.size,0,none⟩=some (.int .i64 u) from (k00 (heap_alloc_new w _) 0).trans rfl);have b13:(w.alloc (.cells #[.int .i64 u] 3)).cell? ⟨T.g,13,none⟩=some (.slice (some ⟨T.pb,T.po,none⟩) (np D v:Nat) T.pc):=(k00 H1.out.blk 13).trans rfl;have hgl:=k03 H.blk;have b13':w.cell? ⟨T.g,13,none⟩=some (.slice (some ⟨T.pb,T.po,none⟩) (np D v:Nat) T.pc):=(k00 H.blk 13).trans rfl;have H0:=Ab (show _/\_/\_/\_/\_/\_/\_/\_/\_ from ⟨H,G,hf,K,hu,R,hn,hO,B1⟩);have HI:=Ab hi;clear H G hf K hu R hn hO B1 hi;go_enter Tryz.func53,Tryz.ntmps53
 go_wp2_with (go_at_call 94;refine (kbo u w.heap.size H1.out H0.out.2.1 hv F1.out Z1.out).mono ?_;rintro e w2 ⟨r,rfl,hr,hb⟩;obtain rfl:=k2S (k3V D v) H0.out.2.2.2.2.1 hr;have B2:=Ab hb;have hxe:((D.bs v).idxOf u:Int)=(i:Int)-1:=(by have:=HI.out;unfold k07 at this;omega);rw [hxe];clear hb hr hxe)
 have L2:=Ab (H0.out.2.2.2.2.2.2.2.2.trans (B2.out.mono H0.out.2.2.2.2.2.2.2.2.size));have H2:=Ab (H1.out.blw F1.out B2.out);have F2:=Ab (F1.out.blw B2.out);have hcap:n<=c:=by obtain ⟨_,_,h1,h2⟩:=H0.out.2.2.2.2.2.1.size;cases h1;exact h2
 have HD:=Ab (show Calls Tryz.prog 96 #[.slice (some A) n c] w2 (Wire.Back w2 (Wire.Fr.or (Wire.dec row)) (Wire.code (Wire.dec row))) from by
  have h:=Wire.dec_calls (some A) c row w2 (by have:=k8E (H0.out.2.2.2.2.2.1.below L2.out) H0.out.2.2.2.2.2.2.1 zz1;rw [H0.out.2.2.2.2.2.2.1];exact this) (by rw [H0.out.2.2.2.2.2.2.1];exact hcap) H0.out.2.2.2.2.2.2.2.1;rw [H0.out.2.2.2.2.2.2.1] at h;exact h)
 cases hdec:Wire.dec row with
 | none=>
   rw [hdec] at HD;have HN:=Ab hdec;clear hdec;refine HD.out.mono ?_;intro e w3 hbk;obtain ⟨rfl,hb⟩:e = .returned (.tuple #[.agg #[.int .u8 0,.int .u8 0,.int .u16 0,.int .u8 0,.int .u8 0,.int .u32 0],.int .u16 30])/\Below w2.heap.size w2 w3:=hbk;have B3:=Ab hb;clear hb;go_wp2;go_ret;have B4:Below w2.heap.size w2 (w3.alloc (.cells #[.int .u8 0,.int .u8 0,.int .u16 0,.int .u8 0,.int .u8 0,.int .u32 0] 163)):=B3.out.alloc B3.out.size _;refine ⟨30,o,st,eset _ _ rfl,?_,H2.out.blw F2.out B4,Tr.below H0.out.2.2.1 (L2.out.trans (B4.mono L2.out.size))⟩;unfold TakeRel;rw [HN.out]
 | some F=>
   rw [hdec] at HD;obtain ⟨_,hwf,hsd⟩:=Wire.dec_bytes H0.out.2.2.2.2.2.2.2.1 hdec;have HWF:=Ab (show _/\_ from ⟨hwf,hsd⟩);obtain ⟨⟨hk0,hk1⟩,⟨hl0,hl1⟩,⟨hs0,hs1⟩,_,_,_⟩:=hwf;have HN:=Ab hdec;have u1:IntKind.i64.wrap F.l=F.l:=IntWalk.i64_in _ zz1;obtain ⟨l,hll⟩:∃ l,l=F.l.toNat:=⟨_,rfl⟩;have hld:F.l=(l:Nat):=by omega
   have HLD:=Ab (show _/\_ from ⟨hll,hld⟩);clear hdec hsd hll hld;by_cases hlan:(D.lanes:Int)<=F.l
   · have HE:=Ab hlan
     clear hlan;refine HD.out.mono ?_;intro e w3 hbk;obtain ⟨rfl,hb⟩:e = .returned (.tuple #[.agg #[.int .u8 F.k,.int .u8 F.l,.int .u16 F.s,.int .u8 F.a,.int .u8 F.b,.int .u32 F.y],.int .u16 0])/\Below w2.heap.size w2 w3:=hbk;have B3:=Ab hb;have B4:=Ab (show Below w2.heap.size w2 (w3.alloc (.cells #[.int .u8 F.k,.int .u8 F.l,.int .u16 F.s,.int .u8 F.a,.int .u8 F.b,.int .u32 F.y] 163)) from hb.alloc hb.size _);have H4:=Ab (H2.out.blw F2.out B4.out);have F4:=Ab (F2.out.blw B4.out);clear hb
     go_wp2_with (first
      | (go_at_call 97;have h:=kbK i l H4.out F4.out hi1 hin (by have:=HE.out;have:=HLD.out.2;omega);rw [show ((l:Nat):Int)=F.l from HLD.out.2.symm] at h;refine h.mono ?_;clear h;rintro e w5 ⟨rfl,hb⟩;have B5:=Ab hb;clear hb))
     go_ret;have B6:Below w2.heap.size w2 (w5.alloc (.cells #[.pointer none,.pointer none] 148)):=(B4.out.trans (B5.out.mono B4.out.size)).alloc (Nat.le_trans B4.out.size B5.out.size) _;refine ⟨30,o,st,eset _ _ rfl,?_,H2.out.blw F2.out B6,Tr.below H0.out.2.2.1 (L2.out.trans (B6.mono L2.out.size))⟩;unfold TakeRel;rw [HN.out];exact .inl ⟨HE.out,rfl⟩
   · have hlt:F.l<D.lanes:=by omega
     have hln:l<D.lanes:=by have:=HLD.out.2;omega
     have HE:=Ab hlt;clear hlan;have hk:=Wire.sound_iff.1 HWF.out.2;have hkk:F.k=1\/F.k=2\/F.k=3:=by rcases hk.2 with h | h;exact .inl h.1;exact h.1.elim (fun h=>.inr (.inl h)) (fun h=>.inr (.inr h))
     clear hk;refine HD.out.mono ?_;intro e w3 hbk;obtain ⟨rfl,hb⟩:e = .returned (.tuple #[.agg #[.int .u8 F.k,.int .u8 F.l,.int .u16 F.s,.int .u8 F.a,.int .u8 F.b,.int .u32 F.y],.int .u16 0])/\Below w2.heap.size w2 w3:=hbk;have B3:=Ab hb;have B4:=Ab (show Below w2.heap.size w2 (w3.alloc (.cells #[.int .u8 F.k,.int .u8 F.l,.int .u16 F.s,.int .u8 F.a,.int .u8 F.b,.int .u32 F.y] 163)) from hb.alloc hb.size _);have H4:=Ab (H2.out.blw F2.out B4.out);have F4:=Ab (F2.out.blw B4.out);clear hb;rcases hkk with hk | hk | hk
     · have HK:=Ab hk
       have e2:(F.k == 2)=false:=by simp;omega
       have e3:(F.k == 3)=false:=by simp;omega
       clear hk
       go_wp2_with (first
        | (go_at_call 97;have h:=k1L i l H4.out H0.out.2.1 hv F4.out hi1 hin hln;rw [show ((l:Nat):Int)=F.l from HLD.out.2.symm] at h;refine h.mono ?_;clear h;rintro e w5 ⟨rfl,hb⟩;have B6:=Ab (show Below w2.heap.size w2 (w5.alloc (.cells #[.pointer (some ⟨T.snd i l,0,none⟩),.pointer (some ⟨T.rcv i l,0,none⟩)] 148)) from (B4.out.trans (hb.mono B4.out.size)).alloc (Nat.le_trans B4.out.size hb.size) _);have Z5:=(hb.block w3.heap.size zz17).trans (heap_alloc_new w3 (.cells #[.int .u8 F.k,.int .u8 F.l,.int .u16 F.s,.int .u8 F.a,.int .u8 F.b,.int .u32 F.y] 163));have n5:=k03 Z5;have z5:=fun j=>k00 Z5 j;have H6:=Ab (H2.out.blw F2.out B6.out);have F6:=Ab (F2.out.blw B6.out);clear hb Z5)
        | (go_at_call 100;have h:=k7Y i F M C H6.out H0.out.2.1 hv F6.out H0.out.2.2.2.1 hi1 hin HWF.out.1 HE.out;rw [<- HLD.out.1] at h;refine h.mono ?_;clear h;rintro e w7 ⟨cc,o7,s7,rfl,hd,hn7,ht7⟩;have K7:=Ab (show _/\_/\_ from ⟨hd,hn7,ht7⟩);clear hd hn7 ht7))
       go_ret;refine ⟨cc,o7,s7,eset _ _ rfl,?_,K7.out.2.1,(Tr.below (S:=k0u v) H0.out.2.2.1 (L2.out.trans (B6.out.mono L2.out.size))).then K7.out.2.2 (fun _ x=>x)⟩;unfold TakeRel;rw [HN.out];exact .inr ⟨HE.out,.inr (.inr ⟨HK.out,by rw [<- HI.out];exact K7.out.1⟩)⟩
     · have HK:=Ab hk
       have e2:(F.k == 2)=true:=by simp;omega
       clear hk
       go_wp2_with (first
        | (go_at_call 97;have h:=k1L i l H4.out H0.out.2.1 hv F4.out hi1 hin hln;rw [show ((l:Nat):Int)=F.l from HLD.out.2.symm] at h;refine h.mono ?_;clear h;rintro e w5 ⟨rfl,hb⟩;have B6:=Ab (show Below w2.heap.size w2 (w5.alloc (.cells #[.pointer (some ⟨T.snd i l,0,none⟩),.pointer (some ⟨T.rcv i l,0,none⟩)] 148)) from (B4.out.trans (hb.mono B4.out.size)).alloc (Nat.le_trans B4.out.size hb.size) _);have Z5:=(hb.block w3.heap.size zz17).trans (heap_alloc_new w3 (.cells #[.int .u8 F.k,.int .u8 F.l,.int .u16 F.s,.int .u8 F.a,.int .u8 F.b,.int .u32 F.y] 163));have n5:=k03 Z5;have z5:=fun j=>k00 Z5 j;have H6:=Ab (H2.out.blw F2.out B6.out);have F6:=Ab (F2.out.blw B6.out);clear hb Z5)
        | (go_at_call 98;refine (k4w (T.snd i l) _ _ F.s _ _ (H6.out.sndSt i l hi1 hin hln) (H0.out.2.2.2.1.num.s0 i l hi1 hin hln) (by have:=H0.out.2.2.2.1.num.s3 i l hi1 hin hln;omega)).mono ?_;rintro e w7 ⟨rfl,hs⟩;have K7:=Ab (show _/\_ from ⟨H6.out.sndTo F6.out hi1 hin hln hs,(show Only (fun b=>o b = .snd v i l) _ w7 from hs.2.mono (fun b _ e=>by rw [e];exact (H6.out.snd i l hi1 hin hln).1))⟩);clear hs))
       go_ret;refine ⟨0,o,_,eset _ _ rfl,?_,K7.out.1,(Tr.below (S:=k0u v) H0.out.2.2.1 (L2.out.trans (B6.out.mono L2.out.size))).then (Tr.same (S:=fun c=>c = .snd v i l) F6.out K7.out.2) (fun c e=>by rw [e];rfl)⟩;unfold TakeRel;rw [HN.out];exact .inr ⟨HE.out,.inl ⟨HK.out,by rw [<- HI.out,<- HLD.out.1]⟩⟩
     · have HK:=Ab hk
       have e2:(F.k == 2)=false:=by simp;omega
       have e3:(F.k == 3)=true:=by simp;omega
       clear hk
       go_wp2_with (first
        | (go_at_call 97;have h:=k1L i l H4.out H0.out.2.1 hv F4.out hi1 hin hln;rw [show ((l:Nat):Int)=F.l from HLD.out.2.symm] at h;refine h.mono ?_;clear h;rintro e w5 ⟨rfl,hb⟩;have B6:=Ab (show Below w2.heap.size w2 (w5.alloc (.cells #[.pointer (some ⟨T.snd i l,0,none⟩),.pointer (some ⟨T.rcv i l,0,none⟩)] 148)) from (B4.out.trans (hb.mono B4.out.size)).alloc (Nat.le_trans B4.out.size hb.size) _);have Z5:=(hb.block w3.heap.size zz17).trans (heap_alloc_new w3 (.cells #[.int .u8 F.k,.int .u8 F.l,.int .u16 F.s,.int .u8 F.a,.int .u8 F.b,.int .u32 F.y] 163));have n5:=k03 Z5;have z5:=fun j=>k00 Z5 j;have H6:=Ab (H2.out.blw F2.out B6.out);have F6:=Ab (F2.out.blw B6.out);clear hb Z5)
        | (go_at_call 99;refine (kaa (T.rcv i l) _ _ _ F.s _ _ (H6.out.rcvSt i l hi1 hin hln) (H0.out.2.2.2.1.num.r0 i l hi1 hin hln) (by have:=H0.out.2.2.2.1.num.r1 i l hi1 hin hln;omega) (H0.out.2.2.2.1.num.r2 i l hi1 hin hln) (H0.out.2.2.2.1.num.r3 i l hi1 hin hln) (by have:=H0.out.2.1.r1;omega)).mono ?_;rintro e w7 ⟨⟨q,rfl⟩,hs⟩;have K7:=Ab (show _/\_ from ⟨H6.out.rcvTo F6.out hi1 hin hln hs,(show Only (fun b=>o b = .rcv v i l) _ w7 from hs.2.mono (fun b _ e=>by rw [e];exact (H6.out.rcv i l hi1 hin hln).1))⟩);clear hs))
       go_ret;refine ⟨0,o,_,eset _ _ rfl,?_,K7.out.1,(Tr.below (S:=k0u v) H0.out.2.2.1 (L2.out.trans (B6.out.mono L2.out.size))).then (Tr.same (S:=fun c=>c = .rcv v i l) F6.out K7.out.2) (fun c e=>by rw [e];rfl)⟩;unfold TakeRel;rw [HN.out];exact .inr ⟨HE.out,.inr (.inl ⟨HK.out,by rw [<- HI.out,<- HLD.out.1]⟩)⟩
end
end Go.Proofs.YtdopmlopafgonaaGreatDoor.Own
namespace Go.Proofs.YtdopmlopafgonaaGreatDoor.Own
inductive Pl where
 | came (v:Nat)
 | q (v i j k:Nat)
 | fly (x y k:Nat)
 | wait (v k:Nat)
def Pl.node:Pl->Nat
 | .came v=>v
 | .q v _ _ _=>v
 | .fly x _ _=>x
 | .wait v _=>v
def dn (D:PlanD) (d:Nat):Pl->Pl
 | .came v=>.came v
 | .q v _ j k=>if j=0 then .came v else .fly v (k0E D v j) k
 | .fly x y k=>.q y (k07 D y x) (tw D y d) k
 | .wait v k=>.q v 0 (tw D v d) k
def inpO (D:PlanD) (v:Nat):Option Nat->Nat
 | none=>0
 | some u=>k07 D v u
def ppF (D:PlanD) (k:Nat):Option Nat->List Nat->List Pl
 | _,[]=>[]
 | pr,[v]=>[.came v,.q v (inpO D v pr) 0 k]
 | pr,v :: u :: r=>ppF D k (some v) (u :: r)++[.fly v u k,.q v (inpO D v pr) (k07 D v u) k]
def k4C (D:PlanD) (d:Nat):List Nat->Prop
 | []=>False
 | [v]=>v=d
 | v :: u :: r=>v≠d/\D.nxt v d=u/\u∈D.bs v/\v ∉ (u :: r)/\k4C D d (u :: r)
theorem k7G {D:PlanD} {d:Nat}:∀ l:List Nat,l≠[]->l.Nodup->l[l.length-1]? = some d->(∀ i a b,l[i]? = some a->l[i+1]? = some b->b∈D.bs a/\D.nxt a d=b/\a≠d)->k4C D d l
 | [],h,_,_,_=>absurd rfl h
 | [v],_,_,h,_=>by simpa [k4C] using h
 | v :: u :: r,_,hn,hl,hs=>by
   obtain ⟨h1,h2,h3⟩:=hs 0 v u rfl rfl;refine ⟨h3,h2,h1,(List.nodup_cons.1 hn).1,k7G (u :: r) zz17 (List.nodup_cons.1 hn).2 ?_ (fun i a b ha hb=>hs (i+1) a b (by simpa using ha) (by simpa using hb))⟩;have e:(v :: u :: r).length-1=((u :: r).length-1)+1:=by simp
   rw [e] at hl;simpa using hl
theorem IsPath.wayTo {D:PlanD} {v w:Nat} {l:List Nat} (h:IsPath D v w l):k4C D w l:=
 k7G l (by have:=h.pos;intro e;rw [e] at this;simp at this) h.nodup h.last h.step
def Chn (D:PlanD) (d:Nat):List Pl->Prop
 | []=>True
 | [_]=>True
 | a :: b :: l=>a=dn D d b/\Chn D d (b :: l)
theorem Chn.append {D:PlanD} {d:Nat} {b:Pl}:∀ {l m:List Pl},Chn D d l->Chn D d (b :: m)->(∀ a,l.getLast? = some a->a=dn D d b)->Chn D d (l++b :: m)
 | [],m,_,h,_=>h
 | [a],m,_,h,hl=>⟨hl a rfl,h⟩
 | a :: c :: l,m,h1,h,hl=>⟨h1.1,Chn.append (l:=c :: l) h1.2 h (fun x hx=>hl x (by rw [List.getLast?_cons_cons];exact hx))⟩
theorem Chn.prev {D:PlanD} {d:Nat} {p:Pl}:∀ {l:List Pl},Chn D d l->p∈l->(∃ B,l=p :: B)\/∃ A B,l=A++dn D d p :: p :: B
 | [],_,h=>by cases h
 | [a],_,h=>by
   obtain rfl:=List.mem_singleton.1 h;exact .inl ⟨[],rfl⟩
 | a :: b :: l,h,hm=>by
   rcases List.mem_cons.1 hm with rfl | hm
   · exact .inl ⟨_,rfl⟩
   · rcases Chn.prev h.2 hm with ⟨B,e⟩ | ⟨A,B,e⟩
     · right
       simp only [List.cons.injEq] at e;obtain ⟨rfl,rfl⟩:=e;exact ⟨[],_,by rw [h.1];rfl⟩
     · right;exact ⟨a :: A,B,by rw [e];rfl⟩
theorem k1v {D:PlanD} {v u:Nat} (h:u∈D.bs v):k0E D v (k07 D v u)=u:=by
 have hl:(D.bs v).idxOf u<(D.bs v).length:=List.idxOf_lt_length_of_mem h;unfold k0E k07;rw [List.getD_eq_getElem?_getD,List.getElem?_cons_succ,List.getElem?_eq_getElem hl];exact zz17
theorem k7v {D:PlanD} {k d:Nat} {pr:Option Nat}:∀ {u:Nat} {r:List Nat},k4C D d (u :: r)->(ppF D k pr (u :: r)).getLast? = some (.q u (inpO D u pr) (tw D u d) k)
 | u,[],h=>by
   obtain rfl:u=d:=h;simp [ppF,tw]
 | u,w :: r,h=>by
   obtain ⟨h1,h2,_⟩:=h;simp [ppF,tw,Ne.symm h1,h2,k07]
theorem k8G {D:PlanD} {k d:Nat}:∀ {pr:Option Nat} {l:List Nat},k4C D d l->Chn D d (ppF D k pr l)
 | pr,[],h=>h.elim
 | pr,[v],h=>by
   refine ⟨?_,trivial⟩;simp [dn]
 | pr,v :: u :: r,h=>by
   obtain ⟨h1,h2,h3,h4,h5⟩:=h;refine Chn.append (k8G h5) ⟨?_,trivial⟩ (fun a ha=>?_)
   · have:k07 D v u≠0:=by unfold k07;omega
     simp only [dn,if_neg this,k1v h3]
   · rw [k7v h5] at ha
     rw [<- Option.some.inj ha];rfl
theorem k6L {D:PlanD} {k d:Nat} {p:Pl}:∀ {pr:Option Nat} {l:List Nat},k4C D d l->p∈ppF D k pr l->p.node∈l/\(∀ v k,p ≠ .wait v k)/\∀ v,p = .came v->v=d
 | pr,[],h,_=>h.elim
 | pr,[v],h,hp=>by
   obtain rfl:v=d:=h;simp only [ppF,List.mem_cons,List.not_mem_nil,or_false] at hp;rcases hp with rfl | rfl
   · exact ⟨by simp [Pl.node],zz17,zz17⟩
   · exact ⟨by simp [Pl.node],zz17,zz17⟩
 | pr,v :: u :: r,h,hp=>by
   obtain ⟨h1,h2,h3,h4,h5⟩:=h;simp only [ppF,List.mem_append,List.mem_cons,List.not_mem_nil,or_false] at hp;rcases hp with hp | rfl | rfl
   · obtain ⟨a,b,c⟩:=k6L h5 hp
     exact ⟨List.mem_cons_of_mem _ a,b,c⟩
   · exact ⟨by simp [Pl.node],zz17,zz17⟩
   · exact ⟨by simp [Pl.node],zz17,zz17⟩
theorem k6z {D:PlanD} {k d:Nat}:∀ {pr:Option Nat} {l:List Nat},k4C D d l->(ppF D k pr l).Nodup
 | pr,[],h=>h.elim
 | pr,[v],h=>by simp [ppF]
 | pr,v :: u :: r,h=>by
   obtain ⟨h1,h2,h3,h4,h5⟩:=h;simp only [ppF];rw [List.nodup_append];refine ⟨k6z h5,zz17,fun a ha b hb e=>?_⟩;have:=(k6L h5 ha).1;subst e;simp only [List.mem_cons,List.not_mem_nil,or_false] at hb;rcases hb with rfl | rfl <;> exact h4 this
theorem k7B {D:PlanD} {k d:Nat}:∀ {pr:Option Nat} {l:List Nat},k4C D d l->∃ B,ppF D k pr l = .came d :: B
 | pr,[],h=>h.elim
 | pr,[v],h=>by
   obtain rfl:v=d:=h;exact ⟨_,rfl⟩
 | pr,v :: u :: r,h=>by
   obtain ⟨h1,h2,h3,h4,h5⟩:=h;obtain ⟨B,e⟩:=k7B (D:=D) (k:=k) (pr:=some v) h5;exact ⟨_,by simp only [ppF];rw [e];rfl⟩
abbrev Flo:=Nat × Nat × Nat
def k63 (D:PlanD) (f:Flo):Prop:=f.1<D.nodes/\f.2.1<D.nodes/\f.1≠f.2.1/\f.2.2<D.lanes
open Classical in
noncomputable def PPf (D:PlanD) (P:Nat->Nat->List Nat) (f:Flo):List Pl:=if k63 D f then ppF D f.2.2 none (P f.1 f.2.1)++[.wait f.1 f.2.2] else []
def Ways (D:PlanD) (P:Nat->Nat->List Nat):Prop:=∀ v w,v<D.nodes->w<D.nodes->IsPath D v w (P v w)
section
variable {D:PlanD} {P:Nat->Nat->List Nat}
theorem PPf.ok {f:Flo} {p:Pl} (h:p∈PPf D P f):k63 D f:=by
 unfold PPf at h;by_cases e:k63 D f
 · exact e
 · rw [if_neg e] at h;cases h
theorem PPf.eq {f:Flo} (h:k63 D f):PPf D P f=ppF D f.2.2 none (P f.1 f.2.1)++[.wait f.1 f.2.2]:=by unfold PPf;rw [if_pos h]
theorem PPf.way (W:Ways D P) {f:Flo} (h:k63 D f):k4C D f.2.1 (P f.1 f.2.1):=(W _ _ h.1 h.2.1).wayTo
theorem PPf.nodup (W:Ways D P) (f:Flo):(PPf D P f).Nodup:=by
 by_cases h:k63 D f
 · rw [PPf.eq h,List.nodup_append]
   refine ⟨k6z (PPf.way W h),zz17,fun a ha b hb e=>?_⟩;obtain rfl:=List.mem_singleton.1 hb;exact (k6L (PPf.way W h) ha).2.1 _ _ e
 · unfold PPf;rw [if_neg h];simp
theorem PPf.chn (W:Ways D P) {f:Flo} (h:k63 D f):Chn D f.2.1 (PPf D P f):=by
 rw [PPf.eq h];refine Chn.append (k8G (PPf.way W h)) trivial (fun a ha=>?_);have hw:=PPf.way W h;have hf:=(W _ _ h.1 h.2.1).first
 cases e:P f.1 f.2.1 with
 | nil=>rw [e] at hf;simp at hf
 | cons u r=>
   rw [e] at ha hw hf;simp only [List.getElem?_cons_zero,Option.some.injEq] at hf;subst hf;rw [k7v hw] at ha;rw [<- Option.some.inj ha];rfl
theorem PPf.prev (W:Ways D P) {f:Flo} {p:Pl} (h:p∈PPf D P f) (hc:∀ v,p ≠ .came v):∃ A B,PPf D P f=A++dn D f.2.1 p :: p :: B:=by
 have ok:=PPf.ok h;rcases (PPf.chn W ok).prev h with ⟨B,e⟩ | h
 · rw [PPf.eq ok] at e
   obtain ⟨B2,e2⟩:=k7B (D:=D) (k:=f.2.2) (pr:=none) (PPf.way W ok);rw [e2] at e;simp only [List.cons_append,List.cons.injEq] at e;exact absurd e.1.symm (hc _)
 · exact h
end
def k1h (x:Pk):Flo:=(x.src.toNat,x.dst.toNat,x.lane.toNat)
def fl (f:Flo) (l:List Pk):List Pk:=l.filter fun x=>decide (k1h x=f)
theorem k9L {f:Flo} {l m:List Pk} (h:List.Sublist l m):List.Sublist (fl f l) (fl f m):=h.filter _
theorem k1K (f:Flo) (l m:List Pk):fl f (l++m)=fl f l++fl f m:=List.filter_append ..
def pipe (f:Flo) (c:Pl->List Pk) (l:List Pl):List Pk:=l.flatMap fun p=>fl f (c p)
theorem k2N (f:Flo) (c:Pl->List Pk) (l m:List Pl):pipe f c (l++m)=pipe f c l++pipe f c m:=List.flatMap_append ..
theorem k28 (f:Flo) (c:Pl->List Pk) (p:Pl) (l:List Pl):pipe f c (p :: l)=fl f (c p)++pipe f c l:=rfl
theorem k3d {f:Flo} {c c':Pl->List Pk}:∀ {l:List Pl},(∀ p∈l,List.Sublist (fl f (c' p)) (fl f (c p)))->List.Sublist (pipe f c' l) (pipe f c l)
 | [],_=>List.Sublist.refl _
 | p :: l,h=>List.Sublist.append (h p (List.mem_cons_self ..)) (k3d (l:=l) fun p hp=>h p (List.mem_cons_of_mem _ hp))
theorem k4t {f:Flo} {c c':Pl->List Pk} {l:List Pl} (h:∀ p∈l,c' p=c p):pipe f c' l=pipe f c l:=by
 unfold pipe;rw [List.flatMap_def,List.flatMap_def];congr 1;exact List.map_congr_left fun p hp=>by rw [h p hp]
structure Op (D:PlanD) (P:Nat->Nat->List Nat) (c c':Pl->List Pk) (p:Pl) (pre rest:List Pk):Prop where
 was:c p=pre++rest
 now:c' p=rest
 rest:(∀ r,r≠p->c' r=c r)\/∃ x,x∈pre/\(∀ v,p ≠ .came v)/\c' (dn D x.dst.toNat p)=c (dn D x.dst.toNat p)++[x]/\∀ r,r≠p->r≠dn D x.dst.toNat p->c' r=c r
def Nn (x:Pk):Prop:=0<=x.src/\0<=x.dst/\0<=x.lane
structure PInv (D:PlanD) (P:Nat->Nat->List Nat) (c:Pl->List Pk) (S:List Pk):Prop where
 placed:∀ p x,x∈c p->p∈PPf D P (k1h x)
 nn:∀ p x,x∈c p->Nn x
 sub:∀ f,List.Sublist (pipe f c (PPf D P f)) (fl f S)
theorem k76 {α : Type} {l A B:List α} {a b : α} (hn:l.Nodup) (e:l=A++a :: b :: B):a≠b/\(∀ r∈A,r≠a/\r≠b)/\∀ r∈B,r≠a/\r≠b:=by
 subst e;rw [List.nodup_append] at hn;obtain ⟨_,h2,h3⟩:=hn;rw [List.nodup_cons,List.nodup_cons] at h2;obtain ⟨h4,h5,_⟩:=h2;refine ⟨fun e=>h4 (by rw [e];simp),fun r hr=>⟨h3 r hr a zz17,h3 r hr b zz17⟩,fun r hr=>⟨fun e=>h4 (by rw [<- e];simp [hr]),fun e=>h5 (by rw [<- e];exact hr)⟩⟩
theorem kb7 {x:Pk} {l:List Pk} (h:x∈l):List.Sublist [x] l:=List.singleton_sublist.2 h
theorem PInv.op {D:PlanD} {P:Nat->Nat->List Nat} (W:Ways D P) {c c':Pl->List Pk} {S:List Pk} {p:Pl} {pre rest:List Pk} (h:PInv D P c S) (o:Op D P c c' p pre rest):PInv D P c' S:=by
 have hr:List.Sublist rest (c p):=by rw [o.was];exact List.sublist_append_right _ _
 rcases o.rest with hs | ⟨x,hx,hc,hd,hs⟩
 · have key:∀ r,List.Sublist (c' r) (c r):=fun r=>by
    by_cases e:r=p
    · subst e;rw [o.now];exact hr
    · rw [hs r e];exact List.Sublist.refl _
   exact ⟨fun r x hx=>h.placed r x ((key r).subset hx),fun r x hx=>h.nn r x ((key r).subset hx),fun f=>(k3d fun r _=>k9L (key r)).trans (h.sub f)⟩
 · have hp:p∈PPf D P (k1h x):=h.placed p x (by rw [o.was];simp [hx])
   obtain ⟨A,B,e⟩:=PPf.prev W hp hc;have ed:(k1h x).2.1=x.dst.toNat:=rfl;rw [ed] at e;obtain ⟨hne,hA,hB⟩:=k76 (PPf.nodup W _) e;have oth:∀ r,r≠dn D x.dst.toNat p->List.Sublist (c' r) (c r):=fun r e1=>by
    by_cases e2:r=p
    · subst e2;rw [o.now];exact hr
    · rw [hs r e2 e1];exact List.Sublist.refl _
   refine ⟨fun r y hy=>?_,fun r y hy=>?_,fun f=>?_⟩
   · by_cases e1:r=dn D x.dst.toNat p
     · subst e1
       rw [hd] at hy;rcases List.mem_append.1 hy with hy | hy
       · exact h.placed _ y hy
       · obtain rfl:=List.mem_singleton.1 hy
         rw [e];exact zz17
     · exact h.placed r y ((oth r e1).subset hy)
   · by_cases e1:r=dn D x.dst.toNat p
     · subst e1
       rw [hd] at hy;rcases List.mem_append.1 hy with hy | hy
       · exact h.nn _ y hy
       · obtain rfl:=List.mem_singleton.1 hy
         exact h.nn p y (by rw [o.was];simp [hx])
     · exact h.nn r y ((oth r e1).subset hy)
   · by_cases ef:k1h x=f
     · subst ef
       refine List.Sublist.trans ?_ (h.sub _);rw [e];rw [k2N,k2N,k28,k28,k28,k28];refine List.Sublist.append (by rw [k4t (c':=c') (c:=c) (l:=A) (fun r hr=>hs r (hA r hr).2 (hA r hr).1)];exact List.Sublist.refl _) ?_;rw [hd,o.now,o.was,k1K,k1K,k4t (c':=c') (c:=c) (l:=B) (fun r hr=>hs r (hB r hr).2 (hB r hr).1)];rw [List.append_assoc,List.append_assoc];refine List.Sublist.append (List.Sublist.refl _) ?_;exact List.Sublist.append (k9L (kb7 hx)) (List.Sublist.refl _)
     · refine List.Sublist.trans (k3d fun r _=>?_) (h.sub f)
       by_cases e1:r=dn D x.dst.toNat p
       · subst e1
         rw [hd,k1K];have:fl f [x]=[]:=by simp [fl,ef]
         rw [this,List.append_nil];exact List.Sublist.refl _
       · exact k9L (oth r e1)
theorem PInv.inject {D:PlanD} {P:Nat->Nat->List Nat} (W:Ways D P) {c c':Pl->List Pk} {S:List Pk} (h:PInv D P c S) (x:Pk) (hx:k63 D (k1h x)) (hnn:Nn x) (hc:c' (.wait (k1h x).1 (k1h x).2.2)=c (.wait (k1h x).1 (k1h x).2.2)++[x]) (ho:∀ r,r ≠ .wait (k1h x).1 (k1h x).2.2->c' r=c r):PInv D P c' (S++[x]):=by
 refine ⟨fun r y hy=>?_,fun r y hy=>?_,fun f=>?_⟩
 · by_cases e:r = .wait (k1h x).1 (k1h x).2.2
   · subst e
     rw [hc] at hy;rcases List.mem_append.1 hy with hy | hy
     · exact h.placed _ y hy
     · obtain rfl:=List.mem_singleton.1 hy
       rw [PPf.eq hx];exact zz17
   · rw [ho r e] at hy;exact h.placed r y hy
 · by_cases e:r = .wait (k1h x).1 (k1h x).2.2
   · subst e
     rw [hc] at hy;rcases List.mem_append.1 hy with hy | hy
     · exact h.nn _ y hy
     · obtain rfl:=List.mem_singleton.1 hy
       exact hnn
   · rw [ho r e] at hy;exact h.nn r y hy
 · rw [k1K]
   by_cases ef:k1h x=f
   · subst ef
     have e:=PPf.eq (P:=P) hx;have hn:=PPf.nodup W (k1h x);have hs:=h.sub (k1h x);rw [e] at hs hn ⊢;rw [k2N] at hs ⊢;rw [List.nodup_append] at hn;rw [k4t (c':=c') (c:=c) (fun r hr=>ho r (fun e2=>hn.2.2 r hr _ zz17 e2))];have e3:pipe (k1h x) c' [.wait (k1h x).1 (k1h x).2.2]=pipe (k1h x) c [.wait (k1h x).1 (k1h x).2.2]++fl (k1h x) [x]:=by
      simp only [k28,hc,k1K];simp [pipe]
     rw [e3,<- List.append_assoc];exact List.Sublist.append hs (List.Sublist.refl _)
   · have:fl f [x]=[]:=by simp [fl,ef]
     rw [this,List.append_nil];refine List.Sublist.trans (k3d fun r _=>?_) (h.sub f);by_cases e:r = .wait (k1h x).1 (k1h x).2.2
     · subst e;rw [hc,k1K,this,List.append_nil];exact List.Sublist.refl _
     · rw [ho r e];exact List.Sublist.refl _
theorem PInv.same {D:PlanD} {P:Nat->Nat->List Nat} {c c':Pl->List Pk} {S:List Pk} (h:PInv D P c S) (e:∀ p,c' p=c p):PInv D P c' S:=by
 have:c'=c:=funext e;rw [this];exact h
end Go.Proofs.YtdopmlopafgonaaGreatDoor.Own
namespace Go.Proofs.YtdopmlopafgonaaGreatDoor.Own
open Go.RowKit Go.Proofs.YtdopmlopafgonaaGreatDoorW.PrintWords Go.Proofs.YtdopmlopafgonaaGreatDoorW.PrintLast Go.Proofs.YtdopmlopafgonaaGreatDoorW.PrintMore
def k7k (D:PlanD) (v d k:Nat) (y:Int) (st:NSt) (c:Int) (st':NSt):Prop:=
 (d=v/\c=1/\st'=st)\/(d≠v/\(st.waits k).length=D.queue/\c=150/\st'=st)\/(d≠v/\(st.waits k).length<D.queue/\c=0/\st' = { st with waits:=upd st.waits k (st.waits k++[⟨v,d,k,y⟩]) })
section
variable {w:World} {o:Nat->Col} {v:Nat} {D:PlanD} {T:NTab} {st:NSt}
def Injd (D:PlanD) (d k:Nat) (y:Int) (w:World) (o:Nat->Col) (v:Nat) (T:NTab) (st:NSt) (e:Ending) (w':World):Prop:=∃ (c:Int) (o':Nat->Col) (st':NSt),e = .returned (.int .u16 c)/\k7k D v d k y st c st'/\NodeAt w' o' v D T st'/\Tr (k0u v) o w o' w'
theorem k6R (d k:Nat) (y:Int) (M:Int) (C:Nat) (H:NodeAt w o v D T st) (G:Good D) (hv:v<D.nodes) (hf:Fresh o w) (K:NodeOk D v M C st) (hd:d<D.nodes) (hk:k<D.lanes) :
 Calls Tryz.prog 22 #[.pointer (some ⟨T.g,0,none⟩),.agg #[.int .i64 (v:Nat),.int .i64 (d:Nat),.int .i64 (k:Nat),.int .u32 y]] w (Injd D d k y w o v T st):=by
 have B1:=Ab (show Below w.heap.size w (w.alloc (.cells #[.int .i64 (v:Nat),.int .i64 (d:Nat),.int .i64 (k:Nat),.int .u32 y] 40)) from (Below.refl _ _).alloc (Nat.le_refl _) _);have H1:=Ab (H.blw hf B1.out);have F1:=Ab (hf.blw B1.out);obtain ⟨q0,q1,q2,q3⟩:=box4 (w:=w) (heap_alloc_new w (.cells #[.int .i64 (v:Nat),.int .i64 (d:Nat),.int .i64 (k:Nat),.int .u32 y] 40));have HS:=Ab (show (fun (W:World)=>W.cell? ⟨w.heap.size,0,none⟩=some (.int .i64 (v:Nat))/\W.cell? ⟨w.heap.size,1,none⟩=some (.int .i64 (d:Nat))/\W.cell? ⟨w.heap.size,2,none⟩=some (.int .i64 (k:Nat))/\W.cell? ⟨w.heap.size,3,none⟩=some (.int .u32 y)/\W.cell? ⟨T.g,1,none⟩=some (.int .i64 D.nodes)/\W.cell? ⟨T.g,12,none⟩=some (.int .i64 (v:Nat))/\W.cell? ⟨T.g,14,none⟩=some (.pointer (some ⟨T.host,0,none⟩))) (w.alloc (.cells #[.int .i64 (v:Nat),.int .i64 (d:Nat),.int .i64 (k:Nat),.int .u32 y] 40)) from ⟨q0,q1,q2,q3,(k00 H1.out.blk 1).trans rfl,(k00 H1.out.blk 12).trans rfl,(k00 H1.out.blk 14).trans rfl⟩);have H0:=Ab (show _/\_/\_/\_ from ⟨H,G,hf,K⟩);have e1:((v:Int) != (v:Int))=false:=by simp
 have e2:=decide_eq_false (show ¬ (d:Int)<0 by omega);have e3:=decide_eq_false (show ¬ (D.nodes:Nat)<=d by omega);have e3':=decide_eq_false (show ¬ ((D.nodes:Nat):Int)<=(d:Int) by omega);clear H G hf K q0 q1 q2 q3;by_cases hdv:d=v
 · have e4:((d:Int) == (v:Int))=true:=by rw [hdv];exact beq_self_eq_true _
   have HD:=Ab hdv;clear hdv;go_enter Tryz.func22,Tryz.ntmps22;go_wp2;refine WpL.region (fun (W:World)=>W.cell? ⟨w.heap.size,0,none⟩=some (.int .i64 (v:Nat))/\W.cell? ⟨w.heap.size,1,none⟩=some (.int .i64 (d:Nat))/\W.cell? ⟨w.heap.size,2,none⟩=some (.int .i64 (k:Nat))/\W.cell? ⟨w.heap.size,3,none⟩=some (.int .u32 y)/\W.cell? ⟨T.g,1,none⟩=some (.int .i64 D.nodes)/\W.cell? ⟨T.g,12,none⟩=some (.int .i64 (v:Nat))/\W.cell? ⟨T.g,14,none⟩=some (.pointer (some ⟨T.host,0,none⟩))) 99 zz3 ?_;refine WpL.E 0 HS.out ?_;refine WpL.E 1 HS.out ?_;refine WpL.E 2 HS.out ?_;refine WpL.E 3 HS.out ?_;refine WpL.E 4 HS.out ?_;refine WpL.E 5 HS.out ?_;refine WpL.E 6 HS.out ?_;refine WpL.E 7 HS.out ?_;refine WpL.E 8 HS.out ?_;refine WpL.E 9 HS.out ?_;refine WpL.E 10 HS.out ?_;refine WpL.E 11 HS.out ?_;refine WpL.E 12 HS.out ?_;refine WpL.E 13 HS.out ?_;refine WpL.E 14 HS.out ?_;refine WpL.E 15 HS.out ?_;refine WpL.E 16 HS.out ?_;refine WpL.E 17 HS.out ?_;refine WpL.E 18 HS.out ?_;refine WpL.E 19 HS.out ?_;refine WpL.E 20 HS.out ?_;refine WpL.E 21 HS.out ?_;refine WpL.E 22 HS.out ?_;refine WpL.E 23 HS.out ?_;refine WpL.E 24 HS.out ?_;refine WpL.E 25 HS.out ?_;refine WpL.E 26 HS.out ?_;refine WpL.E 27 HS.out ?_;refine WpL.E 28 HS.out ?_;refine WpL.E 29 HS.out ?_;refine WpL.E 30 HS.out ?_;refine WpL.done zz3 ?_ _;go_wp2;go_ret;refine ⟨1,o,st,eset _ _ rfl,.inl ⟨HD.out,rfl,rfl⟩,H1.out.blw F1.out (Below.refl _ _).drew,Tr.below H0.out.2.2.1 B1.out.drew⟩
 · have e4:((d:Int) == (v:Int))=false:=beq_eq_false_iff_ne.mpr zz1
   have HD:=Ab hdv;clear hdv;have D1:=Ab (H1.out.blw F1.out (Below.refl _ _).drew);have hlen:=H0.out.2.2.2.wl k hk;have i1:(k:Int)<(D.lanes:Nat):=by omega
   by_cases hq:(st.waits k).length=D.queue
   · have HQ:=Ab hq
     clear hq hlen;go_enter Tryz.func22,Tryz.ntmps22;go_wp2;refine WpL.region (fun (W:World)=>W.cell? ⟨w.heap.size,0,none⟩=some (.int .i64 (v:Nat))/\W.cell? ⟨w.heap.size,1,none⟩=some (.int .i64 (d:Nat))/\W.cell? ⟨w.heap.size,2,none⟩=some (.int .i64 (k:Nat))/\W.cell? ⟨w.heap.size,3,none⟩=some (.int .u32 y)/\W.cell? ⟨T.g,1,none⟩=some (.int .i64 D.nodes)/\W.cell? ⟨T.g,12,none⟩=some (.int .i64 (v:Nat))/\W.cell? ⟨T.g,14,none⟩=some (.pointer (some ⟨T.host,0,none⟩))) 99 zz3 ?_;refine WpL.E 0 HS.out ?_;refine WpL.E 1 HS.out ?_;refine WpL.E 2 HS.out ?_;refine WpL.E 3 HS.out ?_;refine WpL.E 4 HS.out ?_;refine WpL.E 5 HS.out ?_;refine WpL.E 6 HS.out ?_;refine WpL.E 7 HS.out ?_;refine WpL.E 8 HS.out ?_;refine WpL.E 9 HS.out ?_;refine WpL.E 10 HS.out ?_;refine WpL.E 11 HS.out ?_;refine WpL.E 12 HS.out ?_;refine WpL.E 13 HS.out ?_;refine WpL.E 14 HS.out ?_;refine WpL.E 15 HS.out ?_;refine WpL.E 16 HS.out ?_;refine WpL.E 17 HS.out ?_;refine WpL.E 18 HS.out ?_;refine WpL.E 19 HS.out ?_;refine WpL.E 20 HS.out ?_;refine WpL.E 21 HS.out ?_;refine WpL.E 22 HS.out ?_;refine WpL.E 23 HS.out ?_;refine WpL.E 24 HS.out ?_;refine WpL.E 25 HS.out ?_;refine WpL.E 26 HS.out ?_;refine WpL.E 27 HS.out ?_;refine WpL.E 28 HS.out ?_;refine WpL.E 29 HS.out ?_;refine WpL.E 30 HS.out ?_;refine WpL.done zz3 ?_ _;go_wp2;have HS3:=Ab (show (fun (W:World)=>W.cell? ⟨w.heap.size,0,none⟩=some (.int .i64 (v:Nat))/\W.cell? ⟨w.heap.size,1,none⟩=some (.int .i64 (d:Nat))/\W.cell? ⟨w.heap.size,2,none⟩=some (.int .i64 (k:Nat))/\W.cell? ⟨w.heap.size,3,none⟩=some (.int .u32 y)/\W.cell? ⟨T.g,1,none⟩=some (.int .i64 D.nodes)/\W.cell? ⟨T.g,12,none⟩=some (.int .i64 (v:Nat))/\W.cell? ⟨T.g,14,none⟩=some (.pointer (some ⟨T.host,0,none⟩))) (w.alloc (.cells #[.int .i64 (v:Nat),.int .i64 (d:Nat),.int .i64 (k:Nat),.int .u32 y] 40)) from HS.out);refine WpL.region (fun (W:World)=>W.cell? ⟨w.heap.size,0,none⟩=some (.int .i64 (v:Nat))/\W.cell? ⟨w.heap.size,1,none⟩=some (.int .i64 (d:Nat))/\W.cell? ⟨w.heap.size,2,none⟩=some (.int .i64 (k:Nat))/\W.cell? ⟨w.heap.size,3,none⟩=some (.int .u32 y)/\W.cell? ⟨T.g,1,none⟩=some (.int .i64 D.nodes)/\W.cell? ⟨T.g,12,none⟩=some (.int .i64 (v:Nat))/\W.cell? ⟨T.g,14,none⟩=some (.pointer (some ⟨T.host,0,none⟩))) 99 zz3 ?_;refine WpL.E 0 HS3.out ?_;refine WpL.E 1 HS3.out ?_;refine WpL.E 2 HS3.out ?_;refine WpL.E 3 HS3.out ?_;refine WpL.E 4 HS3.out ?_;refine WpL.one (i:=5) zz3 rfl (fun K hK=>?_);go_simp;refine (k5V v d y k (D1.out.blw (F1.out.blw (Below.refl _ _).drew) (Below.refl _ _).drew).host i1 (by rw [HQ.out])).mono ?_;rintro e w3 ⟨rfl,hb⟩;have B3:=Ab (undrew (undrew hb));have HS5:=Ab (show (fun (W:World)=>W.cell? ⟨w.heap.size,0,none⟩=some (.int .i64 (v:Nat))/\W.cell? ⟨w.heap.size,1,none⟩=some (.int .i64 (d:Nat))/\W.cell? ⟨w.heap.size,2,none⟩=some (.int .i64 (k:Nat))/\W.cell? ⟨w.heap.size,3,none⟩=some (.int .u32 y)/\W.cell? ⟨T.g,1,none⟩=some (.int .i64 D.nodes)/\W.cell? ⟨T.g,12,none⟩=some (.int .i64 (v:Nat))/\W.cell? ⟨T.g,14,none⟩=some (.pointer (some ⟨T.host,0,none⟩))) w3 from by obtain ⟨k0,k1,k2,k3,k4,k5,k6⟩:=HS.out;exact ⟨k01 B3.out k0,k01 B3.out k1,k01 B3.out k2,k01 B3.out k3,k01 B3.out k4,k01 B3.out k5,k01 B3.out k6⟩);clear hb;simp only [];refine hK.out _ _ (fun _=>HS5.out) ?_;clear hK K
     try refine Sm ?_
     refine WpL.E 6 HS5.out ?_;refine WpL.done zz3 ?_ _;go_wp2;go_ret;refine ⟨150,o,st,eset _ _ rfl,.inr (.inl ⟨HD.out,HQ.out,rfl,rfl⟩),H1.out.blw F1.out B3.out,Tr.below H0.out.2.2.1 (B1.out.trans (B3.out.mono B1.out.size))⟩
   · have hlt:(st.waits k).length<D.queue:=by omega
     have HQ:=Ab hlt;clear hq hlen hlt;go_enter Tryz.func22,Tryz.ntmps22;go_wp2;refine WpL.region (fun (W:World)=>W.cell? ⟨w.heap.size,0,none⟩=some (.int .i64 (v:Nat))/\W.cell? ⟨w.heap.size,1,none⟩=some (.int .i64 (d:Nat))/\W.cell? ⟨w.heap.size,2,none⟩=some (.int .i64 (k:Nat))/\W.cell? ⟨w.heap.size,3,none⟩=some (.int .u32 y)/\W.cell? ⟨T.g,1,none⟩=some (.int .i64 D.nodes)/\W.cell? ⟨T.g,12,none⟩=some (.int .i64 (v:Nat))/\W.cell? ⟨T.g,14,none⟩=some (.pointer (some ⟨T.host,0,none⟩))) 99 zz3 ?_;refine WpL.E 0 HS.out ?_;refine WpL.E 1 HS.out ?_;refine WpL.E 2 HS.out ?_;refine WpL.E 3 HS.out ?_;refine WpL.E 4 HS.out ?_;refine WpL.E 5 HS.out ?_;refine WpL.E 6 HS.out ?_;refine WpL.E 7 HS.out ?_;refine WpL.E 8 HS.out ?_;refine WpL.E 9 HS.out ?_;refine WpL.E 10 HS.out ?_;refine WpL.E 11 HS.out ?_;refine WpL.E 12 HS.out ?_;refine WpL.E 13 HS.out ?_;refine WpL.E 14 HS.out ?_;refine WpL.E 15 HS.out ?_;refine WpL.E 16 HS.out ?_;refine WpL.E 17 HS.out ?_;refine WpL.E 18 HS.out ?_;refine WpL.E 19 HS.out ?_;refine WpL.E 20 HS.out ?_;refine WpL.E 21 HS.out ?_;refine WpL.E 22 HS.out ?_;refine WpL.E 23 HS.out ?_;refine WpL.E 24 HS.out ?_;refine WpL.E 25 HS.out ?_;refine WpL.E 26 HS.out ?_;refine WpL.E 27 HS.out ?_;refine WpL.E 28 HS.out ?_;refine WpL.E 29 HS.out ?_;refine WpL.E 30 HS.out ?_;refine WpL.done zz3 ?_ _;go_wp2;have HS3:=Ab (show (fun (W:World)=>W.cell? ⟨w.heap.size,0,none⟩=some (.int .i64 (v:Nat))/\W.cell? ⟨w.heap.size,1,none⟩=some (.int .i64 (d:Nat))/\W.cell? ⟨w.heap.size,2,none⟩=some (.int .i64 (k:Nat))/\W.cell? ⟨w.heap.size,3,none⟩=some (.int .u32 y)/\W.cell? ⟨T.g,1,none⟩=some (.int .i64 D.nodes)/\W.cell? ⟨T.g,12,none⟩=some (.int .i64 (v:Nat))/\W.cell? ⟨T.g,14,none⟩=some (.pointer (some ⟨T.host,0,none⟩))) (w.alloc (.cells #[.int .i64 (v:Nat),.int .i64 (d:Nat),.int .i64 (k:Nat),.int .u32 y] 40)) from HS.out);refine WpL.region (fun (W:World)=>W.cell? ⟨w.heap.size,0,none⟩=some (.int .i64 (v:Nat))/\W.cell? ⟨w.heap.size,1,none⟩=some (.int .i64 (d:Nat))/\W.cell? ⟨w.heap.size,2,none⟩=some (.int .i64 (k:Nat))/\W.cell? ⟨w.heap.size,3,none⟩=some (.int .u32 y)/\W.cell? ⟨T.g,1,none⟩=some (.int .i64 D.nodes)/\W.cell? ⟨T.g,12,none⟩=some (.int .i64 (v:Nat))/\W.cell? ⟨T.g,14,none⟩=some (.pointer (some ⟨T.host,0,none⟩))) 99 zz3 ?_;refine WpL.E 0 HS3.out ?_;refine WpL.E 1 HS3.out ?_;refine WpL.E 2 HS3.out ?_;refine WpL.E 3 HS3.out ?_;refine WpL.E 4 HS3.out ?_;refine WpL.one (i:=5) zz3 rfl (fun K hK=>?_);go_simp;refine (kaJ v d y k ((F1.out.blw (Below.refl _ _).drew).blw (Below.refl _ _).drew) (D1.out.blw (F1.out.blw (Below.refl _ _).drew) (Below.refl _ _).drew).host i1 (by have:=HQ.out;omega)).mono ?_;rintro e w3 ⟨rfl,o3,t3,h3⟩;have t3':=k2V (k2V t3);have H3:=Ab (H1.out.hostTo t3' h3);have T3:=Ab t3';have HS5:=Ab (show (fun (W:World)=>W.cell? ⟨w.heap.size,0,none⟩=some (.int .i64 (v:Nat))/\W.cell? ⟨w.heap.size,1,none⟩=some (.int .i64 (d:Nat))/\W.cell? ⟨w.heap.size,2,none⟩=some (.int .i64 (k:Nat))/\W.cell? ⟨w.heap.size,3,none⟩=some (.int .u32 y)/\W.cell? ⟨T.g,1,none⟩=some (.int .i64 D.nodes)/\W.cell? ⟨T.g,12,none⟩=some (.int .i64 (v:Nat))/\W.cell? ⟨T.g,14,none⟩=some (.pointer (some ⟨T.host,0,none⟩))) w3 from by
      have keep:∀ j,w3.cell? ⟨w.heap.size,j,none⟩=(w.alloc (.cells #[.int .i64 (v:Nat),.int .i64 (d:Nat),.int .i64 (k:Nat),.int .u32 y] 40)).cell? ⟨w.heap.size,j,none⟩:=fun j=>World.cell?_of_block (t3'.only.same zz17 (by rw [H0.out.2.2.1 _ (Nat.le_refl _)];simp))
      obtain ⟨k0,k1,k2,k3,k4,k5,k6⟩:=HS.out;exact ⟨(keep 0).trans k0,(keep 1).trans k1,(keep 2).trans k2,(keep 3).trans k3,(k00 H3.out.blk 1).trans rfl,(k00 H3.out.blk 12).trans rfl,(k00 H3.out.blk 14).trans rfl⟩)
     clear t3 h3 t3';simp only [];refine hK.out _ _ (fun _=>HS5.out) ?_;clear hK K
     try refine Sm ?_
     refine WpL.E 6 HS5.out ?_;refine WpL.done zz3 ?_ _;go_wp2;go_ret;refine ⟨0,o3,_,eset _ _ rfl,.inr (.inr ⟨HD.out,HQ.out,rfl,rfl⟩),H3.out,(Tr.below (S:=k0u v) H0.out.2.2.1 B1.out).then T3.out (fun c e=>by rw [e];rfl)⟩
theorem k4l (H:NodeAt w o v D T st) :
 Calls Tryz.prog 18 #[.pointer (some ⟨T.g,0,none⟩)] w fun e w'=>e = .returned (.pointer (some ⟨T.host,0,none⟩))/\w=w':=by
 have b0:=fun j=>k00 H.blk j
 clear H;go_enter Tryz.func18,Tryz.ntmps18;exact zz12
end
end Go.Proofs.YtdopmlopafgonaaGreatDoor.Own
