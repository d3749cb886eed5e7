/- TopQuick: one packet alone is brought from host to host (a part of the walks and of the plain laws). -/
import Derived.Test.YtdopmlopafgonaaGreatDoorC0
import Derived.Test.YtdopmlopafgonaaGreatDoorC34
set_option linter.unusedVariables false
set_option linter.unusedSimpArgs false
set_option maxHeartbeats 4000000
set_option maxRecDepth 100000
namespace Go.Proofs.YtdopmlopafgonaaGreatDoor.Own
open Go.RowKit Go.Proofs.YtdopmlopafgonaaGreatDoorW.PrintWords Go.Proofs.YtdopmlopafgonaaGreatDoorW.PrintLast Go.Proofs.YtdopmlopafgonaaGreatDoorW.PrintMore
structure TrN (v lo:Nat) (o:Nat->Col) (w:World) (o':Nat->Col) (w':World):Prop where
 only:Only (fun b=>k0u v (o b)\/SayP w o lo b) w w'
 own:∀ b,b<w.heap.size->o' b=o b
 fresh:Fresh o' w'
section
variable {v lo:Nat} {o o1 o2:Nat->Col} {w w1 w2:World}
theorem TrN.refl (hf:Fresh o w):TrN v lo o w o w:=⟨Only.refl _ _,fun _ _=>rfl,hf⟩
theorem TrN.trans (h:TrN v lo o w o1 w1) (k:TrN v lo o1 w1 o2 w2):TrN v lo o w o2 w2:=
 ⟨h.only.then k.only (fun b hb hc=>by
  rcases hc with hc | ⟨h1,h2,cur,T,h3,h4⟩
  · rw [h.own b hb] at hc;exact .inl hc
  · rw [h.own b hb] at h2
    by_cases hp:k0u v (o b)\/SayP w o lo b
    · exact hp
    · rw [h.only.keep b hb hp] at h3
      exact .inr ⟨h1,h2,cur,T,h3,h4⟩),fun b hb=>(k.own b (Nat.lt_of_lt_of_le hb h.only.size)).trans (h.own b hb),k.fresh⟩
theorem Tr.toN {S:Col->Prop} (h:Tr S o w o1 w1) (hs:∀ c,S c->k0u v c):TrN v lo o w o1 w1:=⟨h.only.mono (fun b _ hc=>.inl (hs _ hc)),h.own,h.fresh⟩
theorem TrN.blw (hf:Fresh o w) (h:Below w.heap.size w w1):TrN v lo o w o w1:=(Tr.below (S:=fun _=>False) hf h).toN (fun _ x=>x.elim)
theorem TrN.say (hf:Fresh o w) (h:Only (SayP w o lo) w w1):TrN v lo o w o w1:=⟨h.mono (fun b _ hc=>.inr hc),fun _ _=>rfl,fun b hb=>hf b (Nat.le_trans h.size hb)⟩
theorem TrN.toTr (h:TrN v lo o w o1 w1) (hl:w.heap.size<=lo):Tr (k0u v) o w o1 w1:=⟨h.only.mono (fun b hb hc=>hc.elim id (fun h=>by have:=h.1;omega)),h.own,h.fresh⟩
theorem Tr.toJunk (h:Only (SayP w o lo) w w1) (hf:Fresh o w):Tr (fun c=>c = .junk) o w o w1:=Tr.same hf (h.mono (fun b _ hc=>hc.2.1))
theorem TrN.stay (h:TrN v lo o w o1 w1) {b:Nat} {cur:Array Value} {T:TypeId} (hb:w.heap[b]? = some (Obj.cells cur T (0,0))) (ho:o b = .junk) (h1:T≠113) (h2:T≠115):w1.heap[b]? = some (Obj.cells cur T (0,0)):=by
 refine (h.only.keep b (k03 hb) ?_).trans hb;rintro (hc | ⟨_,_,cur',T',h3,h4⟩)
 · rw [ho] at hc;cases hc
 · rw [hb] at h3;injection h3 with h3;injection h3 with h5 h6;subst h6;exact h4.elim h1 h2
end
def k2y (k:Nat) (s:Int) (x:Pk):Wire.Fr:=⟨1,k,s % 65536,x.src,x.dst,x.body⟩
theorem k2W {D:PlanD} (G:Good D) {k:Nat} {x:Pk} (hk:k<D.lanes) (h:PkIn D k x) (s:Int):(k2y k s x).wf/\(k2y k s x).sound=true:=by
 obtain ⟨a,b,h1,h2,h3,h4,h5,h6,h7,h8⟩:=h;have:=G.l1;have:=G.n1;refine ⟨⟨⟨by show (0:Int)<=1;omega,by show (1:Int)<=255;omega⟩,⟨by show (0:Int)<=(k:Int);omega,by show (k:Int)<=255;omega⟩,⟨by show 0<=s % 65536;omega,by show s % 65536<=65535;omega⟩,⟨by show 0<=x.src;omega,by show x.src<=255;omega⟩,⟨by show 0<=x.dst;omega,by show x.dst<=255;omega⟩,⟨h7,h8⟩⟩,?_⟩;exact Wire.sound_iff.2 ⟨by show (k:Int)<3;omega,.inl ⟨rfl,by show x.src<6;omega,by show x.dst<6;omega,by show x.src≠x.dst;omega⟩⟩
def QOk (D:PlanD) (v:Nat) (st:NSt):Prop:=∀ i j k:Nat,i<np D v->j<np D v->k<D.lanes->∀ x∈st.q (i,j,k),PkIn D k x
def k0I (st:NSt) (i tt k:Nat) (r:List Pk):NSt:={ st with q:=updw st.q (i,tt,k) r }
def k0F (st:NSt) (i k:Nat):NSt:=if i=0 then st else { st with rcv:=upd2 st.rcv i k ((st.rcv i k).1,if (st.rcv i k).2=0 then 0 else (st.rcv i k).2-1) }
def k1U (st:NSt) (x:Pk):NSt:={ st with waits:=upd st.waits 3 (st.waits 3++[x]) }
def k30 (st:NSt) (tt k:Nat):NSt:={ st with snd:=upd2 st.snd tt k ((st.snd tt k).1+1,(st.snd tt k).2) }
def MoveRel (D:PlanD) (v i tt:Nat) (st st':NSt) (outs:List OutP):Prop:=
 ((∀ k,k<D.lanes->mayB st i tt k=false)/\st'=st/\outs=[]) \/
   ∃ k x r,k<D.lanes/\mayB st i tt k=true/\st.q (i,tt,k)=x :: r/\((tt=0/\st'=k1U (k0F (k0I st i tt k r) i k) x/\outs=[])\/(tt≠0/\st'=k30 (k0F (k0I st i tt k r) i k) tt k/\outs=[(k0E D v tt,(k2y k (st.snd tt k).1 x).bytes)]))
structure InTick (D:PlanD) (v lo ob nb:Nat) (T:NTab) (w:World) (o:Nat->Col) (st:NSt) (outs:List OutP):Prop where
 node:NodeAt w o v D T st
 fresh:Fresh o w
 say:SayAt w o lo ob nb T.g outs
 lo:lo<=w.heap.size
 tab:Tab w
 t0:o 0 = .fix
theorem InTick.to {D:PlanD} {v lo ob nb:Nat} {T:NTab} {w w':World} {o o':Nat->Col} {st st':NSt} {outs:List OutP} (h:InTick D v lo ob nb T w o st outs) {S:Col->Prop} (t:Tr S o w o' w') (hS:∀ c,S c->k0u v c) (H:NodeAt w' o' v D T st'):InTick D v lo ob nb T w' o' st' outs:=
 ⟨H,t.fresh,h.say.tr t (fun h=>by have:=hS _ h;cases this),Nat.le_trans h.lo t.only.size,h.tab.tr t (by rw [h.t0];intro h;have:=hS _ h;cases this),(t.own 0 h.tab.lt).trans h.t0⟩
theorem InTick.blw {D:PlanD} {v lo ob nb:Nat} {T:NTab} {w w':World} {o:Nat->Col} {st:NSt} {outs:List OutP} (h:InTick D v lo ob nb T w o st outs) (b:Below w.heap.size w w'):InTick D v lo ob nb T w' o st outs:=
 h.to (Tr.below (S:=fun _=>False) h.fresh b) (fun _ x=>x.elim) (h.node.blw h.fresh b)
theorem InTick.said {D:PlanD} {v lo ob nb:Nat} {T:NTab} {w w':World} {o:Nat->Col} {st:NSt} {outs outs':List OutP} (h:InTick D v lo ob nb T w o st outs) (k:Only (SayP w o lo) w w') (s:SayAt w' o lo ob nb T.g outs'):InTick D v lo ob nb T w' o st outs':=
 ⟨h.node.tr (Tr.toJunk k h.fresh) zz17 (fun c hc e=>by rw [e] at hc;cases hc),fun b hb=>h.fresh b (Nat.le_trans k.size hb),s,Nat.le_trans h.lo k.size,h.tab.only k (by rintro ⟨_,hc,_⟩;rw [h.t0] at hc;cases hc),h.t0⟩
theorem k7q (g:Nat) (x h r:Int) (w0 w:World) (s:RcvSt w0 w g x h r) (h0:0<=h) (h1:h<=8) :
 Calls Tryz.prog 130 #[.pointer (some ⟨g,0,none⟩)] w fun e w'=>(∃ b,e = .returned (.bool b))/\RcvSt w0 w' g x (if h=0 then 0 else h-1) r:=by
 by_cases e:h=0
 · subst e
   refine (k6P g x r w0 w s).mono ?_;rintro e w' ⟨rfl,hs⟩;exact ⟨⟨_,rfl⟩,hs⟩
 · refine (k6I g x h r w0 w s zz1 h1).mono ?_
   rintro e' w' ⟨rfl,hs⟩;rw [if_neg e];exact ⟨⟨_,rfl⟩,hs⟩
section
variable {w:World} {o:Nat->Col} {v:Nat} {D:PlanD} {T:NTab} {st:NSt} {lo ob nb:Nat} {outs:List OutP}
def Moved (w:World) (o:Nat->Col) (v:Nat) (D:PlanD) (T:NTab) (st:NSt) (lo ob nb:Nat) (outs:List OutP) (i tt:Nat) (e:Ending) (w':World):Prop:=
 e = .returned (.tuple #[])/\∃ o' st' os,MoveRel D v i tt st st' os/\InTick D v lo ob nb T w' o' st' (outs++os)/\TrN v lo o w o' w'
theorem k8k (i tt:Nat) (I:InTick D v lo ob nb T w o st outs) (G:Good D) (hv:v<D.nodes) (N:k9c D v st) (Q:QOk D v st) (hi:i<np D v) (htt:tt<np D v) (hlen:outs.length<=10000) (hc:(st.waits 3).length<=10000) :
 Calls Tryz.prog 92 #[.pointer (some ⟨T.g,0,none⟩),.int .i64 i,.int .i64 tt,.func (.func 87) #[] #[.pointer (some ⟨ob,0,none⟩),.pointer (some ⟨nb,0,none⟩)]] w (Moved w o v D T st lo ob nb outs i tt):=by
 have hl3:=G.l1;have hl1:=G.l0;have hnp:=k2k G hv;have H0:=Ab (show _/\_/\_/\_/\_/\_ from ⟨I,N,Q,G,hlen,hc⟩);obtain ⟨p0,p1,p2⟩:=I.node.port tt htt;have HS:=Ab (show (fun (W:World)=>W.cell? ⟨T.g,13,none⟩=some (.slice (some ⟨T.pb,T.po,none⟩) (np D v:Nat) T.pc)/\W.cell? ⟨T.pb,T.po+tt*3+2,none⟩=some (.pointer (some ⟨T.whl tt,0,none⟩))) w from ⟨(k00 I.node.blk 13).trans rfl,p2⟩);have i1:(tt:Int)<(np D v:Nat):=by omega
 have i2:(i:Int)<(np D v:Nat):=by omega
 obtain ⟨m,hm⟩:∃ m,m=mayM D st i tt:=⟨_,rfl⟩;have hm64:m<64:=by rw [hm];exact k32 _ _ zz1
 have HM:=Ab hm;clear I G N Q p0 p1 p2 hlen hc hm;go_enter Tryz.func92,Tryz.ntmps92;go_wp2;refine WpL.region (fun (W:World)=>W.cell? ⟨T.g,13,none⟩=some (.slice (some ⟨T.pb,T.po,none⟩) (np D v:Nat) T.pc)/\W.cell? ⟨T.pb,T.po+tt*3+2,none⟩=some (.pointer (some ⟨T.whl tt,0,none⟩))) 13 zz3 ?_;refine WpL.T 0 [] HS.out ?_;refine WpL.T 1 [] HS.out ?_;refine WpL.T 2 [] HS.out ?_;refine WpL.T 3 [] HS.out ?_;refine WpL.T 4 [] HS.out ?_;refine WpL.T 5 [] HS.out ?_;refine WpL.T 6 [] HS.out ?_;refine WpL.T 7 [] HS.out ?_;refine WpL.T 8 [] HS.out ?_;refine WpL.T 9 [] HS.out ?_;refine WpL.T 10 [] HS.out ?_;refine WpL.one (i:=11) zz3 rfl (fun K hK=>?_);go_simp;refine (k6s i tt (H0.out.1.blw ((Below.refl _ w).drew)).node H0.out.2.2.2.1 hv (H0.out.1.blw ((Below.refl _ w).drew)).fresh hi htt H0.out.2.1).mono ?_;rw [<- HM.out];rintro e w2 ⟨rfl,hb⟩;have B2:=Ab (undrew hb);have HS2:=Ab (show (fun (W:World)=>W.cell? ⟨T.g,13,none⟩=some (.slice (some ⟨T.pb,T.po,none⟩) (np D v:Nat) T.pc)/\W.cell? ⟨T.pb,T.po+tt*3+2,none⟩=some (.pointer (some ⟨T.whl tt,0,none⟩))) w2 from ⟨k01 B2.out HS.out.1,k01 B2.out HS.out.2⟩);clear hb;simp only [];refine hK.out _ _ (fun _=>HS2.out) ?_;clear hK K
 try refine Sm ?_
 refine WpL.one (i:=12) zz3 rfl (fun K hK=>?_);go_simp;refine (k7S (T.whl tt) D.lanes m o (.whl v tt) _ hl1 hl3 hm64 ((H0.out.1.blw B2.out).node.whl tt htt) (H0.out.1.blw B2.out).tab (by rw [H0.out.1.t0];simp)).mono ?_;rintro e w3 ⟨r,rfl,hO,hW,hr⟩;have I3:=Ab (show InTick D v lo ob nb T w3 o st outs from (H0.out.1.blw B2.out).to (Tr.same (S:=fun c=>c = .whl v tt) (H0.out.1.blw B2.out).fresh hO) (fun c e=>by rw [e];rfl) ((H0.out.1.blw B2.out).node.whlTo (H0.out.1.blw B2.out).fresh hO hW));have HS3:=Ab (show (fun (W:World)=>W.cell? ⟨T.g,13,none⟩=some (.slice (some ⟨T.pb,T.po,none⟩) (np D v:Nat) T.pc)/\W.cell? ⟨T.pb,T.po+tt*3+2,none⟩=some (.pointer (some ⟨T.whl tt,0,none⟩))) w3 from ⟨(k00 I3.out.node.blk 13).trans rfl,(I3.out.node.port tt htt).2.2⟩);have T3:=Ab (show TrN v lo o w o w3 from (TrN.blw H0.out.1.fresh B2.out).trans ((Tr.same (S:=fun c=>c = .whl v tt) (H0.out.1.blw B2.out).fresh hO).toN (fun c e=>by rw [e];rfl)));have HR:=Ab hr;clear hO hW hr;simp only [];refine hK.out _ _ (fun _=>HS3.out) ?_;clear hK K
 try refine Sm ?_
 refine WpL.one (i:=13) zz3 rfl (fun K hK=>?_);go_simp;refine hK.out _ _ (fun h=>absurd rfl h) ?_;clear hK K
 try refine Sm ?_
 refine WpL.done zz3 ?_ _;rcases HR.out with ⟨rfl,hno⟩ | ⟨k,hk,hbit,rfl⟩
 · go_wp2
   go_end0;refine ⟨rfl,o,st,[],.inl ⟨fun k hk=>?_,rfl,rfl⟩,by rw [List.append_nil];exact I3.out,T3.out⟩;have:=hno k hk;rw [HM.out] at this;unfold mayM at this;rw [k1M] at this;simpa [hk] using this
 · have hmay:mayB st i tt k=true:=by
    rw [HM.out] at hbit;unfold mayM at hbit;rw [k1M] at hbit;simpa [hk] using hbit
   obtain ⟨x,r,hq⟩:∃ x r,st.q (i,tt,k)=x :: r:=by
    cases h:st.q (i,tt,k) with
    | nil=>unfold mayB at hmay;rw [h] at hmay;cases hmay
    | cons x r=>exact ⟨x,r,rfl⟩
   have hpk:=H0.out.2.2.1 i tt k hi htt hk x (by rw [hq];simp);have HQ:=Ab hq;have HPK:=Ab hpk;have HMY:=Ab hmay;have b0:=fun j=>k00 I3.out.node.blk j
   have e0:=decide_eq_false (show ¬ (k:Int)<0 by omega);have i3:(k:Int)<(D.lanes:Nat):=by omega
   clear hq hpk hbit hmay hm64;by_cases hi0:i=0
   · have e1:=decide_eq_false (show ¬ (0:Int)<(i:Int) by omega)
     have e1':=decide_eq_false (show ¬ 0<i by omega);have HI0:=Ab hi0;clear hi0;by_cases ht0:tt=0
     · have e2:((tt:Int) == 0)=true:=by simp;omega
       have HT0:=Ab ht0;clear ht0
       go_wp2_with (first
        | (go_at_call 129;refine (k38 i tt k x r I3.out.fresh zz17 zz17 zz17 I3.out.node.rings zz1 zz1 zz1 HQ.out).mono ?_;rintro e w4 ⟨rfl,t4,r4⟩;have I4:=Ab (I3.out.to t4 (fun c e=>by rcases e with e | e <;> rw [e] <;> rfl) (I3.out.node.ringsTo t4 r4));have T4:=Ab (T3.out.trans (t4.toN (fun c e=>by rcases e with e | e <;> rw [e] <;> rfl)));have BX:=Ab (heap_alloc_new w4 (.cells #[.int .i64 x.src,.int .i64 x.dst,.int .i64 x.lane,.int .u32 x.body] 40));have BB:=Ab (show Below w4.heap.size w4 (w4.alloc (.cells #[.int .i64 x.src,.int .i64 x.dst,.int .i64 x.lane,.int .u32 x.body] 40)) from (Below.refl _ _).alloc (Nat.le_refl _) _);have I5:=Ab (I4.out.blw BB.out);have b4:=fun j=>k00 I4.out.node.blk j;have n1:=k03 I4.out.node.blk;have n2:=I4.out.node.ports.lt rfl;clear t4 r4;have T5:=Ab (T4.out.trans (TrN.blw I4.out.fresh BB.out))))
       obtain ⟨q0,q1,q2,q3⟩:=box4 (w:=w) BX.out;have HS6:=Ab (show (fun (W:World)=>W.cell? ⟨T.g,14,none⟩=some (.pointer (some ⟨T.host,0,none⟩))/\W.cell? ⟨w4.heap.size,0,none⟩=some (.int .i64 x.src)/\W.cell? ⟨w4.heap.size,1,none⟩=some (.int .i64 x.dst)/\W.cell? ⟨w4.heap.size,2,none⟩=some (.int .i64 x.lane)/\W.cell? ⟨w4.heap.size,3,none⟩=some (.int .u32 x.body)) _ from ⟨(k00 I5.out.node.blk 14).trans rfl,q0,q1,q2,q3⟩);clear q0 q1 q2 q3;refine WpL.region (fun (W:World)=>W.cell? ⟨T.g,14,none⟩=some (.pointer (some ⟨T.host,0,none⟩))/\W.cell? ⟨w4.heap.size,0,none⟩=some (.int .i64 x.src)/\W.cell? ⟨w4.heap.size,1,none⟩=some (.int .i64 x.dst)/\W.cell? ⟨w4.heap.size,2,none⟩=some (.int .i64 x.lane)/\W.cell? ⟨w4.heap.size,3,none⟩=some (.int .u32 x.body)) 5 zz3 ?_;refine WpL.T 0 [3,2,1] HS6.out ?_;refine WpL.T 1 [3,2] HS6.out ?_;refine WpL.T 2 [3] HS6.out ?_;refine WpL.T 3 [] HS6.out ?_;refine WpL.T 4 [] HS6.out ?_;refine WpL.one (i:=5) zz3 rfl (fun K hK=>?_);go_simp;refine (k51 x (I5.out.blw ((Below.refl _ _).drew)).fresh (I5.out.blw ((Below.refl _ _).drew)).node.host H0.out.2.2.2.2.2).mono ?_;rintro e w8 ⟨rfl,o8,t8,h8⟩;have K8:=Ab (show _/\_ from ⟨k2V t8,h8⟩);clear t8 h8;simp only [];refine hK.out _ _ (fun h=>absurd rfl h) ?_;clear hK K
       try refine Sm ?_
       refine WpL.done zz3 ?_ _;go_wp2;go_end0;have hfr:k0F (k0I st i tt k r) i k=k0I st i tt k r:=if_pos HI0.out;refine ⟨rfl,o8,_,[],.inr ⟨k,x,r,hk,HMY.out,HQ.out,.inl ⟨HT0.out,rfl,rfl⟩⟩,?_,T5.out.trans (K8.out.1.toN (fun c e=>by rw [e];rfl))⟩;rw [List.append_nil];unfold k1U;rw [hfr];exact I5.out.to K8.out.1 (fun c e=>by rw [e];rfl) (I5.out.node.hostTo K8.out.1 K8.out.2)
     · have e2:((tt:Int) == 0)=false:=by simp;omega
       have ht1:1<=tt:=by omega
       have HT0:=Ab ht0;clear ht0;obtain ⟨s,hs⟩:∃ s,s=(st.snd tt k).1:=⟨_,rfl⟩;obtain ⟨l,hl⟩:∃ l,l=(st.snd tt k).2:=⟨_,rfl⟩;have x0:=H0.out.2.1.s0 tt k ht1 htt hk;have x2:=H0.out.2.1.s2 tt k ht1 htt hk;have x3:=H0.out.2.1.s3 tt k ht1 htt hk;have x1:(st.snd tt k).1<(st.snd tt k).2:=by
        have h:=HMY.out;exact zz71
       rw [<- hs] at x0 x1 x2 x3;rw [<- hl] at x1 x2;have HSL:=Ab (show s=(st.snd tt k).1/\l=(st.snd tt k).2 from ⟨hs,hl⟩);have HF:=Ab (k2W H0.out.2.2.2.1 hk HPK.out s);obtain ⟨xa,xb,y1,y2,y3,y4,y5,y6,y7,y8⟩:=HPK.out;have hn6:=H0.out.2.2.2.1.n1;have z1:0<=x.src:=by omega
       have z2:x.src<=5:=by omega
       have z3:0<=x.dst:=by omega
       have z4:x.dst<=5:=by omega
       have u1:IntKind.u8.wrap x.src=x.src:=IntWalk.u8_in _ zz1;have u2:IntKind.u8.wrap x.dst=x.dst:=IntWalk.u8_in _ zz1;have u3:IntKind.u8.wrap (k:Int)=(k:Int):=IntWalk.u8_in _ zz1;have u4:IntKind.u16.wrap s=s % 65536:=w16 s;clear y1 y2 y3 y4 y5 y6 hs hl
       go_wp2_with (first
        | (go_at_call 129;refine (k38 i tt k x r I3.out.fresh zz17 zz17 zz17 I3.out.node.rings zz1 zz1 zz1 HQ.out).mono ?_;rintro e w4 ⟨rfl,t4,r4⟩;have I4:=Ab (I3.out.to t4 (fun c e=>by rcases e with e | e <;> rw [e] <;> rfl) (I3.out.node.ringsTo t4 r4));have T4:=Ab (T3.out.trans (t4.toN (fun c e=>by rcases e with e | e <;> rw [e] <;> rfl)));have BX:=Ab (heap_alloc_new w4 (.cells #[.int .i64 x.src,.int .i64 x.dst,.int .i64 x.lane,.int .u32 x.body] 40));have BB:=Ab (show Below w4.heap.size w4 (w4.alloc (.cells #[.int .i64 x.src,.int .i64 x.dst,.int .i64 x.lane,.int .u32 x.body] 40)) from (Below.refl _ _).alloc (Nat.le_refl _) _);have I5:=Ab (I4.out.blw BB.out);have b4:=fun j=>k00 I4.out.node.blk j;have n1:=k03 I4.out.node.blk;have n2:=I4.out.node.ports.lt rfl;clear t4 r4;obtain ⟨_,p1',_⟩:=I4.out.node.port tt htt;obtain ⟨l0',_⟩:=I4.out.node.lane tt k ht1 htt hk;rw [show k1s D T tt = .slice (some ⟨T.lb tt,T.lo tt,none⟩) D.lanes (T.lc tt) from if_neg zz1] at p1';have n3':=(I4.out.node.lanes tt ht1 htt).1.lt rfl;have T5:=Ab (T4.out.trans (TrN.blw I4.out.fresh BB.out)))
        | (go_at_call 132;refine (k3D (T.snd tt k) s l _ _ (by rw [HSL.out.1,HSL.out.2];exact I5.out.node.sndSt tt k ht1 htt hk) x0 x1 x2 zz1).mono ?_;rintro e w7 ⟨rfl,hs⟩;have O7:=Ab (show Only (fun b=>o b = .snd v tt k) _ w7 from hs.2.mono (fun b _ e=>by rw [e];exact (I5.out.node.snd tt k ht1 htt hk).1));have I7:=Ab (I5.out.to (Tr.same (S:=fun c=>c = .snd v tt k) I5.out.fresh O7.out) (fun c e=>by rw [e];rfl) (I5.out.node.sndTo I5.out.fresh ht1 htt hk hs));have T7:=Ab (T5.out.trans ((Tr.same (S:=fun c=>c = .snd v tt k) I5.out.fresh O7.out).toN (fun c e=>by rw [e];rfl)));have BX7:=Ab ((hs.2.keep w4.heap.size (k03 BX.out) (by have:=k03 (I4.out.node.snd tt k ht1 htt hk).2;omega)).trans BX.out);obtain ⟨q0,q1,q2,q3⟩:=box4 (w:=w7) BX7.out;clear hs)
        | (go_at_call 87;refine (k33 tt (k2y k s x) I7.out.node I7.out.fresh I7.out.say I7.out.lo htt HF.out.1 HF.out.2 H0.out.2.2.2.2.1).mono ?_;rintro e w8 ⟨rfl,hO,hY⟩;have K8:=Ab (show _/\_ from ⟨hO,hY⟩);clear hO hY))
       go_end0;have hfr:k0F (k0I st i tt k r) i k=k0I st i tt k r:=if_pos HI0.out;refine ⟨rfl,o,_,[(k0E D v tt,(k2y k (st.snd tt k).1 x).bytes)],.inr ⟨k,x,r,hk,HMY.out,HQ.out,.inr ⟨zz1,rfl,rfl⟩⟩,?_,T7.out.trans (TrN.say I7.out.fresh K8.out.1)⟩;unfold k30;exact zz73
   · have e1:=decide_eq_true (show (0:Int)<(i:Int) by omega)
     have e1':=decide_eq_true (show 0<i by omega);have hi1:1<=i:=by omega
     have HI0:=Ab hi0;clear hi0;by_cases ht0:tt=0
     · have e2:((tt:Int) == 0)=true:=by simp;omega
       have HT0:=Ab ht0;clear ht0
       go_wp2_with (first
        | (go_at_call 129;refine (k38 i tt k x r I3.out.fresh zz17 zz17 zz17 I3.out.node.rings zz1 zz1 zz1 HQ.out).mono ?_;rintro e w4 ⟨rfl,t4,r4⟩;have I4:=Ab (I3.out.to t4 (fun c e=>by rcases e with e | e <;> rw [e] <;> rfl) (I3.out.node.ringsTo t4 r4));have T4:=Ab (T3.out.trans (t4.toN (fun c e=>by rcases e with e | e <;> rw [e] <;> rfl)));have BX:=Ab (heap_alloc_new w4 (.cells #[.int .i64 x.src,.int .i64 x.dst,.int .i64 x.lane,.int .u32 x.body] 40));have BB:=Ab (show Below w4.heap.size w4 (w4.alloc (.cells #[.int .i64 x.src,.int .i64 x.dst,.int .i64 x.lane,.int .u32 x.body] 40)) from (Below.refl _ _).alloc (Nat.le_refl _) _);have I5:=Ab (I4.out.blw BB.out);have b4:=fun j=>k00 I4.out.node.blk j;have n1:=k03 I4.out.node.blk;have n2:=I4.out.node.ports.lt rfl;clear t4 r4;obtain ⟨_,p1,_⟩:=I4.out.node.port i hi;obtain ⟨_,l1⟩:=I4.out.node.lane i k hi1 hi hk;rw [show k1s D T i = .slice (some ⟨T.lb i,T.lo i,none⟩) D.lanes (T.lc i) from if_neg zz1] at p1;have n3:=(I4.out.node.lanes i hi1 hi).1.lt rfl;have T5:=Ab (T4.out.trans (TrN.blw I4.out.fresh BB.out)))
        | (go_at_call 130;refine (k7q _ _ _ _ _ _ (I5.out.node.rcvSt i k hi1 hi hk) (H0.out.2.1.r2 i k hi1 hi hk) zz72).mono ?_;rintro e w6 ⟨⟨bb,rfl⟩,hs⟩;have O6:=Ab (show Only (fun b=>o b = .rcv v i k) _ w6 from hs.2.mono (fun b _ e=>by rw [e];exact (I5.out.node.rcv i k hi1 hi hk).1));have I6:=Ab (I5.out.to (Tr.same (S:=fun c=>c = .rcv v i k) I5.out.fresh O6.out) (fun c e=>by rw [e];rfl) (I5.out.node.rcvTo I5.out.fresh hi1 hi hk hs));have T6:=Ab ((T4.out.trans (TrN.blw I4.out.fresh BB.out)).trans ((Tr.same (S:=fun c=>c = .rcv v i k) I5.out.fresh O6.out).toN (fun c e=>by rw [e];rfl)));have BX6:=Ab ((hs.2.keep w4.heap.size zz17 (by have:=k03 (I4.out.node.rcv i k hi1 hi hk).2;omega)).trans BX.out);have b6:=fun j=>k00 I6.out.node.blk j;clear hs))
       obtain ⟨q0,q1,q2,q3⟩:=box4 (w:=w) BX6.out;have HS6:=Ab (show (fun (W:World)=>W.cell? ⟨T.g,14,none⟩=some (.pointer (some ⟨T.host,0,none⟩))/\W.cell? ⟨w4.heap.size,0,none⟩=some (.int .i64 x.src)/\W.cell? ⟨w4.heap.size,1,none⟩=some (.int .i64 x.dst)/\W.cell? ⟨w4.heap.size,2,none⟩=some (.int .i64 x.lane)/\W.cell? ⟨w4.heap.size,3,none⟩=some (.int .u32 x.body)) _ from ⟨(k00 I6.out.node.blk 14).trans rfl,q0,q1,q2,q3⟩);clear q0 q1 q2 q3;refine WpL.region (fun (W:World)=>W.cell? ⟨T.g,14,none⟩=some (.pointer (some ⟨T.host,0,none⟩))/\W.cell? ⟨w4.heap.size,0,none⟩=some (.int .i64 x.src)/\W.cell? ⟨w4.heap.size,1,none⟩=some (.int .i64 x.dst)/\W.cell? ⟨w4.heap.size,2,none⟩=some (.int .i64 x.lane)/\W.cell? ⟨w4.heap.size,3,none⟩=some (.int .u32 x.body)) 5 zz3 ?_;refine WpL.T 0 [3,2,1] HS6.out ?_;refine WpL.T 1 [3,2] HS6.out ?_;refine WpL.T 2 [3] HS6.out ?_;refine WpL.T 3 [] HS6.out ?_;refine WpL.T 4 [] HS6.out ?_;refine WpL.one (i:=5) zz3 rfl (fun K hK=>?_);go_simp;refine (k51 x (I6.out.blw ((Below.refl _ _).drew)).fresh (I6.out.blw ((Below.refl _ _).drew)).node.host H0.out.2.2.2.2.2).mono ?_;rintro e w8 ⟨rfl,o8,t8,h8⟩;have K8:=Ab (show _/\_ from ⟨k2V t8,h8⟩);clear t8 h8;simp only [];refine hK.out _ _ (fun h=>absurd rfl h) ?_;clear hK K
       try refine Sm ?_
       refine WpL.done zz3 ?_ _;go_wp2;go_end0;have hfr:k0F (k0I st i tt k r) i k = { k0I st i tt k r with rcv:=upd2 st.rcv i k ((st.rcv i k).1,if (st.rcv i k).2=0 then 0 else (st.rcv i k).2-1) }:=if_neg (by have:=HI0.out;omega);refine ⟨rfl,o8,_,[],.inr ⟨k,x,r,hk,HMY.out,HQ.out,.inl ⟨HT0.out,rfl,rfl⟩⟩,?_,T6.out.trans (K8.out.1.toN (fun c e=>by rw [e];rfl))⟩;rw [List.append_nil];unfold k1U;rw [hfr];exact I6.out.to K8.out.1 (fun c e=>by rw [e];rfl) (I6.out.node.hostTo K8.out.1 K8.out.2)
     · have e2:((tt:Int) == 0)=false:=by simp;omega
       have ht1:1<=tt:=by omega
       have HT0:=Ab ht0;clear ht0;obtain ⟨s,hs⟩:∃ s,s=(st.snd tt k).1:=⟨_,rfl⟩;obtain ⟨l,hl⟩:∃ l,l=(st.snd tt k).2:=⟨_,rfl⟩;have x0:=H0.out.2.1.s0 tt k ht1 htt hk;have x2:=H0.out.2.1.s2 tt k ht1 htt hk;have x3:=H0.out.2.1.s3 tt k ht1 htt hk;have x1:(st.snd tt k).1<(st.snd tt k).2:=by
        have h:=HMY.out;exact zz71
       rw [<- hs] at x0 x1 x2 x3;rw [<- hl] at x1 x2;have HSL:=Ab (show s=(st.snd tt k).1/\l=(st.snd tt k).2 from ⟨hs,hl⟩);have HF:=Ab (k2W H0.out.2.2.2.1 hk HPK.out s);obtain ⟨xa,xb,y1,y2,y3,y4,y5,y6,y7,y8⟩:=HPK.out;have hn6:=H0.out.2.2.2.1.n1;have z1:0<=x.src:=by omega
       have z2:x.src<=5:=by omega
       have z3:0<=x.dst:=by omega
       have z4:x.dst<=5:=by omega
       have u1:IntKind.u8.wrap x.src=x.src:=IntWalk.u8_in _ zz1;have u2:IntKind.u8.wrap x.dst=x.dst:=IntWalk.u8_in _ zz1;have u3:IntKind.u8.wrap (k:Int)=(k:Int):=IntWalk.u8_in _ zz1;have u4:IntKind.u16.wrap s=s % 65536:=w16 s;clear y1 y2 y3 y4 y5 y6 hs hl
       go_wp2_with (first
        | (go_at_call 129;refine (k38 i tt k x r I3.out.fresh zz17 zz17 zz17 I3.out.node.rings zz1 zz1 zz1 HQ.out).mono ?_;rintro e w4 ⟨rfl,t4,r4⟩;have I4:=Ab (I3.out.to t4 (fun c e=>by rcases e with e | e <;> rw [e] <;> rfl) (I3.out.node.ringsTo t4 r4));have T4:=Ab (T3.out.trans (t4.toN (fun c e=>by rcases e with e | e <;> rw [e] <;> rfl)));have BX:=Ab (heap_alloc_new w4 (.cells #[.int .i64 x.src,.int .i64 x.dst,.int .i64 x.lane,.int .u32 x.body] 40));have BB:=Ab (show Below w4.heap.size w4 (w4.alloc (.cells #[.int .i64 x.src,.int .i64 x.dst,.int .i64 x.lane,.int .u32 x.body] 40)) from (Below.refl _ _).alloc (Nat.le_refl _) _);have I5:=Ab (I4.out.blw BB.out);have b4:=fun j=>k00 I4.out.node.blk j;have n1:=k03 I4.out.node.blk;have n2:=I4.out.node.ports.lt rfl;clear t4 r4;obtain ⟨_,p1,_⟩:=I4.out.node.port i hi;obtain ⟨_,l1⟩:=I4.out.node.lane i k hi1 hi hk;rw [show k1s D T i = .slice (some ⟨T.lb i,T.lo i,none⟩) D.lanes (T.lc i) from if_neg zz1] at p1;have n3:=(I4.out.node.lanes i hi1 hi).1.lt rfl;obtain ⟨_,p1',_⟩:=I4.out.node.port tt htt;obtain ⟨l0',_⟩:=I4.out.node.lane tt k ht1 htt hk;rw [show k1s D T tt = .slice (some ⟨T.lb tt,T.lo tt,none⟩) D.lanes (T.lc tt) from if_neg zz1] at p1';have n3':=(I4.out.node.lanes tt ht1 htt).1.lt rfl;have T5:=Ab (T4.out.trans (TrN.blw I4.out.fresh BB.out)))
        | (go_at_call 130;refine (k7q _ _ _ _ _ _ (I5.out.node.rcvSt i k hi1 hi hk) (H0.out.2.1.r2 i k hi1 hi hk) zz72).mono ?_;rintro e w6 ⟨⟨bb,rfl⟩,hs⟩;have O6:=Ab (show Only (fun b=>o b = .rcv v i k) _ w6 from hs.2.mono (fun b _ e=>by rw [e];exact (I5.out.node.rcv i k hi1 hi hk).1));have I6:=Ab (I5.out.to (Tr.same (S:=fun c=>c = .rcv v i k) I5.out.fresh O6.out) (fun c e=>by rw [e];rfl) (I5.out.node.rcvTo I5.out.fresh hi1 hi hk hs));have T6:=Ab ((T4.out.trans (TrN.blw I4.out.fresh BB.out)).trans ((Tr.same (S:=fun c=>c = .rcv v i k) I5.out.fresh O6.out).toN (fun c e=>by rw [e];rfl)));have BX6:=Ab ((hs.2.keep w4.heap.size zz17 (by have:=k03 (I4.out.node.rcv i k hi1 hi hk).2;omega)).trans BX.out);have b6:=fun j=>k00 I6.out.node.blk j;clear hs;obtain ⟨_,p16,_⟩:=I6.out.node.port tt htt;obtain ⟨l06,_⟩:=I6.out.node.lane tt k ht1 htt hk;rw [show k1s D T tt = .slice (some ⟨T.lb tt,T.lo tt,none⟩) D.lanes (T.lc tt) from if_neg zz1] at p16)
        | (go_at_call 132;refine (k3D (T.snd tt k) s l _ _ (by rw [HSL.out.1,HSL.out.2];exact I6.out.node.sndSt tt k ht1 htt hk) x0 x1 x2 zz1).mono ?_;rintro e w7 ⟨rfl,hs⟩;have O7:=Ab (show Only (fun b=>o b = .snd v tt k) _ w7 from hs.2.mono (fun b _ e=>by rw [e];exact (I6.out.node.snd tt k ht1 htt hk).1));have I7:=Ab (I6.out.to (Tr.same (S:=fun c=>c = .snd v tt k) I6.out.fresh O7.out) (fun c e=>by rw [e];rfl) (I6.out.node.sndTo I6.out.fresh ht1 htt hk hs));have T7:=Ab (T6.out.trans ((Tr.same (S:=fun c=>c = .snd v tt k) I6.out.fresh O7.out).toN (fun c e=>by rw [e];rfl)));have BX7:=Ab ((hs.2.keep w4.heap.size (k03 BX6.out) (by have:=k03 (I4.out.node.snd tt k ht1 htt hk).2;omega)).trans BX6.out);obtain ⟨q0,q1,q2,q3⟩:=box4 (w:=w7) BX7.out;clear hs)
        | (go_at_call 87;refine (k33 tt (k2y k s x) I7.out.node I7.out.fresh I7.out.say I7.out.lo htt HF.out.1 HF.out.2 H0.out.2.2.2.2.1).mono ?_;rintro e w8 ⟨rfl,hO,hY⟩;have K8:=Ab (show _/\_ from ⟨hO,hY⟩);clear hO hY))
       go_end0;have hfr:k0F (k0I st i tt k r) i k = { k0I st i tt k r with rcv:=upd2 st.rcv i k ((st.rcv i k).1,if (st.rcv i k).2=0 then 0 else (st.rcv i k).2-1) }:=if_neg (by have:=HI0.out;omega);refine ⟨rfl,o,_,[(k0E D v tt,(k2y k (st.snd tt k).1 x).bytes)],.inr ⟨k,x,r,hk,HMY.out,HQ.out,.inr ⟨zz1,rfl,rfl⟩⟩,?_,T7.out.trans (TrN.say I7.out.fresh K8.out.1)⟩;unfold k30;exact zz73
end
def ctlF (c:Int) (k:Nat) (n:Int):Wire.Fr:=⟨c,k,n % 65536,0,0,0⟩
theorem k1J {c:Int} (hc:c=2\/c=3) {k:Nat} (hk:k<3) (n:Int):(ctlF c k n).wf/\(ctlF c k n).sound=true:=by
 refine ⟨⟨⟨by show 0<=c;omega,by show c<=255;omega⟩,⟨by show (0:Int)<=(k:Int);omega,by show (k:Int)<=255;omega⟩,⟨by show 0<=n % 65536;omega,by show n % 65536<=65535;omega⟩,⟨by show (0:Int)<=0;omega,by show (0:Int)<=255;omega⟩,⟨by show (0:Int)<=0;omega,by show (0:Int)<=255;omega⟩,⟨by show (0:Int)<=0;omega,by show (0:Int)<=4294967295;omega⟩⟩,?_⟩;exact Wire.sound_iff.2 ⟨by show (k:Int)<3;omega,.inr ⟨hc,rfl,rfl,rfl⟩⟩
def k5w (D:PlanD) (v:Nat) (st:NSt) (i k:Nat):List OutP:=(List.range k).flatMap fun k=>[(k0E D v i,(ctlF 3 k (st.snd i k).1).bytes),(k0E D v i,(ctlF 2 k ((st.rcv i k).1+(D.room-(st.rcv i k).2))).bytes)]
def k19 (D:PlanD) (v:Nat) (st:NSt) (n:Nat):List OutP:=(List.range n).flatMap fun i=>if i=0 then [] else k5w D v st i D.lanes
theorem k8q (D:PlanD) (v:Nat) (st:NSt) (i k:Nat):k5w D v st i (k+1)=k5w D v st i k++[(k0E D v i,(ctlF 3 k (st.snd i k).1).bytes)]++[(k0E D v i,(ctlF 2 k ((st.rcv i k).1+(D.room-(st.rcv i k).2))).bytes)]:=by simp [k5w,List.range_succ]
theorem k6w (D:PlanD) (v:Nat) (st:NSt) (i k:Nat):(k5w D v st i k).length=k*2:=k36 _ 2 (fun _=>rfl) k
theorem k2P (D:PlanD) (v:Nat) (st:NSt) (n:Nat):k19 D v st (n+1)=k19 D v st n++(if n=0 then [] else k5w D v st n D.lanes):=by simp [k19,List.range_succ]
theorem k2v (D:PlanD) (v:Nat) (st:NSt):∀ n,(k19 D v st n).length<=n*(D.lanes*2)
 | 0=>by simp [k19]
 | n+1=>by
   have:=k2v D v st n;rw [k2P,List.length_append,Nat.succ_mul];split
   · exact zz25
   · rw [k6w];omega
section
variable {w:World} {o:Nat->Col} {v:Nat} {D:PlanD} {T:NTab} {st:NSt} {lo ob nb:Nat} {outs:List OutP}
theorem k4I (I:InTick D v lo ob nb T w o st outs) (G:Good D) (hv:v<D.nodes) (N:k9c D v st) (hlen:outs.length<=9000) :
 Calls Tryz.prog 93 #[.pointer (some ⟨T.g,0,none⟩),.func (.func 87) #[] #[.pointer (some ⟨ob,0,none⟩),.pointer (some ⟨nb,0,none⟩)]] w fun e w'=>e = .returned (.tuple #[])/\InTick D v lo ob nb T w' o st (outs++k19 D v st (np D v))/\TrN v lo o w o w':=by
 have hl3:=G.l1;have hnp:=k2k G hv;have H0:=Ab (show _/\_/\_/\_ from ⟨I,N,G,hlen⟩);have b0:=fun j=>k00 I.node.blk j
 clear I G N hlen;go_enter Tryz.func93,Tryz.ntmps93;go_wp2;clear b0
 go_loopw [13] (fun s13 wr=>∃ i:Nat,i<=np D v/\s13 = .int .i64 i/\k08 (InTick D v lo ob nb T wr o st (outs++k19 D v st i)/\TrN v lo o w o wr)) (fun s13 _=>np D v-ixOf s13)
 case atStart=>exact ⟨0,zz1,rfl,⟨by rw [show k19 D v st 0=[] from rfl,List.append_nil];exact H0.out.1,TrN.refl H0.out.1.fresh⟩⟩
 case round=>
  obtain ⟨i,hi,rfl,R⟩:=hrel;by_cases hlt:i<np D v
  · have e1:(i:Int)<(np D v:Nat):=by omega
    obtain ⟨p0,p1,p2⟩:=R.out.1.node.port i hlt;by_cases hi0:i=0
    · rw [show k1s D T i = .slice none 0 0 from if_pos hi0] at p1
      have HI:=Ab hi0;clear hi0;go_wp2;have B1:=Ab (show Below wr.heap.size wr (wr.alloc (.cells #[.int .i64 (k0E D v i:Nat),.slice none 0 0,.pointer (some ⟨T.whl i,0,none⟩)] 141)) from (Below.refl _ _).alloc (Nat.le_refl _) _)
      go_loopw [21] (fun s21 W=>s21 = .int .i64 0/\W=wr.alloc (.cells #[.int .i64 (k0E D v i:Nat),.slice none 0 0,.pointer (some ⟨T.whl i,0,none⟩)] 141)) (fun s21 _=>0)
      case atStart=>exact ⟨rfl,rfl⟩
      case round=>
       obtain ⟨rfl,rfl⟩:=hrel;go_wp2;refine ⟨⟨i+1,zz1,rfl,⟨?_,R.out.2.trans (TrN.blw R.out.1.fresh B1.out)⟩⟩,?_⟩
       · rw [k2P,if_pos HI.out,List.append_nil]
         exact R.out.1.blw B1.out
       · show np D v-ixOf (.int .i64 ((i:Int)+1))<np D v-ixOf (.int .i64 (i:Int))
         simp only [ixOf];exact zz1
    · have hi1:1<=i:=by omega
      rw [show k1s D T i = .slice (some ⟨T.lb i,T.lo i,none⟩) D.lanes (T.lc i) from if_neg hi0] at p1;clear hi0;go_wp2;have B1:=Ab (show Below wr.heap.size wr (wr.alloc (.cells #[.int .i64 (k0E D v i:Nat),.slice (some ⟨T.lb i,T.lo i,none⟩) D.lanes (T.lc i),.pointer (some ⟨T.whl i,0,none⟩)] 141)) from (Below.refl _ _).alloc (Nat.le_refl _) _);clear p0 p1 p2
      go_loopw [21] (fun s21 W=>∃ k:Nat,k<=D.lanes/\s21 = .int .i64 k/\k08 (InTick D v lo ob nb T W o st (outs++k19 D v st i++k5w D v st i k)/\TrN v lo o w o W)) (fun s21 _=>D.lanes-ixOf s21)
      case atStart=>exact ⟨0,zz1,rfl,⟨by rw [show k5w D v st i 0=[] from rfl,List.append_nil];exact R.out.1.blw B1.out,R.out.2.trans (TrN.blw R.out.1.fresh B1.out)⟩⟩
      case round=>
       clear B1 R;obtain ⟨k,hk,rfl,R⟩:=hrel;by_cases hlk:k<D.lanes
       · have e2:(k:Int)<(D.lanes:Nat):=by omega
         obtain ⟨l0,l1⟩:=R.out.1.node.lane i k hi1 hlt hlk;have u3:IntKind.u8.wrap (k:Int)=(k:Int):=IntWalk.u8_in _ zz1;obtain ⟨s,hs⟩:∃ s,s=(st.snd i k).1:=⟨_,rfl⟩;obtain ⟨rn,hrn⟩:∃ rn,rn=(st.rcv i k).1+(D.room-(st.rcv i k).2):=⟨_,rfl⟩;have u4:IntKind.u16.wrap s=s % 65536:=w16 s;have u5:IntKind.u16.wrap rn=rn % 65536:=w16 rn;have HK:=Ab (show _/\_ from ⟨hs,hrn⟩);have hb1:(k19 D v st i).length<=36:=by
          have h1:=k2v D v st i;have h2:i*(D.lanes*2)<=6*(3*2):=Nat.mul_le_mul zz1 zz1;exact zz1
         have hb2:(k5w D v st i k).length<=6:=by rw [k6w];omega
         have HB:=Ab (show _/\_ from ⟨hb1,hb2⟩);have B2:=Ab (show Below wr.heap.size wr (wr.alloc (.cells #[.pointer (some ⟨T.snd i k,0,none⟩),.pointer (some ⟨T.rcv i k,0,none⟩)] 148)) from (Below.refl _ _).alloc (Nat.le_refl _) _);have I2:=Ab (R.out.1.blw B2.out);have Z2:=Ab (heap_alloc_new wr (.cells #[.pointer (some ⟨T.snd i k,0,none⟩),.pointer (some ⟨T.rcv i k,0,none⟩)] 148));obtain ⟨xb,hxb⟩:∃ xb,xb=wr.heap.size:=⟨_,rfl⟩;have HXB:=Ab hxb;clear hs hrn hb1 hb2 hxb
         go_wp2_with (first
          | (go_at_call 85;refine (k1G (T.snd i k) s (st.snd i k).2 _ _ (by rw [HK.out.1];exact I2.out.node.sndSt i k hi1 hlt hlk)).mono ?_;rintro e w3 ⟨rfl,h3⟩;have B3:=Ab ((I2.out.node.sndSt i k hi1 hlt hlk).blw (by rw [HK.out.1] at h3;exact h3));have I3:=Ab (I2.out.blw B3.out);clear h3)
          | (go_at_call 87;refine (k33 i (ctlF 2 k rn) I5.out.node I5.out.fresh I5.out.say I5.out.lo hlt (k1J (.inl rfl) zz1 rn).1 (k1J (.inl rfl) zz1 rn).2 (by have:=H0.out.2.2.2;have:=HB.out.1;have:=HB.out.2;simp only [List.length_append,List.length_singleton];omega)).mono ?_;rintro e w6 ⟨rfl,hO,hY⟩;have O6:=Ab hO;have I6:=Ab (I5.out.said hO hY);clear hO hY)
          | (go_at_call 87;refine (k33 i (ctlF 3 k s) I3.out.node I3.out.fresh I3.out.say I3.out.lo hlt (k1J (.inr rfl) zz1 s).1 (k1J (.inr rfl) zz1 s).2 (by have:=H0.out.2.2.2;have:=HB.out.1;have:=HB.out.2;simp only [List.length_append];omega)).mono ?_;rintro e w4 ⟨rfl,hO,hY⟩;have O4:=Ab hO;have I4:=Ab (I3.out.said hO hY);have Z3:=(B3.out.block _ zz17).trans Z2.out;have Z4:=(hO.keep _ (k03 Z3) (fun h=>by obtain ⟨_,_,cur,T,h3,h4⟩:=h;rw [Z3] at h3;injection h3 with h3;injection h3 with h5 h6;subst h6;rcases h4 with h4 | h4 <;> cases h4)).trans Z3;have b4:=(k00 Z4 1).trans rfl;have Z4':=Ab Z4;clear hO hY Z3 Z4)
          | (go_at_call 80;refine (k6a (T.rcv i k) (st.rcv i k).1 (st.rcv i k).2 D.room _ _ (I4.out.node.rcvSt i k hi1 hlt hlk) (H0.out.2.1.r0 i k hi1 hlt hlk) (by have:=H0.out.2.1.r1 i k hi1 hlt hlk;omega) (H0.out.2.1.r2 i k hi1 hlt hlk) (H0.out.2.1.r3 i k hi1 hlt hlk) (by have:=H0.out.2.2.1.r1;omega)).mono ?_;rw [<- HK.out.2];rintro e w5 ⟨rfl,h5⟩;have B5:=Ab ((I4.out.node.rcvSt i k hi1 hlt hlk).blw h5);have I5:=Ab (I4.out.blw B5.out);clear h5))
         refine ⟨⟨k+1,zz1,rfl,⟨?_,?_⟩⟩,?_⟩
         · rw [k8q,<- HK.out.1,<- HK.out.2,<- List.append_assoc,<- List.append_assoc]
           exact I6.out
         · exact (((R.out.2.trans (TrN.blw R.out.1.fresh (B2.out.trans (B3.out.mono B2.out.size)))).trans (TrN.say I3.out.fresh O4.out)).trans (TrN.blw I4.out.fresh B5.out)).trans (TrN.say I5.out.fresh O6.out)
         · show D.lanes-ixOf (.int .i64 ((k:Int)+1))<D.lanes-ixOf (.int .i64 (k:Int))
           simp only [ixOf];exact zz1
       · have e2:¬ (k:Int)<(D.lanes:Nat):=by omega
         obtain rfl:k=D.lanes:=by omega
         go_wp2;refine ⟨⟨i+1,zz1,rfl,⟨?_,R.out.2⟩⟩,?_⟩
         · rw [k2P,if_neg zz1,<- List.append_assoc]
           exact R.out.1
         · show np D v-ixOf (.int .i64 ((i:Int)+1))<np D v-ixOf (.int .i64 (i:Int))
           simp only [ixOf];exact zz1
  · have e1:¬ (i:Int)<(np D v:Nat):=by omega
    obtain rfl:i=np D v:=by omega
    go_wp2;go_end0;exact ⟨rfl,R.out⟩
end
def MovesTo (D:PlanD) (v:Nat) (ms:Nat->Int):Nat->NSt->NSt->List OutP->Prop
 | 0,s,s',os=>s'=s/\os=[]
 | i+1,s,s',os=>∃ s1 o1 o2,MovesTo D v ms i s s1 o1/\((0<=ms i/\MoveRel D v i (ms i).toNat s1 s' o2)\/(ms i<0/\s'=s1/\o2=[]))/\os=o1++o2
def TickRel (D:PlanD) (v:Nat) (st st':NSt) (os:List OutP):Prop:=
 ∃ s1 ms s2 o2,FedTo D v st D.lanes s1/\k2H (k3P D v s1) (np D v) ms/\(∀ i0 k0,k2g (k3P D v s1) (np D v) i0 k0->ms i0=(k0:Nat))/\MovesTo D v ms (np D v) s1 s2 o2/\st' = { s2 with ticks:=s2.ticks+1 } /\ os=o2++(if (s2.ticks+1) % D.every=0 then k19 D v s2 (np D v) else [])
def kck (D:PlanD) (v:Nat) (M:Int) (st:NSt):Prop:=∀ i k,1<=i->i<np D v->k<D.lanes->(st.snd i k).1<=M/\(st.rcv i k).1<=M
structure NodeOk (D:PlanD) (v:Nat) (M:Int) (C:Nat) (st:NSt):Prop where
 num:k9c D v st
 lt:kck D v M st
 q:QOk D v st
 w:k6r D st
 came:(st.waits 3).length<=C
 wl:∀ k,k<D.lanes->(st.waits k).length<=D.queue
theorem FedTo.same {D:PlanD} {v:Nat} {st:NSt}:∀ {n:Nat} {st':NSt},FedTo D v st n st'->st'.snd=st.snd/\st'.rcv=st.rcv/\st'.ticks=st.ticks
 | 0,st',h=>by obtain rfl:st'=st:=h;exact ⟨rfl,rfl,rfl⟩
 | n+1,st',h=>by
   obtain ⟨s,h1,h2⟩:=h;obtain ⟨a,b,c⟩:=FedTo.same h1;rcases h2 with ⟨_,rfl⟩ | ⟨_,_,rfl⟩ | ⟨x,r,_,_,q',rfl,_⟩ <;> exact ⟨a,b,c⟩
theorem FedTo.waits {D:PlanD} {v:Nat} {st:NSt}:∀ {n:Nat} {st':NSt},FedTo D v st n st'->∀ j,(n<=j->st'.waits j=st.waits j)/\(st'.waits j).length<=(st.waits j).length
 | 0,st',h,j=>by obtain rfl:st'=st:=h;exact ⟨fun _=>rfl,Nat.le_refl _⟩
 | n+1,st',h,j=>by
   obtain ⟨s,h1,h2⟩:=h;obtain ⟨a,b⟩:=FedTo.waits h1 j;rcases h2 with ⟨_,rfl⟩ | ⟨_,_,rfl⟩ | ⟨x,r,_,hw,q',rfl,_⟩
   · exact ⟨fun hj=>a zz1,b⟩
   · exact ⟨fun hj=>a zz1,b⟩
   · by_cases e:j=n
     · subst e
       refine ⟨fun hj=>by omega,?_⟩;show (upd s.waits j r j).length<=_;rw [k04];rw [hw] at b;simp at b;exact zz1
     · show (_->upd s.waits n r j=_)/\(upd s.waits n r j).length<=_
       rw [k06 _ _ e];exact ⟨fun hj=>a zz1,b⟩
theorem QOk.push {D:PlanD} {v:Nat} {q:Way->List Pk} (h:∀ i j k:Nat,i<np D v->j<np D v->k<D.lanes->∀ x∈q (i,j,k),PkIn D k x) {a:Way} {x:Pk} (hx:PkIn D a.2.2 x):∀ i j k:Nat,i<np D v->j<np D v->k<D.lanes->∀ y∈updw q a (q a++[x]) (i,j,k),PkIn D k y:=by
 intro i j k h1 h2 h3 y hy;by_cases e:(i,j,k)=a
 · subst e
   rw [k0n] at hy;rcases List.mem_append.1 hy with hy | hy
   · exact h i j k h1 h2 h3 y hy
   · simp at hy;subst hy;exact hx
 · rw [k0i _ _ e] at hy;exact h i j k h1 h2 h3 y hy
theorem FedTo.qok {D:PlanD} {v:Nat} {st:NSt} (hw:k6r D st) (hq:QOk D v st):∀ {n:Nat} {st':NSt},n<=D.lanes->FedTo D v st n st'->k6r D st'/\QOk D v st'
 | 0,st',_,h=>by obtain rfl:st'=st:=h;exact ⟨hw,hq⟩
 | n+1,st',hn,h=>by
   obtain ⟨s,h1,h2⟩:=h;obtain ⟨a,b⟩:=FedTo.qok hw hq zz1 h1;rcases h2 with ⟨_,rfl⟩ | ⟨_,_,rfl⟩ | ⟨x,r,_,hx,q',rfl,hq'⟩
   · exact ⟨a,b⟩
   · exact ⟨a,b⟩
   · have hpx:=a n zz1 x (by rw [hx];simp)
     refine ⟨fun j hj y hy=>?_,?_⟩
     · by_cases e:j=n
       · subst e
         have hy':y∈r:=by have:y∈upd s.waits j r j:=hy;rwa [k04] at this
         exact a j hj y (by rw [hx];exact List.mem_cons_of_mem _ hy')
       · have hy':y∈s.waits j:=by have:y∈upd s.waits n r j:=hy;rwa [k06 _ _ e] at this
         exact a j hj y hy'
     · rcases hq' with rfl | ⟨rfl,_⟩
       · exact QOk.push b hpx
       · exact b
theorem FedTo.ok {D:PlanD} {v:Nat} {M:Int} {C:Nat} {st st':NSt} (G:Good D) (h:NodeOk D v M C st) (f:FedTo D v st D.lanes st'):NodeOk D v M C st':=by
 obtain ⟨a,b,c⟩:=f.same;obtain ⟨d,e⟩:=FedTo.qok h.w h.q (Nat.le_refl _) f;refine ⟨⟨by rw [a];exact h.num.s0,by rw [a];exact h.num.s1,by rw [a];exact h.num.s2,by rw [a];exact h.num.s3,by rw [b];exact h.num.r0,by rw [b];exact h.num.r1,by rw [b];exact h.num.r2,by rw [b];exact h.num.r3⟩,by unfold kck;rw [a,b];exact h.lt,e,d,?_,fun k hk=>Nat.le_trans (f.waits k).2 (h.wl k hk)⟩;exact Nat.le_trans (f.waits 3).2 h.came
theorem MoveRel.ok {D:PlanD} {v i tt:Nat} {M:Int} {C:Nat} {st st':NSt} {os:List OutP} (G:Good D) (h:NodeOk D v M C st) (hM:M+1<=1000000) (hi:i<np D v) (ht:tt<np D v) (m:MoveRel D v i tt st st' os):NodeOk D v (M+1) (C+1) st'/\os.length<=1/\st'.ticks=st.ticks:=by
 have mono:NodeOk D v (M+1) (C+1) st:=⟨h.num,fun i k a b c=>by have:=h.lt i k a b c;omega,h.q,h.w,by have:=h.came;omega,h.wl⟩;rcases m with ⟨_,rfl,rfl⟩ | ⟨k,x,r,hk,hb,hq,hm⟩
 · exact ⟨mono,zz17,rfl⟩
 · have hpop:NodeOk D v (M+1) (C+1) (k0I st i tt k r):=⟨⟨h.num.s0,h.num.s1,h.num.s2,h.num.s3,h.num.r0,h.num.r1,h.num.r2,h.num.r3⟩,mono.lt,fun a b c h1 h2 h3 y hy=>by
    by_cases e:(a,b,c)=(i,tt,k)
    · have hy':y∈r:=by have:y∈updw st.q (i,tt,k) r (a,b,c):=hy;rw [e,k0n] at this;exact this
      cases e;exact h.q i tt k h1 h2 h3 y (by rw [hq];exact List.mem_cons_of_mem _ hy')
    · have hy':y∈st.q (a,b,c):=by have:y∈updw st.q (i,tt,k) r (a,b,c):=hy;rwa [k0i _ _ e] at this
      exact h.q a b c h1 h2 h3 y hy',h.w,mono.came,h.wl⟩
   have hfr:NodeOk D v (M+1) (C+1) (k0F (k0I st i tt k r) i k):=by
    unfold k0F;split
    · exact hpop
    · rename_i hi0
      have hr:∀ a b,1<=a->a<np D v->b<D.lanes->(upd2 st.rcv i k ((st.rcv i k).1,if (st.rcv i k).2=0 then 0 else (st.rcv i k).2-1) a b).1=(st.rcv a b).1/\0<=(upd2 st.rcv i k ((st.rcv i k).1,if (st.rcv i k).2=0 then 0 else (st.rcv i k).2-1) a b).2/\(upd2 st.rcv i k ((st.rcv i k).1,if (st.rcv i k).2=0 then 0 else (st.rcv i k).2-1) a b).2<=D.room:=fun a b h1 h2 h3=>by
       have r2:=h.num.r2 a b h1 h2 h3;have r3:=h.num.r3 a b h1 h2 h3;by_cases e:a=i/\b=k
       · obtain ⟨rfl,rfl⟩:=e
         rw [k0m];refine ⟨rfl,?_,?_⟩ <;> dsimp only <;> split <;> omega
       · rw [k0h _ _ _ _ e];exact ⟨rfl,r2,r3⟩
      refine ⟨⟨h.num.s0,h.num.s1,h.num.s2,h.num.s3,fun a b h1 h2 h3=>?_,fun a b h1 h2 h3=>?_,fun a b h1 h2 h3=>(hr a b h1 h2 h3).2.1,fun a b h1 h2 h3=>(hr a b h1 h2 h3).2.2⟩,fun a b h1 h2 h3=>⟨(mono.lt a b h1 h2 h3).1,?_⟩,hpop.q,h.w,mono.came,h.wl⟩
      · have:=(hr a b h1 h2 h3).1;have h4:=h.num.r0 a b h1 h2 h3;rw [<- this] at h4;exact h4
      · have:=(hr a b h1 h2 h3).1;have h4:=h.num.r1 a b h1 h2 h3;rw [<- this] at h4;exact h4
      · have:=(hr a b h1 h2 h3).1;have h4:=(mono.lt a b h1 h2 h3).2;rw [<- this] at h4;exact h4
   have hsn:(k0F (k0I st i tt k r) i k).snd=st.snd:=by unfold k0F;split <;> rfl
   have hwt:(k0F (k0I st i tt k r) i k).waits=st.waits:=by unfold k0F;split <;> rfl
   have htk:(k0F (k0I st i tt k r) i k).ticks=st.ticks:=by unfold k0F;split <;> rfl
   have hl3:=G.l1;rcases hm with ⟨_,rfl,rfl⟩ | ⟨ht0,rfl,rfl⟩
   · refine ⟨⟨⟨hfr.num.s0,hfr.num.s1,hfr.num.s2,hfr.num.s3,hfr.num.r0,hfr.num.r1,hfr.num.r2,hfr.num.r3⟩,hfr.lt,hfr.q,fun j hj y hy=>?_,?_,fun j hj=>?_⟩,zz17,htk⟩
     · have hy':y∈upd (k0F (k0I st i tt k r) i k).waits 3 _ j:=hy
       rw [k06 _ _ zz1] at hy';exact hfr.w j hj y hy'
     · have e:(k1U (k0F (k0I st i tt k r) i k) x).waits 3=(k0F (k0I st i tt k r) i k).waits 3++[x]:=by simp [k1U,upd]
       rw [e,hwt];have:=h.came;simp;exact zz1
     · show (upd (k0F (k0I st i tt k r) i k).waits 3 _ j).length<=_
       rw [k06 _ _ zz1];exact hfr.wl j hj
   · have hlt:(st.snd tt k).1<(st.snd tt k).2:=by
      unfold mayB at hb;rw [show (tt == 0)=false from by simp [ht0]] at hb;simp at hb;exact hb.2
     have hs:∀ a b,1<=a->a<np D v->b<D.lanes->0<=(upd2 st.snd tt k ((st.snd tt k).1+1,(st.snd tt k).2) a b).1/\(upd2 st.snd tt k ((st.snd tt k).1+1,(st.snd tt k).2) a b).1<=(upd2 st.snd tt k ((st.snd tt k).1+1,(st.snd tt k).2) a b).2/\(upd2 st.snd tt k ((st.snd tt k).1+1,(st.snd tt k).2) a b).2<=(upd2 st.snd tt k ((st.snd tt k).1+1,(st.snd tt k).2) a b).1+8/\(upd2 st.snd tt k ((st.snd tt k).1+1,(st.snd tt k).2) a b).1<=M+1:=fun a b h1 h2 h3=>by
      have s0:=h.num.s0 a b h1 h2 h3;have s1:=h.num.s1 a b h1 h2 h3;have s2:=h.num.s2 a b h1 h2 h3;have s3:=(h.lt a b h1 h2 h3).1;by_cases e:a=tt/\b=k
      · obtain ⟨rfl,rfl⟩:=e
        rw [k0m];dsimp only;exact zz1
      · rw [k0h _ _ _ _ e];omega
     refine ⟨⟨⟨fun a b h1 h2 h3=>?_,fun a b h1 h2 h3=>?_,fun a b h1 h2 h3=>?_,fun a b h1 h2 h3=>?_,hfr.num.r0,hfr.num.r1,hfr.num.r2,hfr.num.r3⟩,fun a b h1 h2 h3=>⟨?_,(hfr.lt a b h1 h2 h3).2⟩,hfr.q,hfr.w,hfr.came,hfr.wl⟩,zz17,htk⟩
     all_goals
      unfold k30;rw [hsn];have:=hs a b h1 h2 h3;dsimp only;exact zz1
theorem MovesTo.ok {D:PlanD} {v:Nat} {ms:Nat->Int} {rs:List Nat} {M:Int} {C:Nat} {st:NSt} (G:Good D) (hm:k2H rs (np D v) ms) (h:NodeOk D v M C st):∀ {n:Nat} {st':NSt} {os:List OutP},n<=np D v->M+n<=1000000->MovesTo D v ms n st st' os->NodeOk D v (M+n) (C+n) st'/\os.length<=n/\st'.ticks=st.ticks
 | 0,st',os,_,_,hh=>by
   obtain ⟨rfl,rfl⟩:=hh;exact ⟨by simpa using h,zz17,rfl⟩
 | n+1,st',os,hn,hM,hh=>by
   obtain ⟨s1,o1,o2,h1,h2,rfl⟩:=hh;obtain ⟨a,b,c⟩:=MovesTo.ok G hm h zz1 zz1 h1;rcases h2 with ⟨h3,h4⟩ | ⟨_,rfl,rfl⟩
   · obtain ⟨k,hk,e,_⟩:∃ k,k<np D v/\ms n=(k:Nat)/\True:=by
      rcases hm n zz1 with e | ⟨k,hk,e,_⟩
      · exact zz1
      · exact ⟨k,hk,e,trivial⟩
     obtain ⟨x,y,z⟩:=MoveRel.ok G a zz1 (by omega:n<np D v) (by rw [e];simpa using hk) h4;refine ⟨?_,by simp;omega,z.trans c⟩;have e1:M+((n+1:Nat):Int)=M+n+1:=by omega
     rw [e1];exact x
   · refine ⟨⟨a.num,fun i k h1 h2 h3=>?_,a.q,a.w,by have:=a.came;omega,a.wl⟩,by simp;omega,c⟩
     have:=a.lt i k h1 h2 h3;exact zz1
section
variable {w:World} {o:Nat->Col} {v:Nat} {D:PlanD} {T:NTab} {st:NSt}
def kc7 (w:World) (o:Nat->Col) (v:Nat) (D:PlanD) (T:NTab) (st:NSt) (M:Int) (C:Nat) (e:Ending) (w':World):Prop:=
 ∃ V o' st' os,e = .returned V/\TickRel D v st st' os/\NodeAt w' o' v D T st'/\NodeOk D v (M+6) (C+6) st'/\Tr (k0u v) o w o' w'/\OutsAt w' o' w.heap.size V os/\os.length<=50
theorem NodeAt.tickTo (h:NodeAt w o v D T st) (hf:Fresh o w):NodeAt (w.setCell ⟨T.g,16,none⟩ (.int .i64 ((st.ticks:Int)+1))) o v D T { st with ticks:=st.ticks+1 } /\ Tr (fun c=>c = .node v) o w o (w.setCell ⟨T.g,16,none⟩ (.int .i64 ((st.ticks:Int)+1))):=by
 have t:Tr (fun c=>c = .node v) o w o (w.setCell ⟨T.g,16,none⟩ (.int .i64 ((st.ticks:Int)+1))):=Tr.same hf ((k0k _ _ _ _).mono (fun b _ e=>by rw [e];exact h.og));exact ⟨h.upd t zz17 (.inr (k05 h.blk 16 (.int .i64 ((st.ticks:Int)+1)))) (.inl zz17) (.inl ⟨zz17,rfl⟩) (.inl ⟨⟨zz17,zz17⟩,rfl⟩) (fun i _=>.inl zz17) (fun i k _ _ _=>.inl ⟨zz17,rfl⟩) (fun i k _ _ _=>.inl ⟨zz17,rfl⟩),t⟩
theorem NodeOk.tick {M:Int} {C:Nat} (h:NodeOk D v M C st) (t:Nat):NodeOk D v M C { st with ticks:=t }:=⟨⟨h.num.s0,h.num.s1,h.num.s2,h.num.s3,h.num.r0,h.num.r1,h.num.r2,h.num.r3⟩,h.lt,h.q,h.w,h.came,h.wl⟩
theorem NodeOk.mono {M M':Int} {C C':Nat} (h:NodeOk D v M C st) (h1:M<=M') (h2:C<=C'):NodeOk D v M' C' st:=⟨h.num,fun i k a b c=>⟨Int.le_trans (h.lt i k a b c).1 h1,Int.le_trans (h.lt i k a b c).2 h1⟩,h.q,h.w,Nat.le_trans h.came h2,h.wl⟩
theorem SayAt.shape {lo ob nb g:Nat} {outs:List OutP} (h:SayAt w o lo ob nb g outs):∃ A n c,w.heap[ob]? = some (Obj.cells #[.slice A n c] 113 (0,0))/\OutsAt w o lo (.slice A n c) outs:=by
 obtain ⟨V,y1,y2⟩:=h.out;obtain ⟨_,_,_,yr,_⟩:=id y2;obtain ⟨A,c,rfl,_⟩:=yr.size;exact ⟨A,_,c,y1,y2⟩
theorem kaL (D:PlanD) (v:Nat) (st:NSt) (h:np D v<=6):∀ x∈k3P D v st,x<64:=fun x hx=>by
 obtain ⟨i,_,rfl⟩:=List.mem_map.1 hx;exact k32 _ _ h
theorem k82 (M:Int) (C:Nat) (H:NodeAt w o v D T st) (G:Good D) (hv:v<D.nodes) (hf:Fresh o w) (K:NodeOk D v M C st) (hT:Tab w) (h0:o 0 = .fix) (hM:M+6<=1000000) (hC:C+6<=9000) (ht:st.ticks<=1000000) :
 Calls Tryz.prog 49 #[.pointer (some ⟨T.g,0,none⟩)] w (kc7 w o v D T st M C):=by
 have hnp:=k2k G hv;have hnp2:=k6J G hv;have B2:Below w.heap.size w ((w.alloc (.cells #[.pointer (some ⟨T.g,0,none⟩)] 58)).alloc (.cells #[.slice none 0 0] 113)):=((Below.refl _ w).alloc (Nat.le_refl _) _).alloc zz17 _;have Z1:((w.alloc (.cells #[.pointer (some ⟨T.g,0,none⟩)] 58)).alloc (.cells #[.slice none 0 0] 113)).heap[w.heap.size]? = some (.cells #[.pointer (some ⟨T.g,0,none⟩)] 58):=(Below.heap_alloc _ _ _ zz17).trans (heap_alloc_new w _);have Z2:((w.alloc (.cells #[.pointer (some ⟨T.g,0,none⟩)] 58)).alloc (.cells #[.slice none 0 0] 113)).heap[w.heap.size+1]? = some (.cells #[.slice none 0 0] 113):=by
  have h:=heap_alloc_new (w.alloc (.cells #[.pointer (some ⟨T.g,0,none⟩)] 58)) (.cells #[.slice none 0 0] 113);rw [World.size_alloc] at h;exact h
 have I2:=Ab (show InTick D v w.heap.size (w.heap.size+1) w.heap.size T ((w.alloc (.cells #[.pointer (some ⟨T.g,0,none⟩)] 58)).alloc (.cells #[.slice none 0 0] 113)) o st [] from
  ⟨H.blw hf B2,hf.blw B2,⟨⟨_,Z2,OutsAt.nil _ _ _⟩,Z1,zz1,Nat.le_refl _,hf _ zz1,hf _ (Nat.le_refl _)⟩,B2.size,hT.below B2,h0⟩)
 have T2:=Ab (show TrN v w.heap.size o w o ((w.alloc (.cells #[.pointer (some ⟨T.g,0,none⟩)] 58)).alloc (.cells #[.slice none 0 0] 113)) from TrN.blw hf B2);have H0:=Ab (show _/\_/\_/\_ from ⟨K,G,hM,hC⟩);have HT:=Ab ht;clear H G hf K hT h0 B2 Z1 Z2 hM hC ht;go_enter Tryz.func49,Tryz.ntmps49
 go_wp2_with (go_at_call 89;refine (k8l I2.out.node H0.out.2.1 hv I2.out.fresh H0.out.1.w).mono ?_;rintro e w3 ⟨rfl,o3,s3,hfed⟩;have F3:=Ab hfed;have I3:=Ab (I2.out.to hfed.2.2.2.1 (fun c x=>x) hfed.2.1);have T3:=Ab (T2.out.trans (hfed.2.2.2.1.toN (fun c x=>x)));have K3:=Ab (FedTo.ok H0.out.2.1 H0.out.1 hfed.1);clear hfed)
 have HS:=Ab (show (fun (W:World)=>W.cell? ⟨w.heap.size,0,none⟩=some (.pointer (some ⟨T.g,0,none⟩))/\W.cell? ⟨T.g,0,none⟩=some (.pointer (some ⟨T.arb,0,none⟩))/\W.cell? ⟨T.g,6,none⟩=some (.int .i64 D.rounds)) w3 from ⟨(k00 I3.out.say.node 0).trans rfl,(k00 I3.out.node.blk 0).trans rfl,(k00 I3.out.node.blk 6).trans rfl⟩);refine WpL.region (fun (W:World)=>W.cell? ⟨w.heap.size,0,none⟩=some (.pointer (some ⟨T.g,0,none⟩))/\W.cell? ⟨T.g,0,none⟩=some (.pointer (some ⟨T.arb,0,none⟩))/\W.cell? ⟨T.g,6,none⟩=some (.int .i64 D.rounds)) 99 zz3 ?_;refine WpL.E 0 HS.out ?_;refine WpL.E 1 HS.out ?_;refine WpL.E 2 HS.out ?_;refine WpL.E 3 HS.out ?_;refine WpL.E 4 HS.out ?_;refine WpL.E 6 HS.out ?_;refine WpL.E 7 HS.out ?_;refine WpL.E 8 HS.out ?_;refine WpL.E 9 HS.out ?_;refine WpL.E 10 HS.out ?_;refine WpL.E 13 HS.out ?_;refine WpL.one (i:=5) zz3 rfl (fun K hK=>?_);go_simp;refine (k7J (I3.out.blw ((Below.refl _ w3).drew)).node H0.out.2.1 hv (I3.out.blw ((Below.refl _ w3).drew)).fresh K3.out.num).mono ?_;rintro e w4 ⟨rfl,hr,hb⟩;have B4:=Ab (undrew hb);have I4:=Ab (I3.out.blw B4.out);have HR:=Ab hr;have HS4:=Ab (show (fun (W:World)=>W.cell? ⟨w.heap.size,0,none⟩=some (.pointer (some ⟨T.g,0,none⟩))/\W.cell? ⟨T.g,0,none⟩=some (.pointer (some ⟨T.arb,0,none⟩))/\W.cell? ⟨T.g,6,none⟩=some (.int .i64 D.rounds)) w4 from ⟨(k00 I4.out.say.node 0).trans rfl,(k00 I4.out.node.blk 0).trans rfl,(k00 I4.out.node.blk 6).trans rfl⟩);clear hb hr;simp only [];refine hK.out _ _ (fun _=>HS4.out) ?_;clear hK K
 try refine Sm ?_
 refine WpL.one (i:=11) zz3 rfl (fun K hK=>?_);go_simp;refine (k8D T.arb (np D v) D.rounds _ (k3P D v s3) _ o3 (.arb v) w4 zz1 zz1 (by have:=H0.out.2.1.i0;have:=H0.out.2.1.i1;omega) zz17 I4.out.fresh I4.out.node.arb HR.out (kaL D v s3 hnp) I4.out.tab (by rw [I4.out.t0];simp)).mono ?_;rintro e w5 ⟨A,ms,rfl,hA,hO,hab,⟨cur,hcur,hsz,hms⟩,hok,hsing⟩;have I5:=Ab (I4.out.to (Tr.same (S:=fun c=>c = .arb v) I4.out.fresh hO) (fun c e=>by rw [e];rfl) (I4.out.node.arbTo I4.out.fresh hO hab));have T5:=Ab ((T3.out.trans (TrN.blw I3.out.fresh B4.out)).trans ((Tr.same (S:=fun c=>c = .arb v) I4.out.fresh hO).toN (fun c e=>by rw [e];rfl)));have HA:=Ab (show _/\_/\_/\_/\_/\_ from ⟨hA,hcur,hsz,hms,hok,hsing⟩);have HS5:=Ab (show (fun (W:World)=>W.cell? ⟨w.heap.size,0,none⟩=some (.pointer (some ⟨T.g,0,none⟩))/\W.cell? ⟨T.g,0,none⟩=some (.pointer (some ⟨T.arb,0,none⟩))/\W.cell? ⟨T.g,6,none⟩=some (.int .i64 D.rounds)) w5 from ⟨(k00 I5.out.say.node 0).trans rfl,(k00 I5.out.node.blk 0).trans rfl,(k00 I5.out.node.blk 6).trans rfl⟩);clear hA hO hab hcur hsz hms hok hsing;simp only [];refine hK.out _ _ (fun _=>HS5.out) ?_;clear hK K
 try refine Sm ?_
 refine WpL.E 12 HS5.out ?_;refine WpL.done zz3 ?_ _;go_wp2;have JA:=Ab (I4.out.fresh A HA.out.1)
 go_loopw [23] (fun s23 W=>∃ (i:Nat) (o6:Nat->Col) (s6:NSt) (os:List OutP),i<=np D v/\s23 = .int .i64 i/\k08 (MovesTo D v ms i s3 s6 os/\InTick D v w.heap.size (w.heap.size+1) w.heap.size T W o6 s6 os/\TrN v w.heap.size o w o6 W/\W.heap[A]? = some (Obj.cells cur 3 (0,0))/\o6 A = .junk)) (fun s23 _=>np D v-ixOf s23)
 case atStart=>exact ⟨0,o3,s3,[],zz1,rfl,⟨⟨rfl,rfl⟩,I5.out,T5.out,HA.out.2.1,JA.out⟩⟩
 case round=>
  obtain ⟨i,o6,s6,os,hi,rfl,R⟩:=hrel;by_cases hlt:i<np D v
  · have e1:(i:Int)<(np D v:Nat):=by omega
    have hok:=MovesTo.ok H0.out.2.1 HA.out.2.2.2.2.1 K3.out zz1 (by have:=H0.out.2.2.1;omega) R.out.1;have OK:=Ab hok;have hmi:=HA.out.2.2.2.2.1 i hlt;have ca:wr.cell? ⟨A,i,none⟩=some (.int .i64 (ms i)):=(k00 R.out.2.2.2.1 i).trans (HA.out.2.2.2.1 i hlt);have cn:wr.cell? ⟨w.heap.size,0,none⟩=some (.pointer (some ⟨T.g,0,none⟩)):=(k00 R.out.2.1.say.node 0).trans rfl;clear hok;rcases hmi with hm | ⟨k,hk,hm,_⟩
    · rw [hm] at ca
      have HM:=Ab hm;clear hm;go_wp2;refine ⟨⟨i+1,o6,s6,os,zz1,rfl,⟨⟨s6,os,[],R.out.1,.inr ⟨by rw [HM.out];omega,rfl,rfl⟩,zz17⟩,R.out.2⟩⟩,?_⟩;exact zz74
    · rw [hm] at ca
      have HM:=Ab hm;have e2:(0:Int)<=(k:Int):=by omega
      clear hm
      go_wp2_with (go_at_call 92;refine (k8k i k R.out.2.1 H0.out.2.1 hv OK.out.1.num OK.out.1.q hlt hk (by have:=OK.out.2.1;omega) (by have:=OK.out.1.came;have:=H0.out.2.2.2;omega)).mono ?_;rintro e w7 ⟨rfl,o7,s7,os7,hmv,hi7,ht7⟩;have K7:=Ab (show _/\_/\_ from ⟨hmv,hi7,ht7⟩);clear hmv hi7 ht7)
      have hlA:=k03 R.out.2.2.2.1;refine ⟨⟨i+1,o7,s7,os++os7,zz1,rfl,⟨⟨s6,os,os7,R.out.1,.inl ⟨by rw [HM.out];omega,by rw [HM.out];exact K7.out.1⟩,rfl⟩,K7.out.2.1,R.out.2.2.1.trans K7.out.2.2,K7.out.2.2.stay R.out.2.2.2.1 R.out.2.2.2.2 zz8 zz8,(K7.out.2.2.own A hlA).trans R.out.2.2.2.2⟩⟩,?_⟩;exact zz74
  · have e1:¬ (i:Int)<(np D v:Nat):=by omega
    obtain rfl:i=np D v:=by omega
    have OK:=Ab (MovesTo.ok H0.out.2.1 HA.out.2.2.2.2.1 K3.out (Nat.le_refl _) (by have:=H0.out.2.2.1;omega) R.out.1);have htk:s6.ticks=st.ticks:=by rw [OK.out.2.2];exact F3.out.1.same.2.2
    obtain ⟨t,htt⟩:∃ t,t=s6.ticks:=⟨_,rfl⟩;have ht1:t<=1000000:=by rw [htt,htk];exact HT.out
    have cn:wr.cell? ⟨w.heap.size,0,none⟩=some (.pointer (some ⟨T.g,0,none⟩)):=(k00 R.out.2.1.say.node 0).trans rfl;have hblk:=R.out.2.1.node.blk;rw [<- htt] at hblk;have c16:wr.cell? ⟨T.g,16,none⟩=some (.int .i64 (t:Int)):=(k00 hblk 16).trans rfl;have f16:=k02 hblk 16;have HTT:=Ab htt;have hev0:(1:Int)<=(D.every:Nat):=by have:=H0.out.2.1.e0;omega
    have hev1:((D.every:Nat):Int)<=8:=by have:=H0.out.2.1.e1;omega
    have HBL:=Ab hblk;have hgw:T.g≠w.heap.size:=fun e=>by
     exact k0v HBL.out R.out.2.1.say.node zz8 e
    obtain ⟨n8,t8⟩:=R.out.2.1.node.tickTo R.out.2.1.fresh;have I8:=Ab (R.out.2.1.to t8 (fun c e=>by rw [e];rfl) n8);have T8:=Ab (R.out.2.2.1.trans (t8.toN (fun c e=>by rw [e];rfl)));have tk:{ s6 with ticks:=s6.ticks+1 } = ({ s6 with ticks:=t+1 }:NSt):=by rw [htt]
    rw [tk,<- htt] at I8;rw [<- htt] at T8;obtain ⟨W8,hW8⟩:∃ W8,W8=wr.setCell ⟨T.g,16,none⟩ (.int .i64 ((t:Int)+1)):=⟨_,rfl⟩;rw [<- hW8] at I8 T8;have HW8:=Ab hW8;have cn8:W8.cell? ⟨w.heap.size,0,none⟩=some (.pointer (some ⟨T.g,0,none⟩)):=(k00 I8.out.say.node 0).trans rfl;have c168:W8.cell? ⟨T.g,16,none⟩=some (.int .i64 ((t:Int)+1)):=(k00 I8.out.node.blk 16).trans rfl;have c78:W8.cell? ⟨T.g,7,none⟩=some (.int .i64 D.every):=(k00 I8.out.node.blk 7).trans rfl;have KF:=Ab ((OK.out.1.mono (show M+(np D v:Nat)<=M+6 by omega) (show C+np D v<=C+6 by omega)).tick (t+1));have TK:=Ab (fun os' (h:os'=os++(if (s6.ticks+1) % D.every=0 then k19 D v s6 (np D v) else []))=>(show TickRel D v st { s6 with ticks:=t+1 } os' from ⟨s3,ms,s6,os,F3.out.1,HA.out.2.2.2.2.1,HA.out.2.2.2.2.2,R.out.1,by rw [<- htt],h⟩));clear htt htk hblk n8 t8 tk hW8;go_wp2;rw [<- HW8.out];by_cases hz:(t+1) % D.every=0
    · have e2:((((t:Int)+1)).tmod (D.every:Int) == 0)=true:=by
       rw [Int.tmod_eq_emod_of_nonneg zz1];have:((t:Int)+1) % (D.every:Int)=(((t+1) % D.every:Nat):Int):=by simp
       rw [this,hz];rfl
      have e3:((((t:Int)+1)) % (D.every:Int) == 0)=true:=by
       have:((t:Int)+1) % (D.every:Int)=(((t+1) % D.every:Nat):Int):=by simp
       rw [this,hz];rfl
      have HZ:=Ab hz;clear hz;have J8:=Ab (fun n=>I8.out.blw (k0e (Below.refl _ W8) n))
      go_quiet (fail)
      go_wp2_with (go_at_call 93;refine (k4I (J8.out _) H0.out.2.1 hv KF.out.num (by have:=OK.out.2.1;omega)).mono ?_;rintro e w9 ⟨rfl,hi9,ht9⟩;have I9:=Ab hi9;have T9:=Ab ((T8.out.trans (TrN.blw I8.out.fresh (k0e (Below.refl _ W8) _))).trans ht9);obtain ⟨AV,nV,cV,y1,y2⟩:=I9.out.say.shape;have cV0:w9.cell? ⟨w.heap.size+1,0,none⟩=some (.slice AV nV cV):=(k00 y1 0).trans rfl;have HV:=Ab (show _/\_ from ⟨y1,y2⟩);clear hi9 ht9 y1 y2)
      go_ret;refine ⟨.slice AV nV cV,o6,_,_,eset _ _ rfl,TK.out _ rfl,?_,KF.out,T9.out.toTr (Nat.le_refl _),?_,?_⟩
      · exact I9.out.node
      · rw [if_pos zz76];exact HV.out.2
      · rw [if_pos zz76]
        have h1:=OK.out.2.1;have h2:=k2v D v s6 (np D v);have h3:np D v*(D.lanes*2)<=6*(3*2):=Nat.mul_le_mul hnp (by have:=H0.out.2.1.l1;omega);simp only [List.length_append];exact zz1
    · have e2:((((t:Int)+1)).tmod (D.every:Int) == 0)=false:=by
       rw [Int.tmod_eq_emod_of_nonneg zz1];have:((t:Int)+1) % (D.every:Int)=(((t+1) % D.every:Nat):Int):=by simp
       rw [this];simp;exact zz1
      have e3:((((t:Int)+1)) % (D.every:Int) == 0)=false:=by
       have:((t:Int)+1) % (D.every:Int)=(((t+1) % D.every:Nat):Int):=by simp
       rw [this];simp;exact zz1
      have HZ:=Ab hz;obtain ⟨AV,nV,cV,y1,y2⟩:=I8.out.say.shape;have cV0:W8.cell? ⟨w.heap.size+1,0,none⟩=some (.slice AV nV cV):=(k00 y1 0).trans rfl;have HV:=Ab (show _/\_ from ⟨y1,y2⟩);have J8:=Ab (fun n=>I8.out.blw (k0e (Below.refl _ W8) n));clear hz y1 y2
      go_quiet (fail)
      go_wp2;go_ret;refine ⟨.slice AV nV cV,o6,_,_,eset _ _ rfl,TK.out _ rfl,(J8.out _).node,KF.out,(T8.out.trans (TrN.blw I8.out.fresh (k0e (Below.refl _ W8) _))).toTr (Nat.le_refl _),?_,?_⟩
      · rw [if_neg zz76,List.append_nil]
        exact HV.out.2.blw I8.out.fresh (k0e (Below.refl _ W8) _)
      · rw [if_neg zz76,List.append_nil]
        have h1:=OK.out.2.1;exact zz1
end
end Go.Proofs.YtdopmlopafgonaaGreatDoor.Own
