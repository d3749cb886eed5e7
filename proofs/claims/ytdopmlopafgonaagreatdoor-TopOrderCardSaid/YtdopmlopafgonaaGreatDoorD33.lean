/- TopOrder: of each flow what came is some of what was injected, in its order (a part of the walks and of the plain laws). -/
import Derived.Test.YtdopmlopafgonaaGreatDoorD0
import Derived.Test.YtdopmlopafgonaaGreatDoorD32
set_option linter.unusedVariables false
set_option linter.unusedSimpArgs false
set_option maxHeartbeats 4000000
set_option maxRecDepth 100000
namespace Go.Proofs.YtdopmlopafgonaaGreatDoor.Own
open Go.RowKit Go.Proofs.YtdopmlopafgonaaGreatDoorW.PrintWords Go.Proofs.YtdopmlopafgonaaGreatDoorW.PrintLast Go.Proofs.YtdopmlopafgonaaGreatDoorW.PrintMore
section
variable{w:World}{o:Nat->Col}{v:Nat}{D:PlanD}{T:NTab}{st:NSt}
def kdb(w:World)(o:Nat->Col)(v:Nat)(D:PlanD)(T:NTab)(st:NSt)(M:Int)(C:Nat)(e:Ending)(w':World):Prop:=
 ∃V o' st' os,e=.returned V/\TickRel D v st st' os/\NodeAt w' o' v D T st'/\NodeOk D v (M+6) (C+6) st'/\Tr (k0q v) o w o' w'/\OutsAt w' o' w.heap.size V os/\os.length<=50
theorem NodeAt.tickTo(h:NodeAt w o v D T st)(hf:Fresh o w):NodeAt (w.setCell ⟨T.g,16,none⟩ (.int .i64 ((st.ticks:Int)+1))) o v D T { st with ticks:=st.ticks+1 }/\Tr (fun c=>c=.node v) o w o (w.setCell ⟨T.g,16,none⟩ (.int .i64 ((st.ticks:Int)+1))):=by
 have t:Tr (fun c=>c=.node v) o w o (w.setCell ⟨T.g,16,none⟩ (.int .i64 ((st.ticks:Int)+1))):=Tr.same hf ((k0j _ _ _ _).mono (fun b _ e=>by rw[e];exact h.og));exact⟨h.upd t zz6 (.inr (k05 h.blk 16 (.int .i64 ((st.ticks:Int)+1)))) (.inl zz6) (.inl ⟨zz6,rfl⟩) (.inl ⟨⟨zz6,zz6⟩,rfl⟩) (fun i _=>.inl zz6) (fun i k _ _ _=>.inl ⟨zz6,rfl⟩) (fun i k _ _ _=>.inl ⟨zz6,rfl⟩),t⟩
theorem NodeOk.tick{M:Int}{C:Nat}(h:NodeOk D v M C st)(t:Nat):NodeOk D v M C { st with ticks:=t }:=⟨⟨h.num.s0,h.num.s1,h.num.s2,h.num.s3,h.num.r0,h.num.r1,h.num.r2,h.num.r3⟩,h.lt,h.q,h.w,h.came,h.wl⟩
theorem NodeOk.mono{M M':Int}{C C':Nat}(h:NodeOk D v M C st)(h1:M<=M')(h2:C<=C'):NodeOk D v M' C' st:=⟨h.num,fun i k a b c=>⟨Int.le_trans (h.lt i k a b c).1 h1,Int.le_trans (h.lt i k a b c).2 h1⟩,h.q,h.w,Nat.le_trans h.came h2,h.wl⟩
theorem SayAt.shape{lo ob nb g:Nat}{outs:List OutP}(h:SayAt w o lo ob nb g outs):∃A n c,w.heap[ob]? = some (Obj.cells #[.slice A n c] 113 (0,0))/\OutsAt w o lo (.slice A n c) outs:=by
 obtain⟨V,y1,y2⟩:=h.1;obtain⟨_,_,_,yr,_⟩:=id y2;obtain⟨A,c,rfl,_⟩:=yr.size;exact⟨A,_,c,y1,y2⟩
theorem kaI(D:PlanD)(v:Nat)(st:NSt)(h:np D v<=6):∀x∈k42 D v st,x<64:=fun x hx=>by
 obtain⟨i,_,rfl⟩:=List.mem_map.1 hx;exact k3f _ _ h
theorem k8P(M:Int)(C:Nat)(H:NodeAt w o v D T st)(G:Good D)(hv:v<D.nodes)(hf:Fresh o w)(K:NodeOk D v M C st)(hT:Tab w)(h0:o 0=.fix)(hM:M+6<=1000000)(hC:C+6<=9000)(ht:st.ticks<=1000000) :
 Calls Tryz.prog 49 #[.pointer (some ⟨T.g,0,none⟩)] w (kdb w o v D T st M C):=by
 have hnp:=k2t G hv;have hnp2:=k6A G hv;have B2:Below w.heap.size w ((w.alloc (.cells #[.pointer (some ⟨T.g,0,none⟩)] 58)).alloc (.cells #[.slice none 0 0] 113)):=((Below.refl _ w).alloc (Nat.le_refl _) _).alloc zz6 _;have Z1:((w.alloc (.cells #[.pointer (some ⟨T.g,0,none⟩)] 58)).alloc (.cells #[.slice none 0 0] 113)).heap[w.heap.size]? = some (.cells #[.pointer (some ⟨T.g,0,none⟩)] 58):=(Below.heap_alloc _ _ _ zz6).trans (heap_alloc_new w _);have Z2:((w.alloc (.cells #[.pointer (some ⟨T.g,0,none⟩)] 58)).alloc (.cells #[.slice none 0 0] 113)).heap[w.heap.size+1]? = some (.cells #[.slice none 0 0] 113):=by
  have h:=heap_alloc_new (w.alloc (.cells #[.pointer (some ⟨T.g,0,none⟩)] 58)) (.cells #[.slice none 0 0] 113);rw[World.size_alloc]at h;exact h
 have I2:=Ab (show InTick D v w.heap.size (w.heap.size+1) w.heap.size T ((w.alloc (.cells #[.pointer (some ⟨T.g,0,none⟩)] 58)).alloc (.cells #[.slice none 0 0] 113)) o st [] from
  ⟨H.blw hf B2,hf.blw B2,⟨⟨_,Z2,OutsAt.nil _ _ _⟩,Z1,zz1,Nat.le_refl _,hf _ zz1,hf _ (Nat.le_refl _)⟩,B2.size,hT.below B2,h0⟩)
 have T2:=Ac (TrN v w.heap.size o w o ((w.alloc (.cells #[.pointer (some ⟨T.g,0,none⟩)] 58)).alloc (.cells #[.slice none 0 0] 113))) (TrN.blw hf B2);have H0:=Ac (_/\_/\_/\_) (⟨K,G,hM,hC⟩);have HT:=Ab ht;clear H G hf K hT h0 B2 Z1 Z2 hM hC ht;go_enter Tryz.func49,Tryz.ntmps49
 go_wp2_with(go_at_call 89;refine(k8l I2.1.node H0.1.2.1 hv I2.1.fresh H0.1.1.w).mono ?_;rintro e w3 ⟨rfl,o3,s3,hfed⟩;have F3:=Ab hfed;have I3:=Ab (I2.1.to hfed.2.2.2.1 (fun c x=>x) hfed.2.1);have T3:=Ab (T2.1.trans (hfed.2.2.2.1.toN (fun c x=>x)));have K3:=Ab (FedTo.ok H0.1.2.1 H0.1.1 hfed.1);clear hfed)
 have HS:=Sat.mk (S:=fun(W:World)=>W.cell? ⟨w.heap.size,0,none⟩=some (.pointer (some ⟨T.g,0,none⟩))/\W.cell? ⟨T.g,0,none⟩=some (.pointer (some ⟨T.arb,0,none⟩))/\W.cell? ⟨T.g,6,none⟩=some (.int .i64 D.rounds)) (w:=w3) (⟨(k00 I3.1.say.node 0).trans rfl,(k00 I3.1.node.blk 0).trans rfl,(k00 I3.1.node.blk 6).trans rfl⟩);refine WpL.rg HS 99 zz2 ?_;refine WpL.E 0 HS.1 ?_;refine WpL.E 1 HS.1 ?_;refine WpL.E 2 HS.1 ?_;refine WpL.E 3 HS.1 ?_;refine WpL.E 4 HS.1 ?_;refine WpL.E 6 HS.1 ?_;refine WpL.E 7 HS.1 ?_;refine WpL.E 8 HS.1 ?_;refine WpL.E 9 HS.1 ?_;refine WpL.E 10 HS.1 ?_;refine WpL.E 13 HS.1 ?_;refine WpL.one (i:=5) zz2 rfl (fun K hK=>?_);go_simp;refine(k8W (I3.1.blw ((Below.refl _ w3).drew)).node H0.1.2.1 hv (I3.1.blw ((Below.refl _ w3).drew)).fresh K3.1.num).mono ?_;rintro e w4 ⟨rfl,hr,hb⟩;have B4:=Ab (undrew hb);have I4:=Ab (I3.1.blw B4.1);have HR:=Ab hr;have HS4:=HS.to w4 (⟨(k00 I4.1.say.node 0).trans rfl,(k00 I4.1.node.blk 0).trans rfl,(k00 I4.1.node.blk 6).trans rfl⟩);clear hb hr;simp only[];refine hK.out _ _ (fun _=>HS4.1) ?_;clear hK K
 try refine Sm ?_
 refine WpL.one (i:=11) zz2 rfl (fun K hK=>?_);go_simp;refine(ka0 T.arb (np D v) D.rounds _ (k42 D v s3) _ o3 (.arb v) w4 zz1 zz1 (by have:=H0.1.2.1.i0;have:=H0.1.2.1.i1;omega) zz6 I4.1.fresh I4.1.node.arb HR.1 (kaI D v s3 hnp) I4.1.tab (by rw[I4.1.t0];simp)).mono ?_;rintro e w5 ⟨A,ms,rfl,hA,hO,hab,⟨cur,hcur,hsz,hms⟩,hok,hsing⟩;have I5:=Ab (I4.1.to (Tr.same (S:=fun c=>c=.arb v) I4.1.fresh hO) (fun c e=>by rw[e];rfl) (I4.1.node.arbTo I4.1.fresh hO hab));have T5:=Ab ((T3.1.trans (TrN.blw I3.1.fresh B4.1)).trans ((Tr.same (S:=fun c=>c=.arb v) I4.1.fresh hO).toN (fun c e=>by rw[e];rfl)));have HA:=Ac (_/\_/\_/\_/\_/\_) (⟨hA,hcur,hsz,hms,hok,hsing⟩);have HS5:=HS.to w5 (⟨(k00 I5.1.say.node 0).trans rfl,(k00 I5.1.node.blk 0).trans rfl,(k00 I5.1.node.blk 6).trans rfl⟩);clear hA hO hab hcur hsz hms hok hsing;simp only[];refine hK.out _ _ (fun _=>HS5.1) ?_;clear hK K
 try refine Sm ?_
 refine WpL.E 12 HS5.1 ?_;refine WpL.done zz2 ?_ _;go_wp2;have JA:=Ab (I4.1.fresh A HA.1.1)
 go_loopw [23] (fun s23 W=>∃(i:Nat)(o6:Nat->Col)(s6:NSt)(os:List OutP),i<=np D v/\s23=.int .i64 i/\k07 (MovesTo D v ms i s3 s6 os/\InTick D v w.heap.size (w.heap.size+1) w.heap.size T W o6 s6 os/\TrN v w.heap.size o w o6 W/\W.heap[A]? = some (Obj.cells cur 3 (0,0))/\o6 A=.junk)) (fun s23 _=>np D v-ixOf s23)
 case atStart=>exact⟨0,o3,s3,[],zz1,rfl,⟨⟨rfl,rfl⟩,I5.1,T5.1,HA.1.2.1,JA.1⟩⟩
 case round=>
  obtain⟨i,o6,s6,os,hi,rfl,R⟩:=hrel;by_cases hlt:i<np D v
  ·have e1:(i:Int)<(np D v:Nat):=by omega
   have hok:=MovesTo.ok H0.1.2.1 HA.1.2.2.2.2.1 K3.1 zz1 (by have:=H0.1.2.2.1;omega) R.1.1;have OK:=Ab hok;have hmi:=HA.1.2.2.2.2.1 i hlt;have ca:wr.cell? ⟨A,i,none⟩=some (.int .i64 (ms i)):=(k00 R.1.2.2.2.1 i).trans (HA.1.2.2.2.1 i hlt);have cn:wr.cell? ⟨w.heap.size,0,none⟩=some (.pointer (some ⟨T.g,0,none⟩)):=(k00 R.1.2.1.say.node 0).trans rfl;clear hok;rcases hmi with hm|⟨k,hk,hm,_⟩
   ·rw[hm]at ca
    have HM:=Ab hm;clear hm;go_wp2;refine⟨⟨i+1,o6,s6,os,zz1,rfl,⟨⟨s6,os,[],R.1.1,.inr ⟨by rw[HM.1];omega,rfl,rfl⟩,zz6⟩,R.1.2⟩⟩,?_⟩;exact zz98
   ·rw[hm]at ca
    have HM:=Ab hm;have e2:(0:Int)<=(k:Int):=zz1
    clear hm
    go_wp2_with(go_at_call 92;refine(k8O i k R.1.2.1 H0.1.2.1 hv OK.1.1.num OK.1.1.q hlt hk (by have:=OK.1.2.1;omega) (by have:=OK.1.1.came;have:=H0.1.2.2.2;omega)).mono ?_;rintro e w7 ⟨rfl,o7,s7,os7,hmv,hi7,ht7⟩;have K7:=Ac (_/\_/\_) (⟨hmv,hi7,ht7⟩);clear hmv hi7 ht7)
    have hlA:=k03 R.1.2.2.2.1;refine⟨⟨i+1,o7,s7,os++os7,zz1,rfl,⟨⟨s6,os,os7,R.1.1,.inl ⟨by rw[HM.1];omega,by rw[HM.1];exact K7.1.1⟩,rfl⟩,K7.1.2.1,R.1.2.2.1.trans K7.1.2.2,K7.1.2.2.stay R.1.2.2.2.1 R.1.2.2.2.2 zz7 zz7,(K7.1.2.2.own A hlA).trans R.1.2.2.2.2⟩⟩,?_⟩;exact zz98
  ·have e1:¬(i:Int)<(np D v:Nat):=by omega
   obtain rfl:i=np D v:=by omega
   have OK:=Ab (MovesTo.ok H0.1.2.1 HA.1.2.2.2.2.1 K3.1 (Nat.le_refl _) (by have:=H0.1.2.2.1;omega) R.1.1);have htk:s6.ticks=st.ticks:=by rw[OK.1.2.2];exact F3.1.1.same.2.2
   obtain⟨t,htt⟩:∃t,t=s6.ticks:=⟨_,rfl⟩;have ht1:t<=1000000:=by rw[htt,htk];exact HT.1
   have cn:wr.cell? ⟨w.heap.size,0,none⟩=some (.pointer (some ⟨T.g,0,none⟩)):=(k00 R.1.2.1.say.node 0).trans rfl;have hblk:=R.1.2.1.node.blk;rw[<- htt]at hblk;have c16:wr.cell? ⟨T.g,16,none⟩=some (.int .i64 (t:Int)):=(k00 hblk 16).trans rfl;have f16:=k02 hblk 16;have HTT:=Ab htt;have hev0:(1:Int)<=(D.every:Nat):=by have:=H0.1.2.1.e0;omega
   have hev1:((D.every:Nat):Int)<=8:=by have:=H0.1.2.1.e1;omega
   have HBL:=Ab hblk;have hgw:T.g≠w.heap.size:=fun e=>by
    exact k0u HBL.1 R.1.2.1.say.node zz7 e
   obtain⟨n8,t8⟩:=R.1.2.1.node.tickTo R.1.2.1.fresh;have I8:=Ab (R.1.2.1.to t8 (fun c e=>by rw[e];rfl) n8);have T8:=Ab (R.1.2.2.1.trans (t8.toN (fun c e=>by rw[e];rfl)));have tk:{ s6 with ticks:=s6.ticks+1 }=({ s6 with ticks:=t+1 }:NSt):=by rw[htt]
   rw[tk,<- htt]at I8;rw[<- htt]at T8;obtain⟨W8,hW8⟩:∃W8,W8=wr.setCell ⟨T.g,16,none⟩ (.int .i64 ((t:Int)+1)):=⟨_,rfl⟩;rw[<- hW8]at I8 T8;have HW8:=Ab hW8;have cn8:W8.cell? ⟨w.heap.size,0,none⟩=some (.pointer (some ⟨T.g,0,none⟩)):=(k00 I8.1.say.node 0).trans rfl;have c168:W8.cell? ⟨T.g,16,none⟩=some (.int .i64 ((t:Int)+1)):=(k00 I8.1.node.blk 16).trans rfl;have c78:W8.cell? ⟨T.g,7,none⟩=some (.int .i64 D.every):=(k00 I8.1.node.blk 7).trans rfl;have KF:=Ab ((OK.1.1.mono (show M+(np D v:Nat)<=M+6 by omega) (show C+np D v<=C+6 by omega)).tick (t+1));have TK:=Ab (fun os' (h:os'=os++(if(s6.ticks+1) % D.every=0 then k1f D v s6 (np D v) else[]))=>(show TickRel D v st { s6 with ticks:=t+1 } os' from⟨s3,ms,s6,os,F3.1.1,HA.1.2.2.2.2.1,HA.1.2.2.2.2.2,R.1.1,by rw[<- htt],h⟩));clear htt htk hblk n8 t8 tk hW8;go_wp2;rw[<- HW8.1];by_cases hz:(t+1) % D.every=0
   ·have e2:((((t:Int)+1)).tmod (D.every:Int) == 0)=true:=by
     rw[Int.tmod_eq_emod_of_nonneg zz1];have:((t:Int)+1) % (D.every:Int)=(((t+1) % D.every:Nat):Int):=by simp
     rw[this,hz];rfl
    have e3:((((t:Int)+1)) % (D.every:Int) == 0)=true:=by
     have:((t:Int)+1) % (D.every:Int)=(((t+1) % D.every:Nat):Int):=by simp
     rw[this,hz];rfl
    have HZ:=Ab hz;clear hz;have J8:=Ab (fun n=>I8.1.blw (k0e (Below.refl _ W8) n))
    go_quiet (fail)
    go_wp2_with(go_at_call 93;refine(k4O (J8.1 _) H0.1.2.1 hv KF.1.num (by have:=OK.1.2.1;omega)).mono ?_;rintro e w9 ⟨rfl,hi9,ht9⟩;have I9:=Ab hi9;have T9:=Ab ((T8.1.trans (TrN.blw I8.1.fresh (k0e (Below.refl _ W8) _))).trans ht9);obtain⟨AV,nV,cV,y1,y2⟩:=I9.1.say.shape;have cV0:w9.cell? ⟨w.heap.size+1,0,none⟩=some (.slice AV nV cV):=(k00 y1 0).trans rfl;have HV:=Ac (_/\_) (⟨y1,y2⟩);clear hi9 ht9 y1 y2)
    go_ret;refine⟨.slice AV nV cV,o6,_,_,eset _ _ rfl,TK.1 _ rfl,?_,KF.1,T9.1.toTr (Nat.le_refl _),?_,?_⟩
    ·exact I9.1.node
    ·rw[if_pos (by rw[<- HTT.1];exact HZ.1)];exact HV.1.2
    ·rw[if_pos (by rw[<- HTT.1];exact HZ.1)]
     have h1:=OK.1.2.1;have h2:=k2B D v s6 (np D v);have h3:np D v*(D.lanes*2)<=6*(3*2):=Nat.mul_le_mul hnp (by have:=H0.1.2.1.l1;omega);simp only[List.length_append];exact zz1
   ·have e2:((((t:Int)+1)).tmod (D.every:Int) == 0)=false:=by
     rw[Int.tmod_eq_emod_of_nonneg zz1];have:((t:Int)+1) % (D.every:Int)=(((t+1) % D.every:Nat):Int):=by simp
     rw[this];exact zz84
    have e3:((((t:Int)+1)) % (D.every:Int) == 0)=false:=by
     have:((t:Int)+1) % (D.every:Int)=(((t+1) % D.every:Nat):Int):=by simp
     rw[this];exact zz84
    have HZ:=Ab hz;obtain⟨AV,nV,cV,y1,y2⟩:=I8.1.say.shape;have cV0:W8.cell? ⟨w.heap.size+1,0,none⟩=some (.slice AV nV cV):=(k00 y1 0).trans rfl;have HV:=Ac (_/\_) (⟨y1,y2⟩);have J8:=Ab (fun n=>I8.1.blw (k0e (Below.refl _ W8) n));clear hz y1 y2
    go_quiet (fail)
    go_wp2;go_ret;refine⟨.slice AV nV cV,o6,_,_,eset _ _ rfl,TK.1 _ rfl,(J8.1 _).node,KF.1,(T8.1.trans (TrN.blw I8.1.fresh (k0e (Below.refl _ W8) _))).toTr (Nat.le_refl _),?_,?_⟩
    ·rw[if_neg (by rw[<- HTT.1];exact HZ.1),List.append_nil]
     exact HV.1.2.blw I8.1.fresh (k0e (Below.refl _ W8) _)
    ·rw[if_neg (by rw[<- HTT.1];exact HZ.1),List.append_nil]
     have h1:=OK.1.2.1;exact zz1
end
def pkOf(F:Wire.Fr):Pk:=⟨F.a,F.b,F.l,F.y⟩
def DataRel(D:PlanD)(v i:Nat)(st:NSt)(F:Wire.Fr)(st':NSt):Prop:=
 ((D.nodes:Int)<=F.a\/(D.nodes:Int)<=F.b)/\st'=st \/
 (F.a<D.nodes/\F.b<D.nodes) /\
   ((k0p (st.rcv i F.l.toNat).1 F.s<(st.rcv i F.l.toNat).1\/(st.rcv i F.l.toNat).1+(D.room-(st.rcv i F.l.toNat).2)<=k0p (st.rcv i F.l.toNat).1 F.s)/\st'=st \/
    ((st.rcv i F.l.toNat).1<=k0p (st.rcv i F.l.toNat).1 F.s/\k0p (st.rcv i F.l.toNat).1 F.s<(st.rcv i F.l.toNat).1+(D.room-(st.rcv i F.l.toNat).2)) /\
     ∃q',st' = { st with rcv:=upd2 st.rcv i F.l.toNat (k0p (st.rcv i F.l.toNat).1 F.s+1,(st.rcv i F.l.toNat).2+1),q:=q' } /\
      (q'=updw st.q (i,tw D v F.b.toNat,F.l.toNat) (st.q (i,tw D v F.b.toNat,F.l.toNat)++[pkOf F])\/(q'=st.q/\∃a,st.q a≠[])))
section
variable{w:World}{o:Nat->Col}{v:Nat}{D:PlanD}{T:NTab}{st:NSt}
def kdz(R:NSt->Prop)(w:World)(o:Nat->Col)(v:Nat)(D:PlanD)(T:NTab)(e:Ending)(w':World):Prop:=∃(c:Int)(o':Nat->Col)(st':NSt),e=.returned (.int .u16 c)/\R st'/\NodeAt w' o' v D T st'/\Tr (k0q v) o w o' w'
theorem k8n(i:Nat)(F:Wire.Fr)(M:Int)(C:Nat)(H:NodeAt w o v D T st)(G:Good D)(hv:v<D.nodes)(hf:Fresh o w)(K:NodeOk D v M C st)(hi1:1<=i)(hi:i<np D v)(hw:F.wf)(hl:F.l<D.lanes) :
 Calls Tryz.prog 100 #[.pointer (some ⟨T.g,0,none⟩),.int .i64 i,.agg #[.pointer (some ⟨T.snd i F.l.toNat,0,none⟩),.pointer (some ⟨T.rcv i F.l.toNat,0,none⟩)],.agg #[.int .u8 F.k,.int .u8 F.l,.int .u16 F.s,.int .u8 F.a,.int .u8 F.b,.int .u32 F.y]] w (kdz (DataRel D v i st F) w o v D T):=by
 obtain⟨⟨hk0,hk1⟩,⟨hl0,hl1⟩,⟨hs0,hs1⟩,⟨ha0,ha1⟩,⟨hb0,hb1⟩,⟨hy0,hy1⟩⟩:=hw;have hln:F.l.toNat<D.lanes:=by omega
 have B2:Below w.heap.size w ((w.alloc (.cells #[.pointer (some ⟨T.snd i F.l.toNat,0,none⟩),.pointer (some ⟨T.rcv i F.l.toNat,0,none⟩)] 148)).alloc (.cells #[.int .u8 F.k,.int .u8 F.l,.int .u16 F.s,.int .u8 F.a,.int .u8 F.b,.int .u32 F.y] 163)):=((Below.refl _ w).alloc (Nat.le_refl _) _).alloc zz6 _;obtain⟨w2,hw2⟩:∃w2,w2=(w.alloc (.cells #[.pointer (some ⟨T.snd i F.l.toNat,0,none⟩),.pointer (some ⟨T.rcv i F.l.toNat,0,none⟩)] 148)).alloc (.cells #[.int .u8 F.k,.int .u8 F.l,.int .u16 F.s,.int .u8 F.a,.int .u8 F.b,.int .u32 F.y] 163):=⟨_,rfl⟩;have Z1:w2.heap[w.heap.size]? = some (.cells #[.pointer (some ⟨T.snd i F.l.toNat,0,none⟩),.pointer (some ⟨T.rcv i F.l.toNat,0,none⟩)] 148):=by rw[hw2];exact(Below.heap_alloc _ _ _ zz6).trans (heap_alloc_new w _)
 have Z2:w2.heap[w.heap.size+1]? = some (.cells #[.int .u8 F.k,.int .u8 F.l,.int .u16 F.s,.int .u8 F.a,.int .u8 F.b,.int .u32 F.y] 163):=by
  have h:=heap_alloc_new (w.alloc (.cells #[.pointer (some ⟨T.snd i F.l.toNat,0,none⟩),.pointer (some ⟨T.rcv i F.l.toNat,0,none⟩)] 148)) (.cells #[.int .u8 F.k,.int .u8 F.l,.int .u16 F.s,.int .u8 F.a,.int .u8 F.b,.int .u32 F.y] 163);rw[World.size_alloc]at h;rw[hw2];exact h
 rw[<- hw2]at B2;obtain⟨m,hm⟩:∃m,m=if F.a<F.b then F.b else F.a:=⟨_,rfl⟩
 have m1:∀W:World,(Builtin.max_ #[5,5] 5 #[.int .u8 F.a,.int .u8 F.b]).run Tryz.prog W=.ok (.int .u8 m) W:=fun W=>by
  simp only[k1u,k1c];rw[hm];simp[Sem.run_bind]
 have hm0:0<=m/\m<=255:=by rw[hm];split<;>omega
 have u1:IntKind.i64.wrap m=m:=IntWalk.i64_in _ zz1;have H2:=Ab (H.blw hf B2);have HS:=Sat.mk (S:=fun(W:World)=>W.cell? ⟨w.heap.size+1,3,none⟩=some (.int .u8 F.a)/\W.cell? ⟨w.heap.size+1,4,none⟩=some (.int .u8 F.b)/\W.cell? ⟨T.g,1,none⟩=some (.int .i64 D.nodes)) (w:=w2) (⟨(k00 Z2 3).trans rfl,(k00 Z2 4).trans rfl,(k00 H2.1.blk 1).trans rfl⟩);have ZZ:=Ab Z2;have b1:=fun j=>k00 Z1 j
 have b2:=fun j=>k00 Z2 j
 have H0:=Ac (_/\_/\_/\_/\_) (⟨H,G,hf,K,B2⟩);have HM:=Ab hm;have HW2:=Ab hw2;clear H G hf K B2 hm hw2;go_enter Tryz.func100,Tryz.ntmps100;go_wp2;rw[<- HW2.1];refine WpL.rg HS 99 zz2 ?_;refine WpL.E 0 HS.1 ?_;refine WpL.E 1 HS.1 ?_;refine WpL.E 2 HS.1 ?_;refine WpL.E 3 HS.1 ?_;refine WpL.E 4 HS.1 ?_;refine WpL.E 5 HS.1 ?_;refine WpL.E 6 HS.1 ?_;refine WpL.E 7 HS.1 ?_;refine WpL.E 8 HS.1 ?_;refine WpL.E 9 HS.1 ?_;refine WpL.E 10 HS.1 ?_;refine WpL.E 11 HS.1 ?_;refine WpL.done zz2 ?_ _;by_cases hbig:(D.nodes:Int)<=m
 ·have HB:=Ab hbig
  have e1:decide ((D.nodes:Int)<=m)=true:=decide_eq_true hbig;clear b1 b2 m1;go_wp2;go_ret;refine⟨_,o,st,rfl,.inl ⟨?_,rfl⟩,?_,?_⟩
  ·have:=HB.1;rw[HM.1]at this;split at this<;>omega
  ·exact H2.1.blw (H0.1.2.2.1.blw H0.1.2.2.2.2) ((Below.refl _ _).drew)
  ·exact Tr.below H0.1.2.2.1 (H0.1.2.2.2.2.drew)
 ·have e1:decide ((D.nodes:Int)<=m)=false:=decide_eq_false hbig
  have HB:=Ac (F.a<D.nodes/\F.b<D.nodes) (by rw[HM.1]at hbig;split at hbig<;>omega);have hmn:m<(D.nodes:Int):=zz1
  clear hbig m1;have F2:=Ab (H0.1.2.2.1.blw H0.1.2.2.2.2);have HD:=Ab (H2.1.blw F2.1 ((Below.refl _ _).drew));have FD:=Ab (F2.1.blw ((Below.refl _ w2).drew));obtain⟨x,hx⟩:∃x,x=(st.rcv i F.l.toNat).1:=⟨_,rfl⟩;obtain⟨h,hh⟩:∃h,h=(st.rcv i F.l.toNat).2:=⟨_,rfl⟩;have r0:=H0.1.2.2.2.1.num.r0 i F.l.toNat hi1 hi hln;have r1:=H0.1.2.2.2.1.num.r1 i F.l.toNat hi1 hi hln;have r2:=H0.1.2.2.2.1.num.r2 i F.l.toNat hi1 hi hln;have r3:=H0.1.2.2.2.1.num.r3 i F.l.toNat hi1 hi hln;have hrm:=H0.1.2.1.r1;have RS:=Ac (RcvSt w2.drew w2.drew (T.rcv i F.l.toNat) x h D.room) (by rw[hx,hh];exact HD.1.rcvSt i F.l.toNat hi1 hi hln);rw[<- hx]at r0 r1;rw[<- hh]at r2 r3;have HX:=Ac (_/\_) (⟨hx,hh⟩);clear hx hh;by_cases hst:k0p x F.s<x
  ·have HC:=Ab hst
   clear hst
   go_wp2_with(go_at_call 135;refine(k53 (T.rcv i F.l.toNat) x h D.room F.s _ _ RS.1 r0 zz1 r2 r3 zz1 HC.1).mono ?_;rintro e w3 ⟨rfl,hr⟩;have B3:=Ac (Below w2.heap.size w2 w3) (undrew (RS.1.blw hr));have H3:=Ab (H2.1.blw F2.1 B3.1);clear hr)
   go_ret;refine⟨_,o,st,rfl,.inr ⟨HB.1,.inl ⟨.inl (by rw[<- HX.1.1];exact HC.1),rfl⟩⟩,H3.1,Tr.below H0.1.2.2.1 (H0.1.2.2.2.2.trans (B3.1.mono H0.1.2.2.2.2.size))⟩
  by_cases hov:x+(D.room-h)<=k0p x F.s
  ·have HC:=Ab hov
   clear hst hov
   go_wp2_with(go_at_call 135;refine(k5U (T.rcv i F.l.toNat) x h D.room F.s _ _ RS.1 r0 zz1 r2 r3 zz1 HC.1).mono ?_;rintro e w3 ⟨rfl,hr⟩;have B3:=Ac (Below w2.heap.size w2 w3) (undrew (RS.1.blw hr));have H3:=Ab (H2.1.blw F2.1 B3.1);clear hr)
   go_ret;refine⟨_,o,st,rfl,.inr ⟨HB.1,.inl ⟨.inr (by rw[<- HX.1.1,<- HX.1.2];exact HC.1),rfl⟩⟩,H3.1,Tr.below H0.1.2.2.1 (H0.1.2.2.2.2.trans (B3.1.mono H0.1.2.2.2.2.size))⟩
  have HC:=Ac (x<=k0p x F.s/\k0p x F.s<x+(D.room-h)) zz1;obtain⟨X,hX⟩:∃X,X=k0p x F.s:=⟨_,rfl⟩;rw[<- hX]at HC;have HXX:=Ab hX;have hl3:=H0.1.2.1.l1;have v1:IntKind.i64.wrap F.a=F.a:=IntWalk.i64_in _ zz1;have v2:IntKind.i64.wrap F.b=F.b:=IntWalk.i64_in _ zz1;have v3:IntKind.i64.wrap F.l=F.l:=IntWalk.i64_in _ zz1;clear hst hov hX
  go_wp2_with(go_at_call 135;refine(k7D X (T.rcv i F.l.toNat) x h D.room F.s _ _ RS.1 r0 zz1 r2 r3 zz1 HXX.1.symm HC.1.1 HC.1.2).mono ?_;rintro e w3 ⟨rfl,hr⟩;have O3:=Ac (Only (fun b=>o b=.rcv v i F.l.toNat) w2.drew w3) (hr.2.mono (fun b _ e=>by rw[e];exact(H2.1.rcv i F.l.toNat hi1 hi hln).1));have H3:=Ab (HD.1.rcvTo FD.1 hi1 hi hln hr);have F3:=Ac (Fresh o w3) (fun b hb=>FD.1 b (Nat.le_trans O3.1.size hb));have Z3:=(O3.1.keep (w.heap.size+1) (k03 ZZ.1) (fun e=>by rw[H0.1.2.2.1 _ zz1]at e;cases e)).trans ZZ.1;have b3:=fun j=>k00 Z3 j;clear hr Z3)
  have BP:=Ac (Below w3.heap.size w3 (w3.alloc (.cells #[.int .i64 F.a,.int .i64 F.b,.int .i64 F.l,.int .u32 F.y] 40))) ((Below.refl _ _).alloc (Nat.le_refl _) _);have H4:=Ab (H3.1.blw F3.1 BP.1);have F4:=Ab (F3.1.blw BP.1);obtain⟨q0,q1,q2,q3⟩:=box4 (w:=w3) (heap_alloc_new w3 (.cells #[.int .i64 F.a,.int .i64 F.b,.int .i64 F.l,.int .u32 F.y] 40));have HS7:=Sat.mk (S:=fun(W:World)=>W.cell? ⟨T.g,15,none⟩=some (.pointer (some ⟨T.rings,0,none⟩))/\W.cell? ⟨w3.heap.size,0,none⟩=some (.int .i64 F.a)/\W.cell? ⟨w3.heap.size,1,none⟩=some (.int .i64 F.b)/\W.cell? ⟨w3.heap.size,2,none⟩=some (.int .i64 F.l)/\W.cell? ⟨w3.heap.size,3,none⟩=some (.int .u32 F.y)) (w:=(w3.alloc (.cells #[.int .i64 F.a,.int .i64 F.b,.int .i64 F.l,.int .u32 F.y] 40))) (⟨(k00 H4.1.blk 15).trans rfl,q0,q1,q2,q3⟩);obtain⟨d,hd⟩:∃d,d=F.b.toNat:=⟨_,rfl⟩;have hbd:F.b=(d:Nat):=zz1
  have hdn:d<D.nodes:=by have:=HB.1.2;omega
  have HTW:=Ab (kce H0.1.2.1 hv hdn);have HTC:=Ac (Calls Tryz.prog 122 #[.pointer (some ⟨T.g,0,none⟩),.int .i64 F.b] (w3.alloc (.cells #[.int .i64 F.a,.int .i64 F.b,.int .i64 F.l,.int .u32 F.y] 40)).drew _) (by
   have h:=k3O d (H4.1.blw F4.1 (Below.refl _ _).drew) H0.1.2.1 hv hdn (F4.1.blw (Below.refl _ _).drew);rw[<- hbd]at h;exact h)
  obtain⟨l,hll⟩:∃l,l=F.l.toNat:=⟨_,rfl⟩;have hld:F.l=(l:Nat):=by omega
  have HLD:=Ac (_/\_/\_) (⟨hd,hll,hld⟩);clear q0 q1 q2 q3 hd hbd hdn hll hld b3;refine WpL.rg HS7 12 zz2 ?_;refine WpL.T 0 [3,2,1] HS7.1 ?_;refine WpL.T 1 [3,2] HS7.1 ?_;refine WpL.T 2 [3] HS7.1 ?_;refine WpL.T 3 [] HS7.1 ?_;refine WpL.T 4 [] HS7.1 ?_;refine WpL.T 5 [8] HS7.1 ?_;refine WpL.T 6 [8,7] HS7.1 ?_;refine WpL.T 7 [8] HS7.1 ?_;refine WpL.T 9 [10] HS7.1 ?_;refine WpL.T 10 [] HS7.1 ?_;refine WpL.T 11 [] HS7.1 ?_;refine WpL.one (i:=8) zz2 rfl (fun K hK=>?_);go_simp;refine HTC.1.mono ?_;rintro e w5 ⟨rfl,hb⟩;have B5:=Ab (undrew hb);have HS5:=HS7.to w5 (by obtain⟨k0,k1,k2,k3,k4⟩:=HS7.1;exact⟨k01 B5.1 k0,k01 B5.1 k1,k01 B5.1 k2,k01 B5.1 k3,k01 B5.1 k4⟩);clear hb;simp only[];refine hK.out _ _ (fun _=>HS5.1) ?_;clear hK K
  try refine Sm ?_
  refine WpL.one (i:=12) zz2 rfl (fun K hK=>?_);go_simp;have hp:=k5p i (tw D v d) l (pkOf F) (F4.1.blw B5.1) zz6 zz6 zz6 (H4.1.blw F4.1 B5.1).rings (H4.1.rings_n H0.1.2.1 hv) zz1 (by have:=HTW.1;omega) (by have:=HLD.1.2.1;omega);rw[show((l:Nat):Int)=F.l from HLD.1.2.2.symm]at hp;refine hp.mono ?_;rintro e w6 ⟨b6,o6,q6,rfl,t6,r6,c6⟩;have K6:=Ac (_/\_/\_) (⟨t6,r6,c6⟩);clear t6 r6 c6;simp only[];refine hK.out _ _ (fun h=>absurd rfl h) ?_;clear hK K
  try refine Sm ?_
  refine WpL.done zz2 ?_ _;go_wp2;go_ret;have H6:=(H4.1.blw F4.1 B5.1).ringsTo K6.1.1 K6.1.2.1;refine⟨0,o6,_,eset _ _ rfl,.inr ⟨HB.1,.inr ⟨?_,q6,?_,?_⟩⟩,H6,?_⟩
  ·rw[<- HX.1.1,<- HX.1.2,<- HXX.1];exact HC.1
  ·rw[<- HX.1.1,<- HX.1.2,<- HXX.1]
  ·rw[<- HLD.1.1,<- HLD.1.2.1];exact K6.1.2.2
  ·exact(((Tr.below (S:=k0q v) H0.1.2.2.1 H0.1.2.2.2.2.drew).then (Tr.same (S:=fun c=>c=.rcv v i F.l.toNat) FD.1 O3.1) (fun c e=>by rw[e];rfl)).then (Tr.below (S:=k0q v) F3.1 (BP.1.trans (B5.1.mono BP.1.size))) (fun _ x=>x)).then K6.1.1 (fun c e=>by rcases e with e|e<;>rw[e]<;>rfl)
end
def k4z(x h r b:Int):Int:=if k0p x b<=x\/x+(r-h)<k0p x b then x else k0p x b
def TakeRel(D:PlanD)(v i:Nat)(st:NSt)(row:List Int)(st':NSt):Prop:=
 match Wire.dec row with
 |none=>st'=st
 |some F=>((D.lanes:Int)<=F.l/\st'=st)\/(F.l<D.lanes /\
   ((F.k=2/\st' = { st with snd:=upd2 st.snd i F.l.toNat ((st.snd i F.l.toNat).1,k4Q (st.snd i F.l.toNat).1 (st.snd i F.l.toNat).2 F.s) }) \/
    (F.k=3/\st' = { st with rcv:=upd2 st.rcv i F.l.toNat (k4z (st.rcv i F.l.toNat).1 (st.rcv i F.l.toNat).2 D.room F.s,(st.rcv i F.l.toNat).2) }) \/
    (F.k=1/\DataRel D v i st F st')))
theorem k9y{w:World}{A:Addr}{n c:Nat}{row:List Int}{g:Option Nat}(R:Row w (.slice (some A) n c) 5 1 n (u8s row) g)(hn:row.length=n)(h1:n<=1000):ReadsInt w .u8 (some A) n row:=by
 refine⟨hn,zz1,fun h0=>⟨A,rfl,fun j hj=>?_⟩⟩;obtain⟨b,off,cap,_,hA,_,_,hc⟩:=R.open h0;simp only[Value.slice.injEq,Option.some.injEq,true_and]at hA;obtain⟨rfl,rfl⟩:=hA;rw[Addr.add_lit];rw[hc j (by simp[u8s];omega)];simp only[u8s,List.getElem?_map,List.getD_eq_getElem?_getD];rw[List.getElem?_eq_getElem zz1];rfl
theorem kbb(g:Nat)(x h r b:Int)(w0 w:World)(s:RcvSt w0 w g x h r)(x0:0<=x)(x1:x<=9000000000000000000)(h0:0<=h)(h1:h<=r)(h2:r<=8) :
 Calls Tryz.prog 99 #[.pointer (some ⟨g,0,none⟩),.int .u16 b] w fun e w'=>(∃q,e=.returned (.bool q))/\RcvSt w0 w' g (k4z x h r b) h r:=by
 by_cases hc:k0p x b<=x\/x+(r-h)<k0p x b
 ·refine(k7t g x h r b w0 w s x0 x1 h0 h1 h2 hc).mono ?_
  rintro e w' ⟨rfl,hs⟩;rw[show k4z x h r b=x from if_pos hc];exact⟨⟨_,rfl⟩,hs⟩
 ·refine(k6q (k0p x b) g x h r b w0 w s x0 x1 h0 h1 h2 rfl zz1 zz1).mono ?_
  rintro e w' ⟨rfl,hs⟩;rw[show k4z x h r b=k0p x b from if_neg hc];exact⟨⟨_,rfl⟩,hs⟩
section
variable{w:World}{o:Nat->Col}{v:Nat}{D:PlanD}{T:NTab}{st:NSt}
theorem k9t(H:NodeAt w o v D T st)(G:Good D)(hv:v<D.nodes):∀W:World,(Instr.slice 97 (.slice (some ⟨T.pb,T.po,none⟩) (np D v:Nat) T.pc) (some (.int .i64 1)) none none).run Tryz.prog W=.ok (.slice (some ⟨T.pb,T.po+3,none⟩) ((D.bs v).length:Nat) (T.pc-1)) W:=fun W=>by
 obtain⟨i97,hi97,_,hs97,_⟩:=info_parts k5L;have hnp:=k6A G hv;obtain⟨_,cp,hcp,hle⟩:=H.ports.size;cases hcp;have h:=k0P 97 141 .i64 Tryz.underlying97 hi97 3 hs97 (some ⟨T.pb,T.po,none⟩) (np D v) T.pc 1 zz1 zz1 W;have e:(if T.pc=1 then some (⟨T.pb,T.po,none⟩:Addr) else(some (⟨T.pb,T.po,none⟩:Addr)).map (·.add (1*3)))=some ⟨T.pb,T.po+3,none⟩:=by
  rw[if_neg zz1,Option.map_some,Addr.add_lit]
 rw[<- e,show(D.bs v).length=np D v-1 from rfl];exact h
def k08(D:PlanD)(v u:Nat):Nat:=(D.bs v).idxOf u+1
theorem k0Q{D:PlanD}{v u:Nat}(h:u∈D.bs v):k08 D v u<np D v:=by
 have:=List.idxOf_lt_length_of_mem h;unfold k08 np;exact zz1
theorem k3C(u:Nat)(M:Int)(C:Nat)(A:Addr)(n c:Nat)(row:List Int)(g:Option Nat)(H:NodeAt w o v D T st)(G:Good D)(hv:v<D.nodes)(hf:Fresh o w)(K:NodeOk D v M C st)(hu:u∈D.bs v)(R:Row w (.slice (some A) n c) 5 1 n (u8s row) g)(hn:row.length=n)(hn12:n<=12)(hO:Wire.Oct row) :
 Calls Tryz.prog 53 #[.pointer (some ⟨T.g,0,none⟩),.int .i64 u,.slice (some A) n c] w (kdz (TakeRel D v (k08 D v u) st row) w o v D T):=by
 obtain⟨i,hi⟩:∃i,i=k08 D v u:=⟨_,rfl⟩;have hi1:1<=i:=by rw[hi];unfold k08;omega
 have hin:i<np D v:=by rw[hi];exact k0Q hu
 have hnp:=k2t G hv;have CT:=k9t H G hv;have B1:Below w.heap.size w (w.alloc (.cells #[.int .i64 u] 3)):=(Below.refl _ w).alloc (Nat.le_refl _) _;have H1:=Ab (H.blw hf B1);have F1:=Ab (hf.blw B1);have Z1:=Ac ((w.alloc (.cells #[.int .i64 u] 3)).cell? ⟨w.heap.size,0,none⟩=some (.int .i64 u)) ((k00 (heap_alloc_new w _) 0).trans rfl);have b13:(w.alloc (.cells #[.int .i64 u] 3)).cell? ⟨T.g,13,none⟩=some (.slice (some ⟨T.pb,T.po,none⟩) (np D v:Nat) T.pc):=(k00 H1.1.blk 13).trans rfl;have hgl:=k03 H.blk;have b13':w.cell? ⟨T.g,13,none⟩=some (.slice (some ⟨T.pb,T.po,none⟩) (np D v:Nat) T.pc):=(k00 H.blk 13).trans rfl;have H0:=Ac (_/\_/\_/\_/\_/\_/\_/\_/\_) (⟨H,G,hf,K,hu,R,hn,hO,B1⟩);have HI:=Ab hi;clear H G hf K hu R hn hO B1 hi;go_enter Tryz.func53,Tryz.ntmps53
 go_wp2_with(go_at_call 94;refine(kcb u w.heap.size H1.1 H0.1.2.1 hv F1.1 Z1.1).mono ?_;rintro e w2 ⟨r,rfl,hr,hb⟩;obtain rfl:=k2V (k48 D v) H0.1.2.2.2.2.1 hr;have B2:=Ab hb;have hxe:((D.bs v).idxOf u:Int)=(i:Int)-1:=(by have:=HI.1;unfold k08 at this;omega);rw[hxe];clear hb hr hxe)
 have L2:=Ab (H0.1.2.2.2.2.2.2.2.2.trans (B2.1.mono H0.1.2.2.2.2.2.2.2.2.size));have H2:=Ab (H1.1.blw F1.1 B2.1);have F2:=Ab (F1.1.blw B2.1);have hcap:n<=c:=by obtain⟨_,_,h1,h2⟩:=H0.1.2.2.2.2.2.1.size;cases h1;exact h2
 have HD:=Ac (Calls Tryz.prog 96 #[.slice (some A) n c] w2 (Wire.Back w2 (Wire.Fr.or (Wire.dec row)) (Wire.code (Wire.dec row)))) (by
  have h:=Wire.dec_calls (some A) c row w2 (by have:=k9y (H0.1.2.2.2.2.2.1.below L2.1) H0.1.2.2.2.2.2.2.1 zz1;rw[H0.1.2.2.2.2.2.2.1];exact this) (by rw[H0.1.2.2.2.2.2.2.1];exact hcap) H0.1.2.2.2.2.2.2.2.1;rw[H0.1.2.2.2.2.2.2.1]at h;exact h)
 cases hdec:Wire.dec row with
 |none=>
  rw[hdec]at HD;have HN:=Ab hdec;clear hdec;refine HD.1.mono ?_;intro e w3 hbk;obtain⟨rfl,hb⟩:e=.returned (.tuple #[.agg #[.int .u8 0,.int .u8 0,.int .u16 0,.int .u8 0,.int .u8 0,.int .u32 0],.int .u16 30])/\Below w2.heap.size w2 w3:=hbk;have B3:=Ab hb;clear hb;go_wp2;go_ret;have B4:Below w2.heap.size w2 (w3.alloc (.cells #[.int .u8 0,.int .u8 0,.int .u16 0,.int .u8 0,.int .u8 0,.int .u32 0] 163)):=B3.1.alloc B3.1.size _;refine⟨30,o,st,eset _ _ rfl,?_,H2.1.blw F2.1 B4,Tr.below H0.1.2.2.1 (L2.1.trans (B4.mono L2.1.size))⟩;unfold TakeRel;rw[HN.1]
 |some F=>
  rw[hdec]at HD;obtain⟨_,hwf,hsd⟩:=Wire.dec_bytes H0.1.2.2.2.2.2.2.2.1 hdec;have HWF:=Ac (_/\_) (⟨hwf,hsd⟩);obtain⟨⟨hk0,hk1⟩,⟨hl0,hl1⟩,⟨hs0,hs1⟩,_,_,_⟩:=hwf;have HN:=Ab hdec;have u1:IntKind.i64.wrap F.l=F.l:=IntWalk.i64_in _ zz1;obtain⟨l,hll⟩:∃l,l=F.l.toNat:=⟨_,rfl⟩;have hld:F.l=(l:Nat):=by omega
  have HLD:=Ac (_/\_) (⟨hll,hld⟩);clear hdec hsd hll hld;by_cases hlan:(D.lanes:Int)<=F.l
  ·have HE:=Ab hlan
   clear hlan;refine HD.1.mono ?_;intro e w3 hbk;obtain⟨rfl,hb⟩:e=.returned (.tuple #[.agg #[.int .u8 F.k,.int .u8 F.l,.int .u16 F.s,.int .u8 F.a,.int .u8 F.b,.int .u32 F.y],.int .u16 0])/\Below w2.heap.size w2 w3:=hbk;have B3:=Ab hb;have B4:=Ac (Below w2.heap.size w2 (w3.alloc (.cells #[.int .u8 F.k,.int .u8 F.l,.int .u16 F.s,.int .u8 F.a,.int .u8 F.b,.int .u32 F.y] 163))) (hb.alloc hb.size _);have H4:=Ab (H2.1.blw F2.1 B4.1);have F4:=Ab (F2.1.blw B4.1);clear hb
   go_wp2_with(first
    |(go_at_call 97;have h:=kcD i l H4.1 F4.1 hi1 hin (by have:=HE.1;have:=HLD.1.2;omega);rw[show((l:Nat):Int)=F.l from HLD.1.2.symm]at h;refine h.mono ?_;clear h;rintro e w5 ⟨rfl,hb⟩;have B5:=Ab hb;clear hb))
   go_ret;have B6:Below w2.heap.size w2 (w5.alloc (.cells #[.pointer none,.pointer none] 148)):=(B4.1.trans (B5.1.mono B4.1.size)).alloc (Nat.le_trans B4.1.size B5.1.size) _;refine⟨30,o,st,eset _ _ rfl,?_,H2.1.blw F2.1 B6,Tr.below H0.1.2.2.1 (L2.1.trans (B6.mono L2.1.size))⟩;unfold TakeRel;rw[HN.1];exact .inl ⟨HE.1,rfl⟩
  ·have hlt:F.l<D.lanes:=by omega
   have hln:l<D.lanes:=by have:=HLD.1.2;omega
   have HE:=Ab hlt;clear hlan;have hk:=Wire.sound_iff.1 HWF.1.2;have hkk:F.k=1\/F.k=2\/F.k=3:=by rcases hk.2 with h|h;exact .inl h.1;exact h.1.elim (fun h=>.inr (.inl h)) (fun h=>.inr (.inr h))
   clear hk;refine HD.1.mono ?_;intro e w3 hbk;obtain⟨rfl,hb⟩:e=.returned (.tuple #[.agg #[.int .u8 F.k,.int .u8 F.l,.int .u16 F.s,.int .u8 F.a,.int .u8 F.b,.int .u32 F.y],.int .u16 0])/\Below w2.heap.size w2 w3:=hbk;have B3:=Ab hb;have B4:=Ac (Below w2.heap.size w2 (w3.alloc (.cells #[.int .u8 F.k,.int .u8 F.l,.int .u16 F.s,.int .u8 F.a,.int .u8 F.b,.int .u32 F.y] 163))) (hb.alloc hb.size _);have H4:=Ab (H2.1.blw F2.1 B4.1);have F4:=Ab (F2.1.blw B4.1);clear hb;rcases hkk with hk|hk|hk
   ·have HK:=Ab hk
    have e2:(F.k == 2)=false:=zz20
    have e3:(F.k == 3)=false:=zz20
    clear hk
    go_wp2_with(first
     |(go_at_call 97;have h:=k1Q i l H4.1 H0.1.2.1 hv F4.1 hi1 hin hln;rw[show((l:Nat):Int)=F.l from HLD.1.2.symm]at h;refine h.mono ?_;clear h;rintro e w5 ⟨rfl,hb⟩;have B6:=Ac (Below w2.heap.size w2 (w5.alloc (.cells #[.pointer (some ⟨T.snd i l,0,none⟩),.pointer (some ⟨T.rcv i l,0,none⟩)] 148))) ((B4.1.trans (hb.mono B4.1.size)).alloc (Nat.le_trans B4.1.size hb.size) _);have Z5:=(hb.block w3.heap.size zz6).trans (heap_alloc_new w3 (.cells #[.int .u8 F.k,.int .u8 F.l,.int .u16 F.s,.int .u8 F.a,.int .u8 F.b,.int .u32 F.y] 163));have n5:=k03 Z5;have z5:=fun j=>k00 Z5 j;have H6:=Ab (H2.1.blw F2.1 B6.1);have F6:=Ab (F2.1.blw B6.1);clear hb Z5)
     |(go_at_call 100;have h:=k8n i F M C H6.1 H0.1.2.1 hv F6.1 H0.1.2.2.2.1 hi1 hin HWF.1.1 HE.1;rw[<- HLD.1.1]at h;refine h.mono ?_;clear h;rintro e w7 ⟨cc,o7,s7,rfl,hd,hn7,ht7⟩;have K7:=Ac (_/\_/\_) (⟨hd,hn7,ht7⟩);clear hd hn7 ht7))
    go_ret;refine⟨cc,o7,s7,eset _ _ rfl,?_,K7.1.2.1,(Tr.below (S:=k0q v) H0.1.2.2.1 (L2.1.trans (B6.1.mono L2.1.size))).then K7.1.2.2 (fun _ x=>x)⟩;unfold TakeRel;rw[HN.1];exact .inr ⟨HE.1,.inr (.inr ⟨HK.1,by rw[<- HI.1];exact K7.1.1⟩)⟩
   ·have HK:=Ab hk
    have e2:(F.k == 2)=true:=zz20
    clear hk
    go_wp2_with(first
     |(go_at_call 97;have h:=k1Q i l H4.1 H0.1.2.1 hv F4.1 hi1 hin hln;rw[show((l:Nat):Int)=F.l from HLD.1.2.symm]at h;refine h.mono ?_;clear h;rintro e w5 ⟨rfl,hb⟩;have B6:=Ac (Below w2.heap.size w2 (w5.alloc (.cells #[.pointer (some ⟨T.snd i l,0,none⟩),.pointer (some ⟨T.rcv i l,0,none⟩)] 148))) ((B4.1.trans (hb.mono B4.1.size)).alloc (Nat.le_trans B4.1.size hb.size) _);have Z5:=(hb.block w3.heap.size zz6).trans (heap_alloc_new w3 (.cells #[.int .u8 F.k,.int .u8 F.l,.int .u16 F.s,.int .u8 F.a,.int .u8 F.b,.int .u32 F.y] 163));have n5:=k03 Z5;have z5:=fun j=>k00 Z5 j;have H6:=Ab (H2.1.blw F2.1 B6.1);have F6:=Ab (F2.1.blw B6.1);clear hb Z5)
     |(go_at_call 98;refine(k4Z (T.snd i l) _ _ F.s _ _ (H6.1.sndSt i l hi1 hin hln) (H0.1.2.2.2.1.num.s0 i l hi1 hin hln) (by have:=H0.1.2.2.2.1.num.s3 i l hi1 hin hln;omega)).mono ?_;rintro e w7 ⟨rfl,hs⟩;have K7:=Ac (_/\_) (⟨H6.1.sndTo F6.1 hi1 hin hln hs,(show Only (fun b=>o b=.snd v i l) _ w7 from hs.2.mono (fun b _ e=>by rw[e];exact(H6.1.snd i l hi1 hin hln).1))⟩);clear hs))
    go_ret;refine⟨0,o,_,eset _ _ rfl,?_,K7.1.1,(Tr.below (S:=k0q v) H0.1.2.2.1 (L2.1.trans (B6.1.mono L2.1.size))).then (Tr.same (S:=fun c=>c=.snd v i l) F6.1 K7.1.2) (fun c e=>by rw[e];rfl)⟩;unfold TakeRel;rw[HN.1];exact .inr ⟨HE.1,.inl ⟨HK.1,by rw[<- HI.1,<- HLD.1.1]⟩⟩
   ·have HK:=Ab hk
    have e2:(F.k == 2)=false:=zz20
    have e3:(F.k == 3)=true:=zz20
    clear hk
    go_wp2_with(first
     |(go_at_call 97;have h:=k1Q i l H4.1 H0.1.2.1 hv F4.1 hi1 hin hln;rw[show((l:Nat):Int)=F.l from HLD.1.2.symm]at h;refine h.mono ?_;clear h;rintro e w5 ⟨rfl,hb⟩;have B6:=Ac (Below w2.heap.size w2 (w5.alloc (.cells #[.pointer (some ⟨T.snd i l,0,none⟩),.pointer (some ⟨T.rcv i l,0,none⟩)] 148))) ((B4.1.trans (hb.mono B4.1.size)).alloc (Nat.le_trans B4.1.size hb.size) _);have Z5:=(hb.block w3.heap.size zz6).trans (heap_alloc_new w3 (.cells #[.int .u8 F.k,.int .u8 F.l,.int .u16 F.s,.int .u8 F.a,.int .u8 F.b,.int .u32 F.y] 163));have n5:=k03 Z5;have z5:=fun j=>k00 Z5 j;have H6:=Ab (H2.1.blw F2.1 B6.1);have F6:=Ab (F2.1.blw B6.1);clear hb Z5)
     |(go_at_call 99;refine(kbb (T.rcv i l) _ _ _ F.s _ _ (H6.1.rcvSt i l hi1 hin hln) (H0.1.2.2.2.1.num.r0 i l hi1 hin hln) (by have:=H0.1.2.2.2.1.num.r1 i l hi1 hin hln;omega) (H0.1.2.2.2.1.num.r2 i l hi1 hin hln) (H0.1.2.2.2.1.num.r3 i l hi1 hin hln) (by have:=H0.1.2.1.r1;omega)).mono ?_;rintro e w7 ⟨⟨q,rfl⟩,hs⟩;have K7:=Ac (_/\_) (⟨H6.1.rcvTo F6.1 hi1 hin hln hs,(show Only (fun b=>o b=.rcv v i l) _ w7 from hs.2.mono (fun b _ e=>by rw[e];exact(H6.1.rcv i l hi1 hin hln).1))⟩);clear hs))
    go_ret;refine⟨0,o,_,eset _ _ rfl,?_,K7.1.1,(Tr.below (S:=k0q v) H0.1.2.2.1 (L2.1.trans (B6.1.mono L2.1.size))).then (Tr.same (S:=fun c=>c=.rcv v i l) F6.1 K7.1.2) (fun c e=>by rw[e];rfl)⟩;unfold TakeRel;rw[HN.1];exact .inr ⟨HE.1,.inr (.inl ⟨HK.1,by rw[<- HI.1,<- HLD.1.1]⟩)⟩
end
end Go.Proofs.YtdopmlopafgonaaGreatDoor.Own
namespace Go.Proofs.YtdopmlopafgonaaGreatDoor.Own
inductive Pl where
 |came (v:Nat)
 |q (v i j k:Nat)
 |fly (x y k:Nat)
 |wait (v k:Nat)
def Pl.node:Pl->Nat
 |.came v=>v
 |.q v _ _ _=>v
 |.fly x _ _=>x
 |.wait v _=>v
def dn(D:PlanD)(d:Nat):Pl->Pl
 |.came v=>.came v
 |.q v _ j k=>if j=0 then .came v else .fly v (k0G D v j) k
 |.fly x y k=>.q y (k08 D y x) (tw D y d) k
 |.wait v k=>.q v 0 (tw D v d) k
def inpO(D:PlanD)(v:Nat):Option Nat->Nat
 |none=>0
 |some u=>k08 D v u
def ppF(D:PlanD)(k:Nat):Option Nat->List Nat->List Pl
 |_,[]=>[]
 |pr,[v]=>[.came v,.q v (inpO D v pr) 0 k]
 |pr,v :: u :: r=>ppF D k (some v) (u :: r)++[.fly v u k,.q v (inpO D v pr) (k08 D v u) k]
def k54(D:PlanD)(d:Nat):List Nat->Prop
 |[]=>False
 |[v]=>v=d
 |v :: u :: r=>v≠d/\D.nxt v d=u/\u∈D.bs v/\v ∉ (u :: r)/\k54 D d (u :: r)
theorem k7T{D:PlanD}{d:Nat}:∀l:List Nat,l≠[]->l.Nodup->l[l.length-1]? = some d->(∀i a b,l[i]? = some a->l[i+1]? = some b->b∈D.bs a/\D.nxt a d=b/\a≠d)->k54 D d l
 |[],h,_,_,_=>absurd rfl h
 |[v],_,_,h,_=>by simpa[k54] using h
 |v :: u :: r,_,hn,hl,hs=>by
  obtain⟨h1,h2,h3⟩:=hs 0 v u rfl rfl;refine⟨h3,h2,h1,(List.nodup_cons.1 hn).1,k7T (u :: r) zz6 (List.nodup_cons.1 hn).2 ?_ (fun i a b ha hb=>hs (i+1) a b (by simpa using ha) (by simpa using hb))⟩;have e:(v :: u :: r).length-1=((u :: r).length-1)+1:=by simp
  rw[e]at hl;simpa using hl
theorem IsPath.wayTo{D:PlanD}{v w:Nat}{l:List Nat}(h:IsPath D v w l):k54 D w l:=
 k7T l (by have:=h.pos;intro e;rw[e]at this;simp at this) h.nodup h.last h.step
def Chn(D:PlanD)(d:Nat):List Pl->Prop
 |[]=>True
 |[_]=>True
 |a :: b :: l=>a=dn D d b/\Chn D d (b :: l)
theorem Chn.append{D:PlanD}{d:Nat}{b:Pl}:∀{l m:List Pl},Chn D d l->Chn D d (b :: m)->(∀a,l.getLast? = some a->a=dn D d b)->Chn D d (l++b :: m)
 |[],m,_,h,_=>h
 |[a],m,_,h,hl=>⟨hl a rfl,h⟩
 |a :: c :: l,m,h1,h,hl=>⟨h1.1,Chn.append (l:=c :: l) h1.2 h (fun x hx=>hl x (by rw[List.getLast?_cons_cons];exact hx))⟩
theorem Chn.prev{D:PlanD}{d:Nat}{p:Pl}:∀{l:List Pl},Chn D d l->p∈l->(∃B,l=p :: B)\/∃A B,l=A++dn D d p :: p :: B
 |[],_,h=>by cases h
 |[a],_,h=>by
  obtain rfl:=List.mem_singleton.1 h;exact .inl ⟨[],rfl⟩
 |a :: b :: l,h,hm=>by
  rcases List.mem_cons.1 hm with rfl|hm
  ·exact .inl ⟨_,rfl⟩
  ·rcases Chn.prev h.2 hm with⟨B,e⟩|⟨A,B,e⟩
   ·right
    simp only[List.cons.injEq]at e;obtain⟨rfl,rfl⟩:=e;exact⟨[],_,by rw[h.1];rfl⟩
   ·right;exact⟨a :: A,B,by rw[e];rfl⟩
theorem k1z{D:PlanD}{v u:Nat}(h:u∈D.bs v):k0G D v (k08 D v u)=u:=by
 have hl:(D.bs v).idxOf u<(D.bs v).length:=List.idxOf_lt_length_of_mem h;unfold k0G k08;rw[List.getD_eq_getElem?_getD,List.getElem?_cons_succ,List.getElem?_eq_getElem hl];exact zz6
theorem k7N{D:PlanD}{k d:Nat}{pr:Option Nat}:∀{u:Nat}{r:List Nat},k54 D d (u :: r)->(ppF D k pr (u :: r)).getLast? = some (.q u (inpO D u pr) (tw D u d) k)
 |u,[],h=>by
  obtain rfl:u=d:=h;simp[ppF,tw]
 |u,w :: r,h=>by
  obtain⟨h1,h2,_⟩:=h;simp[ppF,tw,Ne.symm h1,h2,k08]
theorem k9G{D:PlanD}{k d:Nat}:∀{pr:Option Nat}{l:List Nat},k54 D d l->Chn D d (ppF D k pr l)
 |pr,[],h=>h.elim
 |pr,[v],h=>by
  refine⟨?_,trivial⟩;simp[dn]
 |pr,v :: u :: r,h=>by
  obtain⟨h1,h2,h3,h4,h5⟩:=h;refine Chn.append (k9G h5) ⟨?_,trivial⟩ (fun a ha=>?_)
  ·have:k08 D v u≠0:=by unfold k08;omega
   simp only[dn,if_neg this,k1z h3]
  ·rw[k7N h5]at ha
   rw[<- Option.some.inj ha];rfl
theorem k62{D:PlanD}{k d:Nat}{p:Pl}:∀{pr:Option Nat}{l:List Nat},k54 D d l->p∈ppF D k pr l->p.node∈l/\(∀v k,p≠.wait v k)/\∀v,p=.came v->v=d
 |pr,[],h,_=>h.elim
 |pr,[v],h,hp=>by
  obtain rfl:v=d:=h;simp only[ppF,List.mem_cons,List.not_mem_nil,or_false]at hp;rcases hp with rfl|rfl
  ·exact⟨by simp[Pl.node],zz6,zz6⟩
  ·exact⟨by simp[Pl.node],zz6,zz6⟩
 |pr,v :: u :: r,h,hp=>by
  obtain⟨h1,h2,h3,h4,h5⟩:=h;simp only[ppF,List.mem_append,List.mem_cons,List.not_mem_nil,or_false]at hp;rcases hp with hp|rfl|rfl
  ·obtain⟨a,b,c⟩:=k62 h5 hp
   exact⟨List.mem_cons_of_mem _ a,b,c⟩
  ·exact⟨by simp[Pl.node],zz6,zz6⟩
  ·exact⟨by simp[Pl.node],zz6,zz6⟩
theorem k6I{D:PlanD}{k d:Nat}:∀{pr:Option Nat}{l:List Nat},k54 D d l->(ppF D k pr l).Nodup
 |pr,[],h=>h.elim
 |pr,[v],h=>by simp[ppF]
 |pr,v :: u :: r,h=>by
  obtain⟨h1,h2,h3,h4,h5⟩:=h;simp only[ppF];rw[List.nodup_append];refine⟨k6I h5,zz6,fun a ha b hb e=>?_⟩;have:=(k62 h5 ha).1;subst e;simp only[List.mem_cons,List.not_mem_nil,or_false]at hb;rcases hb with rfl|rfl<;>exact h4 this
theorem k5V{D:PlanD}{k d:Nat}:∀{pr:Option Nat}{l:List Nat},k54 D d l->∃B,ppF D k pr l=.came d :: B
 |pr,[],h=>h.elim
 |pr,[v],h=>by
  obtain rfl:v=d:=h;exact⟨_,rfl⟩
 |pr,v :: u :: r,h=>by
  obtain⟨h1,h2,h3,h4,h5⟩:=h;obtain⟨B,e⟩:=k5V (D:=D) (k:=k) (pr:=some v) h5;exact⟨_,by simp only[ppF];rw[e];rfl⟩
abbrev Flo:=Nat×Nat×Nat
def k4w(D:PlanD)(f:Flo):Prop:=f.1<D.nodes/\f.2.1<D.nodes/\f.1≠f.2.1/\f.2.2<D.lanes
open Classical in
noncomputable def PPf(D:PlanD)(P:Nat->Nat->List Nat)(f:Flo):List Pl:=if k4w D f then ppF D f.2.2 none (P f.1 f.2.1)++[.wait f.1 f.2.2] else[]
def Ways(D:PlanD)(P:Nat->Nat->List Nat):Prop:=∀v w,v<D.nodes->w<D.nodes->IsPath D v w (P v w)
section
variable{D:PlanD}{P:Nat->Nat->List Nat}
theorem PPf.ok{f:Flo}{p:Pl}(h:p∈PPf D P f):k4w D f:=by
 unfold PPf at h;by_cases e:k4w D f
 ·exact e
 ·rw[if_neg e]at h;cases h
theorem PPf.eq{f:Flo}(h:k4w D f):PPf D P f=ppF D f.2.2 none (P f.1 f.2.1)++[.wait f.1 f.2.2]:=by unfold PPf;rw[if_pos h]
theorem PPf.way(W:Ways D P){f:Flo}(h:k4w D f):k54 D f.2.1 (P f.1 f.2.1):=(W _ _ h.1 h.2.1).wayTo
theorem PPf.nodup(W:Ways D P)(f:Flo):(PPf D P f).Nodup:=by
 by_cases h:k4w D f
 ·rw[PPf.eq h,List.nodup_append]
  refine⟨k6I (PPf.way W h),zz6,fun a ha b hb e=>?_⟩;obtain rfl:=List.mem_singleton.1 hb;exact(k62 (PPf.way W h) ha).2.1 _ _ e
 ·unfold PPf;rw[if_neg h];simp
theorem PPf.chn(W:Ways D P){f:Flo}(h:k4w D f):Chn D f.2.1 (PPf D P f):=by
 rw[PPf.eq h];refine Chn.append (k9G (PPf.way W h)) trivial (fun a ha=>?_);have hw:=PPf.way W h;have hf:=(W _ _ h.1 h.2.1).first
 cases e:P f.1 f.2.1 with
 |nil=>rw[e]at hf;simp at hf
 |cons u r=>
  rw[e]at ha hw hf;simp only[List.getElem?_cons_zero,Option.some.injEq]at hf;subst hf;rw[k7N hw]at ha;rw[<- Option.some.inj ha];rfl
theorem PPf.prev(W:Ways D P){f:Flo}{p:Pl}(h:p∈PPf D P f)(hc:∀v,p≠.came v):∃A B,PPf D P f=A++dn D f.2.1 p :: p :: B:=by
 have ok:=PPf.ok h;rcases(PPf.chn W ok).prev h with⟨B,e⟩|h
 ·rw[PPf.eq ok]at e
  obtain⟨B2,e2⟩:=k5V (D:=D) (k:=f.2.2) (pr:=none) (PPf.way W ok);rw[e2]at e;simp only[List.cons_append,List.cons.injEq]at e;exact absurd e.1.symm (hc _)
 ·exact h
theorem PPf.came(W:Ways D P){f:Flo}{v:Nat}(h:Pl.came v∈PPf D P f):v=f.2.1:=by
 have ok:=PPf.ok h;rw[PPf.eq ok,List.mem_append]at h;rcases h with h|h
 ·exact(k62 (PPf.way W ok) h).2.2 v rfl
 ·simp at h
theorem PPf.has_came(W:Ways D P){f:Flo}(ok:k4w D f):Pl.came f.2.1∈PPf D P f:=by
 obtain⟨B2,e2⟩:=k5V (D:=D) (k:=f.2.2) (pr:=none) (PPf.way W ok);rw[PPf.eq ok,e2];exact zz6
end
def k19(x:Pk):Flo:=(x.src.toNat,x.dst.toNat,x.lane.toNat)
def fl(f:Flo)(l:List Pk):List Pk:=l.filter fun x=>decide (k19 x=f)
theorem k9j{f:Flo}{l m:List Pk}(h:List.Sublist l m):List.Sublist (fl f l) (fl f m):=h.filter _
theorem k1R(f:Flo)(l m:List Pk):fl f (l++m)=fl f l++fl f m:=List.filter_append ..
def pipe(f:Flo)(c:Pl->List Pk)(l:List Pl):List Pk:=l.flatMap fun p=>fl f (c p)
theorem k32(f:Flo)(c:Pl->List Pk)(l m:List Pl):pipe f c (l++m)=pipe f c l++pipe f c m:=List.flatMap_append ..
theorem k2d(f:Flo)(c:Pl->List Pk)(p:Pl)(l:List Pl):pipe f c (p :: l)=fl f (c p)++pipe f c l:=rfl
theorem k3p{f:Flo}{c c':Pl->List Pk}:∀{l:List Pl},(∀p∈l,List.Sublist (fl f (c' p)) (fl f (c p)))->List.Sublist (pipe f c' l) (pipe f c l)
 |[],_=>List.Sublist.refl _
 |p :: l,h=>List.Sublist.append (h p (List.mem_cons_self ..)) (k3p (l:=l) fun p hp=>h p (List.mem_cons_of_mem _ hp))
theorem k4G{f:Flo}{c c':Pl->List Pk}{l:List Pl}(h:∀p∈l,c' p=c p):pipe f c' l=pipe f c l:=by
 unfold pipe;rw[List.flatMap_def,List.flatMap_def];congr 1;exact List.map_congr_left fun p hp=>by rw[h p hp]
theorem k3P{f:Flo}{c:Pl->List Pk}{p:Pl}:∀{l:List Pl},p∈l->List.Sublist (fl f (c p)) (pipe f c l)
 |a :: l,h=>by
  rcases List.mem_cons.1 h with rfl|h
  ·exact List.sublist_append_left _ _
  ·exact(k3P h).trans (List.sublist_append_right _ _)
structure Op(D:PlanD)(P:Nat->Nat->List Nat)(c c':Pl->List Pk)(p:Pl)(pre rest:List Pk):Prop where
 was:c p=pre++rest
 now:c' p=rest
 rest:(∀r,r≠p->c' r=c r)\/∃x,x∈pre/\(∀v,p≠.came v)/\c' (dn D x.dst.toNat p)=c (dn D x.dst.toNat p)++[x]/\∀r,r≠p->r≠dn D x.dst.toNat p->c' r=c r
def Nn(x:Pk):Prop:=0<=x.src/\0<=x.dst/\0<=x.lane
structure PInv(D:PlanD)(P:Nat->Nat->List Nat)(c:Pl->List Pk)(S:List Pk):Prop where
 placed:∀p x,x∈c p->p∈PPf D P (k19 x)
 nn:∀p x,x∈c p->Nn x
 sub:∀f,List.Sublist (pipe f c (PPf D P f)) (fl f S)
theorem k7n{α : Type}{l A B:List α}{a b : α}(hn:l.Nodup)(e:l=A++a :: b :: B):a≠b/\(∀r∈A,r≠a/\r≠b)/\∀r∈B,r≠a/\r≠b:=by
 subst e;rw[List.nodup_append]at hn;obtain⟨_,h2,h3⟩:=hn;rw[List.nodup_cons,List.nodup_cons]at h2;obtain⟨h4,h5,_⟩:=h2;refine⟨fun e=>h4 (by rw[e];simp),fun r hr=>⟨h3 r hr a zz6,h3 r hr b zz6⟩,fun r hr=>⟨fun e=>h4 (by rw[<- e];simp[hr]),fun e=>h5 (by rw[<- e];exact hr)⟩⟩
theorem kcK{x:Pk}{l:List Pk}(h:x∈l):List.Sublist [x] l:=List.singleton_sublist.2 h
theorem PInv.op{D:PlanD}{P:Nat->Nat->List Nat}(W:Ways D P){c c':Pl->List Pk}{S:List Pk}{p:Pl}{pre rest:List Pk}(h:PInv D P c S)(o:Op D P c c' p pre rest):PInv D P c' S:=by
 have hr:List.Sublist rest (c p):=by rw[o.was];exact List.sublist_append_right _ _
 rcases o.rest with hs|⟨x,hx,hc,hd,hs⟩
 ·have key:∀r,List.Sublist (c' r) (c r):=fun r=>by
   by_cases e:r=p
   ·subst e;rw[o.now];exact hr
   ·rw[hs r e];exact List.Sublist.refl _
  exact⟨fun r x hx=>h.placed r x ((key r).subset hx),fun r x hx=>h.nn r x ((key r).subset hx),fun f=>(k3p fun r _=>k9j (key r)).trans (h.sub f)⟩
 ·have hp:p∈PPf D P (k19 x):=h.placed p x (by rw[o.was];simp[hx])
  obtain⟨A,B,e⟩:=PPf.prev W hp hc;have ed:(k19 x).2.1=x.dst.toNat:=rfl;rw[ed]at e;obtain⟨hne,hA,hB⟩:=k7n (PPf.nodup W _) e;have oth:∀r,r≠dn D x.dst.toNat p->List.Sublist (c' r) (c r):=fun r e1=>by
   by_cases e2:r=p
   ·subst e2;rw[o.now];exact hr
   ·rw[hs r e2 e1];exact List.Sublist.refl _
  refine⟨fun r y hy=>?_,fun r y hy=>?_,fun f=>?_⟩
  ·by_cases e1:r=dn D x.dst.toNat p
   ·subst e1
    rw[hd]at hy;rcases List.mem_append.1 hy with hy|hy
    ·exact h.placed _ y hy
    ·obtain rfl:=List.mem_singleton.1 hy
     rw[e];exact zz6
   ·exact h.placed r y ((oth r e1).subset hy)
  ·by_cases e1:r=dn D x.dst.toNat p
   ·subst e1
    rw[hd]at hy;rcases List.mem_append.1 hy with hy|hy
    ·exact h.nn _ y hy
    ·obtain rfl:=List.mem_singleton.1 hy
     exact h.nn p y (by rw[o.was];simp[hx])
   ·exact h.nn r y ((oth r e1).subset hy)
  ·by_cases ef:k19 x=f
   ·subst ef
    refine List.Sublist.trans ?_ (h.sub _);rw[e];rw[k32,k32,k2d,k2d,k2d,k2d];refine List.Sublist.append (by rw[k4G (c':=c') (c:=c) (l:=A) (fun r hr=>hs r (hA r hr).2 (hA r hr).1)];exact List.Sublist.refl _) ?_;rw[hd,o.now,o.was,k1R,k1R,k4G (c':=c') (c:=c) (l:=B) (fun r hr=>hs r (hB r hr).2 (hB r hr).1)];rw[List.append_assoc,List.append_assoc];refine List.Sublist.append (List.Sublist.refl _) ?_;exact List.Sublist.append (k9j (kcK hx)) (List.Sublist.refl _)
   ·refine List.Sublist.trans (k3p fun r _=>?_) (h.sub f)
    by_cases e1:r=dn D x.dst.toNat p
    ·subst e1
     rw[hd,k1R];have:fl f [x]=[]:=by simp[fl,ef]
     rw[this,List.append_nil];exact List.Sublist.refl _
    ·exact k9j (oth r e1)
theorem PInv.inject{D:PlanD}{P:Nat->Nat->List Nat}(W:Ways D P){c c':Pl->List Pk}{S:List Pk}(h:PInv D P c S)(x:Pk)(hx:k4w D (k19 x))(hnn:Nn x)(hc:c' (.wait (k19 x).1 (k19 x).2.2)=c (.wait (k19 x).1 (k19 x).2.2)++[x])(ho:∀r,r≠.wait (k19 x).1 (k19 x).2.2->c' r=c r):PInv D P c' (S++[x]):=by
 refine⟨fun r y hy=>?_,fun r y hy=>?_,fun f=>?_⟩
 ·by_cases e:r=.wait (k19 x).1 (k19 x).2.2
  ·subst e
   rw[hc]at hy;rcases List.mem_append.1 hy with hy|hy
   ·exact h.placed _ y hy
   ·obtain rfl:=List.mem_singleton.1 hy
    rw[PPf.eq hx];exact zz6
  ·rw[ho r e]at hy;exact h.placed r y hy
 ·by_cases e:r=.wait (k19 x).1 (k19 x).2.2
  ·subst e
   rw[hc]at hy;rcases List.mem_append.1 hy with hy|hy
   ·exact h.nn _ y hy
   ·obtain rfl:=List.mem_singleton.1 hy
    exact hnn
  ·rw[ho r e]at hy;exact h.nn r y hy
 ·rw[k1R]
  by_cases ef:k19 x=f
  ·subst ef
   have e:=PPf.eq (P:=P) hx;have hn:=PPf.nodup W (k19 x);have hs:=h.sub (k19 x);rw[e]at hs hn ⊢;rw[k32]at hs ⊢;rw[List.nodup_append]at hn;rw[k4G (c':=c') (c:=c) (fun r hr=>ho r (fun e2=>hn.2.2 r hr _ zz6 e2))];have e3:pipe (k19 x) c' [.wait (k19 x).1 (k19 x).2.2]=pipe (k19 x) c [.wait (k19 x).1 (k19 x).2.2]++fl (k19 x) [x]:=by
    simp only[k2d,hc,k1R];simp[pipe]
   rw[e3,<- List.append_assoc];exact List.Sublist.append hs (List.Sublist.refl _)
  ·have:fl f [x]=[]:=by simp[fl,ef]
   rw[this,List.append_nil];refine List.Sublist.trans (k3p fun r _=>?_) (h.sub f);by_cases e:r=.wait (k19 x).1 (k19 x).2.2
   ·subst e;rw[hc,k1R,this,List.append_nil];exact List.Sublist.refl _
   ·rw[ho r e];exact List.Sublist.refl _
theorem PInv.same{D:PlanD}{P:Nat->Nat->List Nat}{c c':Pl->List Pk}{S:List Pk}(h:PInv D P c S)(e:∀p,c' p=c p):PInv D P c' S:=by
 have:c'=c:=funext e;rw[this];exact h
end Go.Proofs.YtdopmlopafgonaaGreatDoor.Own
namespace Go.Proofs.YtdopmlopafgonaaGreatDoor.Own
open Go.RowKit Go.Proofs.YtdopmlopafgonaaGreatDoorW.PrintWords Go.Proofs.YtdopmlopafgonaaGreatDoorW.PrintLast Go.Proofs.YtdopmlopafgonaaGreatDoorW.PrintMore
def k6p(D:PlanD)(v d k:Nat)(y:Int)(st:NSt)(c:Int)(st':NSt):Prop:=
 (d=v/\c=1/\st'=st)\/(d≠v/\(st.waits k).length=D.queue/\c=150/\st'=st)\/(d≠v/\(st.waits k).length<D.queue/\c=0/\st' = { st with waits:=upd st.waits k (st.waits k++[⟨v,d,k,y⟩]) })
section
variable{w:World}{o:Nat->Col}{v:Nat}{D:PlanD}{T:NTab}{st:NSt}
def Injd(D:PlanD)(d k:Nat)(y:Int)(w:World)(o:Nat->Col)(v:Nat)(T:NTab)(st:NSt)(e:Ending)(w':World):Prop:=∃(c:Int)(o':Nat->Col)(st':NSt),e=.returned (.int .u16 c)/\k6p D v d k y st c st'/\NodeAt w' o' v D T st'/\Tr (k0q v) o w o' w'
theorem k7k(d k:Nat)(y:Int)(M:Int)(C:Nat)(H:NodeAt w o v D T st)(G:Good D)(hv:v<D.nodes)(hf:Fresh o w)(K:NodeOk D v M C st)(hd:d<D.nodes)(hk:k<D.lanes) :
 Calls Tryz.prog 22 #[.pointer (some ⟨T.g,0,none⟩),.agg #[.int .i64 (v:Nat),.int .i64 (d:Nat),.int .i64 (k:Nat),.int .u32 y]] w (Injd D d k y w o v T st):=by
 have B1:=Ac (Below w.heap.size w (w.alloc (.cells #[.int .i64 (v:Nat),.int .i64 (d:Nat),.int .i64 (k:Nat),.int .u32 y] 40))) ((Below.refl _ _).alloc (Nat.le_refl _) _);have H1:=Ab (H.blw hf B1.1);have F1:=Ab (hf.blw B1.1);obtain⟨q0,q1,q2,q3⟩:=box4 (w:=w) (heap_alloc_new w (.cells #[.int .i64 (v:Nat),.int .i64 (d:Nat),.int .i64 (k:Nat),.int .u32 y] 40));have HS:=Sat.mk (S:=fun(W:World)=>W.cell? ⟨w.heap.size,0,none⟩=some (.int .i64 (v:Nat))/\W.cell? ⟨w.heap.size,1,none⟩=some (.int .i64 (d:Nat))/\W.cell? ⟨w.heap.size,2,none⟩=some (.int .i64 (k:Nat))/\W.cell? ⟨w.heap.size,3,none⟩=some (.int .u32 y)/\W.cell? ⟨T.g,1,none⟩=some (.int .i64 D.nodes)/\W.cell? ⟨T.g,12,none⟩=some (.int .i64 (v:Nat))/\W.cell? ⟨T.g,14,none⟩=some (.pointer (some ⟨T.host,0,none⟩))) (w:=(w.alloc (.cells #[.int .i64 (v:Nat),.int .i64 (d:Nat),.int .i64 (k:Nat),.int .u32 y] 40))) (⟨q0,q1,q2,q3,(k00 H1.1.blk 1).trans rfl,(k00 H1.1.blk 12).trans rfl,(k00 H1.1.blk 14).trans rfl⟩);have H0:=Ac (_/\_/\_/\_) (⟨H,G,hf,K⟩);have e1:((v:Int) != (v:Int))=false:=zz6
 have e2:=decide_eq_false (show ¬(d:Int)<0 by omega);have e3:=decide_eq_false (show ¬(D.nodes:Nat)<=d by omega);have e3':=decide_eq_false (show ¬((D.nodes:Nat):Int)<=(d:Int) by omega);clear H G hf K q0 q1 q2 q3;by_cases hdv:d=v
 ·have e4:((d:Int) == (v:Int))=true:=by rw[hdv];exact beq_self_eq_true _
  have HD:=Ab hdv;clear hdv;go_enter Tryz.func22,Tryz.ntmps22;go_wp2;refine WpL.region (fun(W:World)=>W.cell? ⟨w.heap.size,0,none⟩=some (.int .i64 (v:Nat))/\W.cell? ⟨w.heap.size,1,none⟩=some (.int .i64 (d:Nat))/\W.cell? ⟨w.heap.size,2,none⟩=some (.int .i64 (k:Nat))/\W.cell? ⟨w.heap.size,3,none⟩=some (.int .u32 y)/\W.cell? ⟨T.g,1,none⟩=some (.int .i64 D.nodes)/\W.cell? ⟨T.g,12,none⟩=some (.int .i64 (v:Nat))/\W.cell? ⟨T.g,14,none⟩=some (.pointer (some ⟨T.host,0,none⟩))) 99 zz2 ?_;refine WpL.E 0 HS.1 ?_;refine WpL.E 1 HS.1 ?_;refine WpL.E 2 HS.1 ?_;refine WpL.E 3 HS.1 ?_;refine WpL.E 4 HS.1 ?_;refine WpL.E 5 HS.1 ?_;refine WpL.E 6 HS.1 ?_;refine WpL.E 7 HS.1 ?_;refine WpL.E 8 HS.1 ?_;refine WpL.E 9 HS.1 ?_;refine WpL.E 10 HS.1 ?_;refine WpL.E 11 HS.1 ?_;refine WpL.E 12 HS.1 ?_;refine WpL.E 13 HS.1 ?_;refine WpL.E 14 HS.1 ?_;refine WpL.E 15 HS.1 ?_;refine WpL.E 16 HS.1 ?_;refine WpL.E 17 HS.1 ?_;refine WpL.E 18 HS.1 ?_;refine WpL.E 19 HS.1 ?_;refine WpL.E 20 HS.1 ?_;refine WpL.E 21 HS.1 ?_;refine WpL.E 22 HS.1 ?_;refine WpL.E 23 HS.1 ?_;refine WpL.E 24 HS.1 ?_;refine WpL.E 25 HS.1 ?_;refine WpL.E 26 HS.1 ?_;refine WpL.E 27 HS.1 ?_;refine WpL.E 28 HS.1 ?_;refine WpL.E 29 HS.1 ?_;refine WpL.E 30 HS.1 ?_;refine WpL.done zz2 ?_ _;go_wp2;go_ret;refine⟨1,o,st,eset _ _ rfl,.inl ⟨HD.1,rfl,rfl⟩,H1.1.blw F1.1 (Below.refl _ _).drew,Tr.below H0.1.2.2.1 B1.1.drew⟩
 ·have e4:((d:Int) == (v:Int))=false:=beq_eq_false_iff_ne.mpr zz1
  have HD:=Ab hdv;clear hdv;have D1:=Ab (H1.1.blw F1.1 (Below.refl _ _).drew);have hlen:=H0.1.2.2.2.wl k hk;have i1:(k:Int)<(D.lanes:Nat):=zz1
  by_cases hq:(st.waits k).length=D.queue
  ·have HQ:=Ab hq
   clear hq hlen;go_enter Tryz.func22,Tryz.ntmps22;go_wp2;refine WpL.region (fun(W:World)=>W.cell? ⟨w.heap.size,0,none⟩=some (.int .i64 (v:Nat))/\W.cell? ⟨w.heap.size,1,none⟩=some (.int .i64 (d:Nat))/\W.cell? ⟨w.heap.size,2,none⟩=some (.int .i64 (k:Nat))/\W.cell? ⟨w.heap.size,3,none⟩=some (.int .u32 y)/\W.cell? ⟨T.g,1,none⟩=some (.int .i64 D.nodes)/\W.cell? ⟨T.g,12,none⟩=some (.int .i64 (v:Nat))/\W.cell? ⟨T.g,14,none⟩=some (.pointer (some ⟨T.host,0,none⟩))) 99 zz2 ?_;refine WpL.E 0 HS.1 ?_;refine WpL.E 1 HS.1 ?_;refine WpL.E 2 HS.1 ?_;refine WpL.E 3 HS.1 ?_;refine WpL.E 4 HS.1 ?_;refine WpL.E 5 HS.1 ?_;refine WpL.E 6 HS.1 ?_;refine WpL.E 7 HS.1 ?_;refine WpL.E 8 HS.1 ?_;refine WpL.E 9 HS.1 ?_;refine WpL.E 10 HS.1 ?_;refine WpL.E 11 HS.1 ?_;refine WpL.E 12 HS.1 ?_;refine WpL.E 13 HS.1 ?_;refine WpL.E 14 HS.1 ?_;refine WpL.E 15 HS.1 ?_;refine WpL.E 16 HS.1 ?_;refine WpL.E 17 HS.1 ?_;refine WpL.E 18 HS.1 ?_;refine WpL.E 19 HS.1 ?_;refine WpL.E 20 HS.1 ?_;refine WpL.E 21 HS.1 ?_;refine WpL.E 22 HS.1 ?_;refine WpL.E 23 HS.1 ?_;refine WpL.E 24 HS.1 ?_;refine WpL.E 25 HS.1 ?_;refine WpL.E 26 HS.1 ?_;refine WpL.E 27 HS.1 ?_;refine WpL.E 28 HS.1 ?_;refine WpL.E 29 HS.1 ?_;refine WpL.E 30 HS.1 ?_;refine WpL.done zz2 ?_ _;go_wp2;have HS3:=Sat.mk (S:=fun(W:World)=>W.cell? ⟨w.heap.size,0,none⟩=some (.int .i64 (v:Nat))/\W.cell? ⟨w.heap.size,1,none⟩=some (.int .i64 (d:Nat))/\W.cell? ⟨w.heap.size,2,none⟩=some (.int .i64 (k:Nat))/\W.cell? ⟨w.heap.size,3,none⟩=some (.int .u32 y)/\W.cell? ⟨T.g,1,none⟩=some (.int .i64 D.nodes)/\W.cell? ⟨T.g,12,none⟩=some (.int .i64 (v:Nat))/\W.cell? ⟨T.g,14,none⟩=some (.pointer (some ⟨T.host,0,none⟩))) (w:=(w.alloc (.cells #[.int .i64 (v:Nat),.int .i64 (d:Nat),.int .i64 (k:Nat),.int .u32 y] 40))) (HS.1);refine WpL.rg HS3 99 zz2 ?_;refine WpL.E 0 HS3.1 ?_;refine WpL.E 1 HS3.1 ?_;refine WpL.E 2 HS3.1 ?_;refine WpL.E 3 HS3.1 ?_;refine WpL.E 4 HS3.1 ?_;refine WpL.one (i:=5) zz2 rfl (fun K hK=>?_);go_simp;refine(k6i v d y k (D1.1.blw (F1.1.blw (Below.refl _ _).drew) (Below.refl _ _).drew).host i1 (by rw[HQ.1])).mono ?_;rintro e w3 ⟨rfl,hb⟩;have B3:=Ab (undrew (undrew hb));have HS5:=HS3.to w3 (by obtain⟨k0,k1,k2,k3,k4,k5,k6⟩:=HS.1;exact⟨k01 B3.1 k0,k01 B3.1 k1,k01 B3.1 k2,k01 B3.1 k3,k01 B3.1 k4,k01 B3.1 k5,k01 B3.1 k6⟩);clear hb;simp only[];refine hK.out _ _ (fun _=>HS5.1) ?_;clear hK K
   try refine Sm ?_
   refine WpL.E 6 HS5.1 ?_;refine WpL.done zz2 ?_ _;go_wp2;go_ret;refine⟨150,o,st,eset _ _ rfl,.inr (.inl ⟨HD.1,HQ.1,rfl,rfl⟩),H1.1.blw F1.1 B3.1,Tr.below H0.1.2.2.1 (B1.1.trans (B3.1.mono B1.1.size))⟩
  ·have hlt:(st.waits k).length<D.queue:=by omega
   have HQ:=Ab hlt;clear hq hlen hlt;go_enter Tryz.func22,Tryz.ntmps22;go_wp2;refine WpL.region (fun(W:World)=>W.cell? ⟨w.heap.size,0,none⟩=some (.int .i64 (v:Nat))/\W.cell? ⟨w.heap.size,1,none⟩=some (.int .i64 (d:Nat))/\W.cell? ⟨w.heap.size,2,none⟩=some (.int .i64 (k:Nat))/\W.cell? ⟨w.heap.size,3,none⟩=some (.int .u32 y)/\W.cell? ⟨T.g,1,none⟩=some (.int .i64 D.nodes)/\W.cell? ⟨T.g,12,none⟩=some (.int .i64 (v:Nat))/\W.cell? ⟨T.g,14,none⟩=some (.pointer (some ⟨T.host,0,none⟩))) 99 zz2 ?_;refine WpL.E 0 HS.1 ?_;refine WpL.E 1 HS.1 ?_;refine WpL.E 2 HS.1 ?_;refine WpL.E 3 HS.1 ?_;refine WpL.E 4 HS.1 ?_;refine WpL.E 5 HS.1 ?_;refine WpL.E 6 HS.1 ?_;refine WpL.E 7 HS.1 ?_;refine WpL.E 8 HS.1 ?_;refine WpL.E 9 HS.1 ?_;refine WpL.E 10 HS.1 ?_;refine WpL.E 11 HS.1 ?_;refine WpL.E 12 HS.1 ?_;refine WpL.E 13 HS.1 ?_;refine WpL.E 14 HS.1 ?_;refine WpL.E 15 HS.1 ?_;refine WpL.E 16 HS.1 ?_;refine WpL.E 17 HS.1 ?_;refine WpL.E 18 HS.1 ?_;refine WpL.E 19 HS.1 ?_;refine WpL.E 20 HS.1 ?_;refine WpL.E 21 HS.1 ?_;refine WpL.E 22 HS.1 ?_;refine WpL.E 23 HS.1 ?_;refine WpL.E 24 HS.1 ?_;refine WpL.E 25 HS.1 ?_;refine WpL.E 26 HS.1 ?_;refine WpL.E 27 HS.1 ?_;refine WpL.E 28 HS.1 ?_;refine WpL.E 29 HS.1 ?_;refine WpL.E 30 HS.1 ?_;refine WpL.done zz2 ?_ _;go_wp2;have HS3:=Sat.mk (S:=fun(W:World)=>W.cell? ⟨w.heap.size,0,none⟩=some (.int .i64 (v:Nat))/\W.cell? ⟨w.heap.size,1,none⟩=some (.int .i64 (d:Nat))/\W.cell? ⟨w.heap.size,2,none⟩=some (.int .i64 (k:Nat))/\W.cell? ⟨w.heap.size,3,none⟩=some (.int .u32 y)/\W.cell? ⟨T.g,1,none⟩=some (.int .i64 D.nodes)/\W.cell? ⟨T.g,12,none⟩=some (.int .i64 (v:Nat))/\W.cell? ⟨T.g,14,none⟩=some (.pointer (some ⟨T.host,0,none⟩))) (w:=(w.alloc (.cells #[.int .i64 (v:Nat),.int .i64 (d:Nat),.int .i64 (k:Nat),.int .u32 y] 40))) (HS.1);refine WpL.rg HS3 99 zz2 ?_;refine WpL.E 0 HS3.1 ?_;refine WpL.E 1 HS3.1 ?_;refine WpL.E 2 HS3.1 ?_;refine WpL.E 3 HS3.1 ?_;refine WpL.E 4 HS3.1 ?_;refine WpL.one (i:=5) zz2 rfl (fun K hK=>?_);go_simp;refine(kaH v d y k ((F1.1.blw (Below.refl _ _).drew).blw (Below.refl _ _).drew) (D1.1.blw (F1.1.blw (Below.refl _ _).drew) (Below.refl _ _).drew).host i1 (by have:=HQ.1;omega)).mono ?_;rintro e w3 ⟨rfl,o3,t3,h3⟩;have t3':=k1Z (k1Z t3);have H3:=Ab (H1.1.hostTo t3' h3);have T3:=Ab t3';have HS5:=HS3.to w3 (by
    have keep:∀j,w3.cell? ⟨w.heap.size,j,none⟩=(w.alloc (.cells #[.int .i64 (v:Nat),.int .i64 (d:Nat),.int .i64 (k:Nat),.int .u32 y] 40)).cell? ⟨w.heap.size,j,none⟩:=fun j=>World.cell?_of_block (t3'.only.same zz6 (by rw[H0.1.2.2.1 _ (Nat.le_refl _)];simp))
    obtain⟨k0,k1,k2,k3,k4,k5,k6⟩:=HS.1;exact⟨(keep 0).trans k0,(keep 1).trans k1,(keep 2).trans k2,(keep 3).trans k3,(k00 H3.1.blk 1).trans rfl,(k00 H3.1.blk 12).trans rfl,(k00 H3.1.blk 14).trans rfl⟩)
   clear t3 h3 t3';simp only[];refine hK.out _ _ (fun _=>HS5.1) ?_;clear hK K
   try refine Sm ?_
   refine WpL.E 6 HS5.1 ?_;refine WpL.done zz2 ?_ _;go_wp2;go_ret;refine⟨0,o3,_,eset _ _ rfl,.inr (.inr ⟨HD.1,HQ.1,rfl,rfl⟩),H3.1,(Tr.below (S:=k0q v) H0.1.2.2.1 B1.1).then T3.1 (fun c e=>by rw[e];rfl)⟩
theorem k4x(H:NodeAt w o v D T st) :
 Calls Tryz.prog 18 #[.pointer (some ⟨T.g,0,none⟩)] w fun e w'=>e=.returned (.pointer (some ⟨T.host,0,none⟩))/\w=w':=by
 have b0:=fun j=>k00 H.blk j
 clear H;go_enter Tryz.func18,Tryz.ntmps18;exact zz16
end
end Go.Proofs.YtdopmlopafgonaaGreatDoor.Own
