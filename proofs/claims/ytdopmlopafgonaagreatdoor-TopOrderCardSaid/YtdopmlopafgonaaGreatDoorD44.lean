/- TopOrder: of each flow what came is some of what was injected, in its order (a part of the walks and of the plain laws). -/
import Derived.Test.YtdopmlopafgonaaGreatDoorD0
import Derived.Test.YtdopmlopafgonaaGreatDoorD23
set_option linter.unusedVariables false
set_option linter.unusedSimpArgs false
set_option maxHeartbeats 4000000
set_option maxRecDepth 100000
namespace Go.Proofs.YtdopmlopafgonaaGreatDoor.PTopQuick
open Go.RowKit Go.Proofs.YtdopmlopafgonaaGreatDoorW.PrintWords Go.Proofs.YtdopmlopafgonaaGreatDoorW.PrintLast Go.Proofs.YtdopmlopafgonaaGreatDoorW.PrintMore
open Go.Proofs.YtdopmlopafgonaaGreatDoor.Own
attribute [local go_sem] k1c k1j k1u k1N k1b
set_option linter.unusedVariables false
set_option linter.unusedSimpArgs false
attribute [local go_sem high] kbK
def rOf.l0:Nat->List Int->List Int->Int->Option (List Int)
 |0,_,_,_=>none
 |k+1,x0,x3,x4=>if x4<(x0.length:Int) then(if x4<5 then(if 0<=x4 then(if(wrap64 (x4+1))=0 then(none) else(if x3.length<17592186044416 then(rOf.l0 k x0 (x3++[Int.tmod (wrap64 (rd x0 x4)) (wrap64 (x4+1))]) (wrap64 (x4+1))) else(none))) else(none)) else(if(x3.length:Int)=0 then(if x3.length<17592186044416 then(some (x3++[0])) else(none)) else(some x3))) else(if(x3.length:Int)=0 then(if x3.length<17592186044416 then(some (x3++[0])) else(none)) else(some x3))
def rOf.f(k:Nat)(l0:List Int):Option (List Int):=rOf.l0 k l0 ([]:List Int) 0
theorem rOf.calls(k:Nat)(A0:Option Addr)(c0:Nat)(l0:List Int)(r:List Int)(w:World)(hr0:Kd.C (Kd.int .u8) w A0 l0.length l0)(hc0:l0.length<=c0)(h:rOf.f k l0=some r) :
 Calls Tryz.prog 42 #[.slice A0 l0.length c0] w fun e w'=>∃v0_:Value,e=.returned (v0_)/\Kd.R (Kd.int .i64) 3 w' w.heap.size (fun _=>True) v0_ r/\Below w.heap.size w w':=by
 have HR0:=Ab hr0;have HC0:=Ab hc0;clear hr0 hc0;have HB:=Ab (Below.refl w.heap.size w);have H:(rOf.l0 k l0 ([]:List Int) 0)=some r:=h;clear h;have H':=Ab H;clear H;go_enter Tryz.func42,Tryz.ntmps42;go_wp2
 go_loopg [3,4] k (fun kq v3 v4 w'=>∃(x3_1:List Int)(x4_1:Int),v4=.int .i64 x4_1/\k07 (rOf.l0 kq l0 x3_1 x4_1=some r)/\k07 (kq<=k)/\k07 (Kd.R (Kd.int .i64) 3 w' w.heap.size (fun _=>True) v3 x3_1)/\k07 (Below w.heap.size w w'))
 case atStart=>exact⟨(([]:List Int)),(0),zz11,H',⟨Nat.le_refl _⟩,⟨zz13⟩,⟨zz0⟩⟩
 case round=>
  clear H';obtain⟨x3_1,x4_1,rfl,HA,HK1,HO_3,HB⟩:=hrel
  cases gk with
  |zero=>exact absurd HA.1 (by simp[rOf.l0])
  |succ k1=>
   have H:=HA.1;clear HA;simp only[rOf.l0]at H;by_cases c2:x4_1<(l0.length:Int)
   ·rw[if_pos c2]at H
    have c2b0:decide (x4_1<(l0.length:Int))=true:=decide_eq_true c2;clear c2;by_cases c3:x4_1<5
    ·rw[if_pos c3]at H
     have c3b0:decide (x4_1<5)=true:=decide_eq_true c3;clear c3;by_cases c4:0<=x4_1
     ·rw[if_pos c4]at H
      have c4b0:decide (0<=x4_1)=true:=decide_eq_true c4;clear c4;by_cases c5:(wrap64 (x4_1+1))=0
      ·rw[if_pos c5]at H
       exact absurd H zz6
      ·rw[if_neg c5]at H
       have c5b0:((wrap64 (x4_1+1)) == 0)=false:=beq_eq_false_iff_ne.mpr c5;have c5b1:((wrap64 (x4_1+1)) != 0)=true:=bne_iff_ne.mpr c5;by_cases c6:x3_1.length<17592186044416
       ·rw[if_pos c6]at H
        have LMc6:=Ab c6;clear c6;obtain⟨y351,hy351⟩:∃y_:List Int,y_=(x3_1++[Int.tmod (wrap64 (rd l0 x4_1)) (wrap64 (x4_1+1))]):=⟨_,rfl⟩;replace H:(rOf.l0 k1 l0 y351 (wrap64 (x4_1+1)))=some r:=by first|(rw[hy351];with_reducible exact H)|(have H2_:=(Option.bind_some _ _).symm.trans H;rw[hy351];with_reducible exact H2_)|(have H2_:=(Option.bind_some _ _).symm.trans H;with_reducible exact H2_)|with_reducible exact H|(rw[hy351];exact H)|exact H
        have Ny351:=Ab hy351;clear hy351;have H':=Ab H;clear H;have p350:0<=(x4_1:Int):=of_decide_eq_true zz5;have q350:x4_1<(l0.length:Int):=of_decide_eq_true zz5;obtain⟨ad350,e350,hx350_0⟩:=Kd.at_int HR0.1 x4_1 p350 q350;cases e350;replace hx350_0:=(HB.1.cell (World.block_lt_of_cell? w _ hx350_0)).trans hx350_0;replace p350:=eq_true p350;replace q350:=eq_true q350
        go_wp2_with(first|((with_reducible refine k0s (b:=.append) (xs:=#[.tmp 15,.tmp 24]) rfl ?_);at_builtin;refine Kd.R_append (Kd.int .i64) (w0:=w) w.heap.size rfl (.tmp 15) (.tmp 24) 29 3 (.int .i64 0) 8 rfl Tryz.underlying29 k1o rfl zz7 zz1 u3 x3_1 (Int.tmod (wrap64 (rd l0 x4_1)) (wrap64 (x4_1+1))) [.int .i64 (Int.tmod (wrap64 (rd l0 x4_1)) (wrap64 (x4_1+1)))] (fun _=>True) (fun _=>False) rfl rfl ?aP (fun _ hk=>hk.elim) ?aF ?aO ?aB ?aS ?aL ?_;(case aP=>exact rfl);(case aB=>exact zz0);(case aF=>exact(fun _ _=>trivial));(case aO=>exact(zR HO_3.1));(case aS=>exact(k0b zz0));(case aL=>have:=LMc6.1;omega);intro v352 w7 ho hb hg hat;rw[<- Ny351.1]at ho;have n0_:=Ab (hb);have n1_:=Ab (ho);clear HB;clear HO_3;have HB:=n0_;have HO353:=n1_;clear n0_ n1_;clear ho hb hg hat))
        go_roundg k1
        case measure=>have:=HK1.1;omega
        case rel=>exact⟨(y351),(wrap64 (x4_1+1)),zz11,H',⟨by have:=HK1.1;omega⟩,⟨zR HO353.1⟩,⟨zz0⟩⟩
       ·rw[if_neg c6]at H
        exact absurd H zz6
     ·rw[if_neg c4]at H
      exact absurd H zz6
    ·rw[if_neg c3]at H
     have c3b0:decide (x4_1<5)=false:=decide_eq_false c3;clear c3;by_cases c8:(x3_1.length:Int)=0
     ·rw[if_pos c8]at H
      have c8b0:((x3_1.length:Int) == 0)=true:=beq_iff_eq.mpr c8;have c8b1:((x3_1.length:Int) != 0)=false:=bne_eq_false_iff_eq.mpr c8;clear c8;by_cases c9:x3_1.length<17592186044416
      ·rw[if_pos c9]at H
       have LMc9:=Ab c9;clear c9;obtain⟨y354,hy354⟩:∃y_:List Int,y_=(x3_1++[0]):=⟨_,rfl⟩;replace H:(some y354)=some r:=by first|(rw[hy354];with_reducible exact H)|(have H2_:=(Option.bind_some _ _).symm.trans H;rw[hy354];with_reducible exact H2_)|(have H2_:=(Option.bind_some _ _).symm.trans H;with_reducible exact H2_)|with_reducible exact H|(rw[hy354];exact H)|exact H
       have Ny354:=Ab hy354;clear hy354;obtain rfl:=Option.some.inj H;obtain⟨Ao10,co10,eo10⟩:=Kd.R_slice HO_3.1;subst eo10
       go_wp2_with(first|((with_reducible refine k0s (b:=.append) (xs:=#[.tmp 29,.tmp 30]) rfl ?_);at_builtin;refine Kd.R_append (Kd.int .i64) (w0:=w) w.heap.size rfl (.tmp 29) (.tmp 30) 29 3 (.int .i64 0) 8 rfl Tryz.underlying29 k1o rfl zz7 zz1 (.slice Ao10 x3_1.length co10) x3_1 0 [.int .i64 0] (fun _=>True) (fun _=>False) rfl rfl ?aP (fun _ hk=>hk.elim) ?aF ?aO ?aB ?aS ?aL ?_;(case aP=>exact rfl);(case aB=>exact zz0);(case aF=>exact(fun _ _=>trivial));(case aO=>exact(zR HO_3.1));(case aS=>exact(k0b zz0));(case aL=>have:=LMc9.1;omega);intro v355 w11 ho hb hg hat;rw[<- Ny354.1]at ho;have n0_:=Ab (hb);have n1_:=Ab (ho);clear HB;clear HO_3;have HB:=n0_;have HO356:=n1_;clear n0_ n1_;clear ho hb hg hat))
       go_ret;exact⟨_,zz10,by(with_reducible repeat(first|apply Kd.R_alloc|apply Kd.R_drewN|apply Kd.R_drew));exact HO356.1,zz0⟩
      ·rw[if_neg c9]at H
       exact absurd H zz6
     ·rw[if_neg c8]at H
      have c8b0:((x3_1.length:Int) == 0)=false:=beq_eq_false_iff_ne.mpr c8;have c8b1:((x3_1.length:Int) != 0)=true:=bne_iff_ne.mpr c8;have c8b2:¬(x3_1=[]):=fun h_=>c8 (by rw[h_];rfl)
      obtain rfl:=Option.some.inj H;obtain⟨Ao12,co12,eo12⟩:=Kd.R_slice HO_3.1;subst eo12;exact zz69
   ·rw[if_neg c2]at H
    have c2b0:decide (x4_1<(l0.length:Int))=false:=decide_eq_false c2;clear c2;by_cases c13:(x3_1.length:Int)=0
    ·rw[if_pos c13]at H
     have c13b0:((x3_1.length:Int) == 0)=true:=beq_iff_eq.mpr c13;have c13b1:((x3_1.length:Int) != 0)=false:=bne_eq_false_iff_eq.mpr c13;clear c13;by_cases c14:x3_1.length<17592186044416
     ·rw[if_pos c14]at H
      have LMc14:=Ab c14;clear c14;obtain⟨y357,hy357⟩:∃y_:List Int,y_=(x3_1++[0]):=⟨_,rfl⟩;replace H:(some y357)=some r:=by first|(rw[hy357];with_reducible exact H)|(have H2_:=(Option.bind_some _ _).symm.trans H;rw[hy357];with_reducible exact H2_)|(have H2_:=(Option.bind_some _ _).symm.trans H;with_reducible exact H2_)|with_reducible exact H|(rw[hy357];exact H)|exact H
      have Ny357:=Ab hy357;clear hy357;obtain rfl:=Option.some.inj H;obtain⟨Ao15,co15,eo15⟩:=Kd.R_slice HO_3.1;subst eo15
      go_wp2_with(first|((with_reducible refine k0s (b:=.append) (xs:=#[.tmp 29,.tmp 30]) rfl ?_);at_builtin;refine Kd.R_append (Kd.int .i64) (w0:=w) w.heap.size rfl (.tmp 29) (.tmp 30) 29 3 (.int .i64 0) 8 rfl Tryz.underlying29 k1o rfl zz7 zz1 (.slice Ao15 x3_1.length co15) x3_1 0 [.int .i64 0] (fun _=>True) (fun _=>False) rfl rfl ?aP (fun _ hk=>hk.elim) ?aF ?aO ?aB ?aS ?aL ?_;(case aP=>exact rfl);(case aB=>exact zz0);(case aF=>exact(fun _ _=>trivial));(case aO=>exact(zR HO_3.1));(case aS=>exact(k0b zz0));(case aL=>have:=LMc14.1;omega);intro v358 w16 ho hb hg hat;rw[<- Ny357.1]at ho;have n0_:=Ab (hb);have n1_:=Ab (ho);clear HB;clear HO_3;have HB:=n0_;have HO359:=n1_;clear n0_ n1_;clear ho hb hg hat))
      go_ret;exact⟨_,zz10,by(with_reducible repeat(first|apply Kd.R_alloc|apply Kd.R_drewN|apply Kd.R_drew));exact HO359.1,zz0⟩
     ·rw[if_neg c14]at H
      exact absurd H zz6
    ·rw[if_neg c13]at H
     have c13b0:((x3_1.length:Int) == 0)=false:=beq_eq_false_iff_ne.mpr c13;have c13b1:((x3_1.length:Int) != 0)=true:=bne_iff_ne.mpr c13;have c13b2:¬(x3_1=[]):=fun h_=>c13 (by rw[h_];rfl)
     obtain rfl:=Option.some.inj H;obtain⟨Ao17,co17,eo17⟩:=Kd.R_slice HO_3.1;subst eo17;exact zz69
end Go.Proofs.YtdopmlopafgonaaGreatDoor.PTopQuick
