/- TopOrder: of each flow what came is some of what was injected, in its order (a part of the walks and of the plain laws). -/
import Derived.Test.YtdopmlopafgonaaGreatDoorD0
import Derived.Test.YtdopmlopafgonaaGreatDoorD7
set_option linter.unusedVariables false
set_option linter.unusedSimpArgs false
set_option maxHeartbeats 4000000
set_option maxRecDepth 100000
namespace Go.Proofs.YtdopmlopafgonaaGreatDoor.PTopQuick
open Go.RowKit Go.Proofs.YtdopmlopafgonaaGreatDoorW.PrintWords Go.Proofs.YtdopmlopafgonaaGreatDoorW.PrintLast Go.Proofs.YtdopmlopafgonaaGreatDoorW.PrintMore
open Go.Proofs.YtdopmlopafgonaaGreatDoor.Own
attribute [local go_sem] k1c k1j k1u k1N k1b
set_option linter.unusedVariables false
set_option linter.unusedSimpArgs false
theorem kbK(d:Nat)(w:World)(x0 y0:Int)(x1 y1:Int)(x2 y2:Int)(x3 y3:Int)(x4 y4:Int)(x5 y5:Int) :
 (Op.equalIn (d+2) 163 (.agg #[.int .u8 x0,.int .u8 x1,.int .u16 x2,.int .u8 x3,.int .u8 x4,.int .u32 x5]) (.agg #[.int .u8 y0,.int .u8 y1,.int .u16 y2,.int .u8 y3,.int .u8 y4,.int .u32 y5])).run Tryz.prog w=.ok (x0 == y0 && (x1 == y1 && (x2 == y2 && (x3 == y3 && (x4 == y4 && (x5 == y5)))))) w:=by
 refine k9S Tryz.underlying163 zz2 ?_;refine k3d (by rfl) (by go_simp;rfl) (by go_simp;rfl) (by go_simp) ?_;refine k3d (by rfl) (by go_simp;rfl) (by go_simp;rfl) (by go_simp) ?_;refine k3d (by rfl) (by go_simp;rfl) (by go_simp;rfl) (by go_simp) ?_;refine k3d (by rfl) (by go_simp;rfl) (by go_simp;rfl) (by go_simp) ?_;exact zz29
end Go.Proofs.YtdopmlopafgonaaGreatDoor.PTopQuick
namespace Go.Proofs.YtdopmlopafgonaaGreatDoor.PTopQuick
open Go.RowKit Go.Proofs.YtdopmlopafgonaaGreatDoorW.PrintWords Go.Proofs.YtdopmlopafgonaaGreatDoorW.PrintLast Go.Proofs.YtdopmlopafgonaaGreatDoorW.PrintMore
open Go.Proofs.YtdopmlopafgonaaGreatDoor.Own
attribute [local go_sem] k1c k1j k1u k1N k1b
set_option linter.unusedVariables false
set_option linter.unusedSimpArgs false
theorem eqA90(d:Nat)(w:World)(x0 y0:Int)(x1 y1:Int) :
 (Op.equalIn (d+2) 90 (.agg #[.int .i64 x0,.int .i64 x1]) (.agg #[.int .i64 y0,.int .i64 y1])).run Tryz.prog w=.ok (x0 == y0 && (x1 == y1)) w:=by
 refine k9S Tryz.underlying90 zz2 ?_;exact zz29
end Go.Proofs.YtdopmlopafgonaaGreatDoor.PTopQuick
namespace Go.Proofs.YtdopmlopafgonaaGreatDoor.PTopQuick
open Go.RowKit Go.Proofs.YtdopmlopafgonaaGreatDoorW.PrintWords Go.Proofs.YtdopmlopafgonaaGreatDoorW.PrintLast Go.Proofs.YtdopmlopafgonaaGreatDoorW.PrintMore
open Go.Proofs.YtdopmlopafgonaaGreatDoor.Own
attribute [local go_sem] k1c k1j k1u k1N k1b
set_option linter.unusedVariables false
set_option linter.unusedSimpArgs false
attribute [local go_sem high] eqA90
def shunterref13_right.l0:Nat->List Int->Int->Option (Bool)
 |0,_,_=>none
 |k+1,x0,x3=>if x3<(x0.length:Int) then(if 0<=x3 then(if(rd x0 x3)<0 then(some false) else(if(rd x0 x3) > x3 then(some false) else(shunterref13_right.l0 k x0 (wrap64 (x3+1))))) else(none)) else(some (decide ((x0.length:Int)<=5)))
def shunterref13_right.f(k:Nat)(l0:List Int):Option (Bool):=shunterref13_right.l0 k l0 0
theorem shunterref13_right.calls(k:Nat)(A0:Option Addr)(c0:Nat)(l0:List Int)(r:Bool)(w:World)(hr0:Kd.C (Kd.int .i64) w A0 l0.length l0)(hc0:l0.length<=c0)(h:shunterref13_right.f k l0=some r) :
 Calls Tryz.prog 71 #[.slice A0 l0.length c0] w fun e w'=>e=.returned (.bool r)/\Drawn0 w w':=by
 have HR0:=Ab hr0;have HC0:=Ab hc0;clear hr0 hc0;have H:(shunterref13_right.l0 k l0 0)=some r:=h;clear h;have H':=Ab H;clear H;go_enter Tryz.func71,Tryz.ntmps71;go_wp2
 go_loopg [3] k (fun kq v3 w'=>∃(x3_1:Int),v3=.int .i64 x3_1/\k07 (shunterref13_right.l0 kq l0 x3_1=some r)/\k07 (kq<=k)/\Drawn0 w w')
 case atStart=>exact⟨(0),zz11,H',⟨Nat.le_refl _⟩,zz18⟩
 case round=>
  clear H';obtain⟨x3_1,rfl,HA,HK1,⟨m1,rfl⟩⟩:=hrel
  cases gk with
  |zero=>exact absurd HA.1 (by simp[shunterref13_right.l0])
  |succ k1=>
   have H:=HA.1;clear HA;simp only[shunterref13_right.l0]at H;by_cases c2:x3_1<(l0.length:Int)
   ·rw[if_pos c2]at H
    have c2b0:decide (x3_1<(l0.length:Int))=true:=decide_eq_true c2;clear c2;by_cases c3:0<=x3_1
    ·rw[if_pos c3]at H
     have c3b0:decide (0<=x3_1)=true:=decide_eq_true c3;clear c3;by_cases c4:(rd l0 x3_1)<0
     ·rw[if_pos c4]at H
      have c4b0:decide ((rd l0 x3_1)<0)=true:=decide_eq_true c4;clear c4;obtain rfl:=Option.some.inj H;have p274:0<=(x3_1:Int):=of_decide_eq_true zz5;have q274:x3_1<(l0.length:Int):=of_decide_eq_true zz5;obtain⟨ad274,e274,hx274_0⟩:=Kd.at_int HR0.1 x3_1 p274 q274;cases e274;replace p274:=eq_true p274;replace q274:=eq_true q274;exact zz90
     ·rw[if_neg c4]at H
      have c4b0:decide ((rd l0 x3_1)<0)=false:=decide_eq_false c4;clear c4;by_cases c5:(rd l0 x3_1) > x3_1
      ·rw[if_pos c5]at H
       have c5b0:decide (x3_1<(rd l0 x3_1))=true:=decide_eq_true c5;clear c5;obtain rfl:=Option.some.inj H;have p274:0<=(x3_1:Int):=of_decide_eq_true zz5;have q274:x3_1<(l0.length:Int):=of_decide_eq_true zz5;obtain⟨ad274,e274,hx274_0⟩:=Kd.at_int HR0.1 x3_1 p274 q274;cases e274;replace p274:=eq_true p274;replace q274:=eq_true q274;have p275:0<=(x3_1:Int):=of_decide_eq_true zz5;have q275:x3_1<(l0.length:Int):=of_decide_eq_true zz5;obtain⟨ad275,e275,hx275_0⟩:=Kd.at_int HR0.1 x3_1 p275 q275;obtain rfl:ad274=ad275:=(by injection e275);replace p275:=eq_true p275;replace q275:=eq_true q275;exact zz90
      ·rw[if_neg c5]at H
       have c5b0:decide (x3_1<(rd l0 x3_1))=false:=decide_eq_false c5;clear c5;have H':=Ab H;clear H;have p274:0<=(x3_1:Int):=of_decide_eq_true zz5;have q274:x3_1<(l0.length:Int):=of_decide_eq_true zz5;obtain⟨ad274,e274,hx274_0⟩:=Kd.at_int HR0.1 x3_1 p274 q274;cases e274;replace p274:=eq_true p274;replace q274:=eq_true q274;have p275:0<=(x3_1:Int):=of_decide_eq_true zz5;have q275:x3_1<(l0.length:Int):=of_decide_eq_true zz5;obtain⟨ad275,e275,hx275_0⟩:=Kd.at_int HR0.1 x3_1 p275 q275;obtain rfl:ad274=ad275:=(by injection e275);replace p275:=eq_true p275;replace q275:=eq_true q275;go_wp2
       go_roundg k1
       case measure=>have:=HK1.1;omega
       case rel=>exact⟨(wrap64 (x3_1+1)),zz11,H',⟨by have:=HK1.1;omega⟩,zz18⟩
    ·rw[if_neg c3]at H
     exact absurd H zz6
   ·rw[if_neg c2]at H
    have c2b0:decide (x3_1<(l0.length:Int))=false:=decide_eq_false c2;clear c2;obtain rfl:=Option.some.inj H;exact zz90
def shunterref13_up.l0:Nat->List Int->Int->List Int->Option (List Int)
 |0,_,_,_=>none
 |k+1,x0,x1,x5=>if x1 > 0 then(if 0<=(wrap64 (x1-1)) then(if(wrap64 (x1-1))<(x0.length:Int) then(if x5.length<17592186044416 then(shunterref13_up.l0 k x0 (rd x0 (wrap64 (x1-1))) (x5++[rd x0 (wrap64 (x1-1))])) else(none)) else(none)) else(none)) else(some x5)
def shunterref13_up.f(k:Nat)(l0:List Int)(a1:Int):Option (List Int):=shunterref13_up.l0 k l0 a1 (([a1]:List Int))
theorem shunterref13_up.calls(k:Nat)(A0:Option Addr)(c0:Nat)(l0:List Int)(a1:Int)(r:List Int)(w:World)(hr0:Kd.C (Kd.int .i64) w A0 l0.length l0)(hc0:l0.length<=c0)(h:shunterref13_up.f k l0 a1=some r) :
 Calls Tryz.prog 112 #[.slice A0 l0.length c0,.int .i64 a1] w fun e w'=>∃v0_:Value,e=.returned (v0_)/\Kd.R (Kd.int .i64) 3 w' w.heap.size (fun _=>True) v0_ r/\Below w.heap.size w w':=by
 have HR0:=Ab hr0;have HC0:=Ab hc0;clear hr0 hc0;have HB:=Ab (Below.refl w.heap.size w);have H:(shunterref13_up.l0 k l0 a1 (([a1]:List Int)))=some r:=h;clear h;obtain⟨y276,hy276⟩:∃y_:List Int,y_=(([a1]:List Int)):=⟨_,rfl⟩;replace H:(shunterref13_up.l0 k l0 a1 y276)=some r:=by first|(rw[hy276];with_reducible exact H)|(have H2_:=(Option.bind_some _ _).symm.trans H;rw[hy276];with_reducible exact H2_)|(have H2_:=(Option.bind_some _ _).symm.trans H;with_reducible exact H2_)|with_reducible exact H|(rw[hy276];exact H)|exact H
 have Ny276:=Ab hy276;clear hy276;have H':=Ab H;clear H;go_enter Tryz.func112,Tryz.ntmps112
 go_wp2_with(first|((with_reducible refine k1i (N:=7) rfl ?_);refine Kd.R_lit (Kd.int .i64) _ 3 ?hg (N:=7) ?hd (xs:=([a1]:List Int)) (inner:=[.int .i64 a1]) (ok:=fun _=>True) (okp:=fun _=>True) ?hr ?hp (fun _ hk=>hk) trivial (Below.refl _ _) (Nat.le_refl _) zz6 ?_;(case hd=>rfl);(case hg=>rfl);(case hr=>exact zz24);(case hp=>exact(Reps.one (show Kd.M (Kd.int .i64) _ _ _ a1 [.int .i64 a1] from rfl) (Reps.none _ _)));intro v277 w3 ho4 hb hg_ hnew_;clear hg_ hnew_;(first|rw[<- Ny276.1]at ho4|(simp only[Int.reduceToNat]at ho4;rw[<- Ny276.1]at ho4));have n0_:=Ab (Kd.R_lower ho4 (k0b zz0));have n1_:=Ab (k0t zz0 hb);clear HB;have HO278:=n0_;have HB:=n1_;clear n0_ n1_;clear hb ho4))
 go_loopg [1,5] k (fun kq v1 v5 w'=>∃(x1_1:Int)(x5_1:List Int),v1=.int .i64 x1_1/\k07 (shunterref13_up.l0 kq l0 x1_1 x5_1=some r)/\k07 (kq<=k)/\k07 (Kd.R (Kd.int .i64) 3 w' w.heap.size (fun _=>True) v5 x5_1)/\k07 (Below w.heap.size w w'))
 case atStart=>exact⟨(a1),(y276),zz11,H',⟨Nat.le_refl _⟩,⟨zR HO278.1⟩,⟨zz0⟩⟩
 case round=>
  clear H'
  try clear c1
  try clear p2
  obtain⟨x1_1,x5_1,rfl,HA,HK1,HO_5,HB⟩:=hrel
  cases gk with
  |zero=>exact absurd HA.1 (by simp[shunterref13_up.l0])
  |succ k1=>
   have H:=HA.1;clear HA;simp only[shunterref13_up.l0]at H;by_cases c5:x1_1 > 0
   ·rw[if_pos c5]at H
    have c5b0:decide (0<x1_1)=true:=decide_eq_true c5;clear c5;obtain⟨ji6,hji6⟩:∃j_:Int,(wrap64 (x1_1-1))=j_:=⟨_,rfl⟩;replace H:(if 0<=(ji6) then(if(ji6)<(l0.length:Int) then(if x5_1.length<17592186044416 then(shunterref13_up.l0 k1 l0 (rd l0 (ji6)) (x5_1++[rd l0 (ji6)])) else(none)) else(none)) else(none))=some r:=by first|(rw[hji6]at H;exact H)|(simp only[hji6]at H ⊢;exact H)
    have hji6w:(IntKind.i64.wrap (x1_1-1))=ji6:=(k1J _).trans hji6;by_cases c7:0<=(ji6)
    ·rw[if_pos c7]at H
     have c7b0:decide (0<=(ji6))=true:=decide_eq_true c7;clear c7;by_cases c8:(ji6)<(l0.length:Int)
     ·rw[if_pos c8]at H
      have c8b0:decide ((ji6)<(l0.length:Int))=true:=decide_eq_true c8;clear c8;by_cases c9:x5_1.length<17592186044416
      ·rw[if_pos c9]at H
       have LMc9:=Ab c9;clear c9;obtain⟨y280,hy280⟩:∃y_:List Int,y_=(x5_1++[rd l0 (ji6)]):=⟨_,rfl⟩;replace H:(shunterref13_up.l0 k1 l0 (rd l0 (ji6)) y280)=some r:=by first|(rw[hy280];with_reducible exact H)|(have H2_:=(Option.bind_some _ _).symm.trans H;rw[hy280];with_reducible exact H2_)|(have H2_:=(Option.bind_some _ _).symm.trans H;with_reducible exact H2_)|with_reducible exact H|(rw[hy280];exact H)|exact H
       have Ny280:=Ab hy280;clear hy280;have H':=Ab H;clear H;have p279:0<=((ji6):Int):=of_decide_eq_true zz5;have q279:(ji6)<(l0.length:Int):=of_decide_eq_true zz5;obtain⟨ad279,e279,hx279_0⟩:=Kd.at_int HR0.1 (ji6) p279 q279;cases e279;replace hx279_0:=(HB.1.cell (World.block_lt_of_cell? w _ hx279_0)).trans hx279_0;replace p279:=eq_true p279;replace q279:=eq_true q279
       go_wp2_with(first|((with_reducible refine k0s (b:=.append) (xs:=#[.tmp 15,.tmp 17]) rfl ?_);at_builtin;refine Kd.R_append (Kd.int .i64) (w0:=w) w.heap.size rfl (.tmp 15) (.tmp 17) 29 3 (.int .i64 0) 8 rfl Tryz.underlying29 k1o rfl zz7 zz1 u5 x5_1 (rd l0 (ji6)) [.int .i64 (rd l0 (ji6))] (fun _=>True) (fun _=>False) rfl rfl ?aP (fun _ hk=>hk.elim) ?aF ?aO ?aB ?aS ?aL ?_;(case aP=>exact rfl);(case aB=>exact zz0);(case aF=>exact(fun _ _=>trivial));(case aO=>exact(zR HO_5.1));(case aS=>exact(k0b zz0));(case aL=>have:=LMc9.1;omega);intro v281 w10 ho hb hg hat;rw[<- Ny280.1]at ho;have n0_:=Ab (hb);have n1_:=Ab (ho);clear HB;clear HO_5;have HB:=n0_;have HO282:=n1_;clear n0_ n1_;clear ho hb hg hat))
       go_roundg k1
       case measure=>have:=HK1.1;omega
       case rel=>exact⟨(rd l0 (ji6)),(y280),(by first|rfl|(simp;done)|(simp only[<- hji6]<;>(first|rfl|simp))|(simp[*];done)),H',⟨by have:=HK1.1;omega⟩,⟨zR HO282.1⟩,⟨zz0⟩⟩
      ·rw[if_neg c9]at H
       exact absurd H zz6
     ·rw[if_neg c8]at H
      exact absurd H zz6
    ·rw[if_neg c7]at H
     exact absurd H zz6
   ·rw[if_neg c5]at H
    have c5b0:decide (0<x1_1)=false:=decide_eq_false c5;clear c5;obtain rfl:=Option.some.inj H;go_wp2;go_ret;exact⟨_,zz10,by(with_reducible repeat(first|apply Kd.R_alloc|apply Kd.R_drewN|apply Kd.R_drew));exact HO_5.1,zz0⟩
end Go.Proofs.YtdopmlopafgonaaGreatDoor.PTopQuick
namespace Go.Proofs.YtdopmlopafgonaaGreatDoor.PTopQuick
open Go.RowKit Go.Proofs.YtdopmlopafgonaaGreatDoorW.PrintWords Go.Proofs.YtdopmlopafgonaaGreatDoorW.PrintLast Go.Proofs.YtdopmlopafgonaaGreatDoorW.PrintMore
open Go.Proofs.YtdopmlopafgonaaGreatDoor.Own
attribute [local go_sem] k1c k1j k1u k1N k1b
set_option linter.unusedVariables false
set_option linter.unusedSimpArgs false
mutual
def shunterref13_Path.j0:Nat->List Int->Int->Int->Bool->Option (List Int)
 |0,_,_,_,_=>none
 |k+1,x0,x1,x2,x33=>if x33=true then(some ([]:List Int)) else((shunterref13_up.f k x0 x1).bind fun t284=>((shunterref13_up.f k x0 x2).bind fun t287=>(shunterref13_Path.l0 k t284 t287)))
def shunterref13_Path.j2:Nat->List Int->List Int->Option (List Int)
 |0,_,_=>none
 |k+1,x7,x8=>if([]:List Int).length+x7.length<17592186044416 then(shunterref13_Path.l1 k x8 (([]:List Int)++x7) (wrap64 ((x8.length:Int)-2))) else(none)
def shunterref13_Path.l1:Nat->List Int->List Int->Int->Option (List Int)
 |0,_,_,_=>none
 |k+1,x8,x9,x10=>if x10 ≥ 0 then(if 0<=x10 then(if x10<(x8.length:Int) then(if x9.length<17592186044416 then(shunterref13_Path.l1 k x8 (x9++[rd x8 x10]) (wrap64 (x10-1))) else(none)) else(none)) else(none)) else(some x9)
def shunterref13_Path.l0:Nat->List Int->List Int->Option (List Int)
 |0,_,_=>none
 |k+1,x7,x8=>if(x7.length:Int) > 1 then(if(x8.length:Int) > 1 then(if 0<=(wrap64 ((x7.length:Int)-2)) then(if(wrap64 ((x7.length:Int)-2))<(x7.length:Int) then(if 0<=(wrap64 ((x8.length:Int)-2)) then(if(wrap64 ((x8.length:Int)-2))<(x8.length:Int) then(if(rd x7 (wrap64 ((x7.length:Int)-2)))=(rd x8 (wrap64 ((x8.length:Int)-2))) then(if 0<=(wrap64 ((x7.length:Int)-1)) then(if(wrap64 ((x7.length:Int)-1))<=(x7.length:Int) then(if 0<=(wrap64 ((x8.length:Int)-1)) then(if(wrap64 ((x8.length:Int)-1))<=(x8.length:Int) then(shunterref13_Path.l0 k (x7.take ((wrap64 ((x7.length:Int)-1)):Int).toNat) (x8.take ((wrap64 ((x8.length:Int)-1)):Int).toNat)) else(none)) else(none)) else(none)) else(none)) else(shunterref13_Path.j2 k x7 x8)) else(none)) else(none)) else(none)) else(none)) else(shunterref13_Path.j2 k x7 x8)) else(shunterref13_Path.j2 k x7 x8)
end
def shunterref13_Path.f(k:Nat)(l0:List Int)(a1:Int)(a2:Int):Option (List Int):=(shunterref13_right.f k l0).bind fun t283=>(if t283=true then(if a1<0 then(shunterref13_Path.j0 k l0 a1 a2 true) else(if a1 > (l0.length:Int) then(shunterref13_Path.j0 k l0 a1 a2 true) else(if a2<0 then(shunterref13_Path.j0 k l0 a1 a2 true) else(shunterref13_Path.j0 k l0 a1 a2 (decide (a2 > (l0.length:Int))))))) else(shunterref13_Path.j0 k l0 a1 a2 true))
theorem shunterref13_Path.calls(k:Nat)(A0:Option Addr)(c0:Nat)(l0:List Int)(a1:Int)(a2:Int)(r:List Int)(w:World)(hr0:Kd.C (Kd.int .i64) w A0 l0.length l0)(hc0:l0.length<=c0)(h:shunterref13_Path.f k l0 a1 a2=some r) :
 Calls Tryz.prog 72 #[.slice A0 l0.length c0,.int .i64 a1,.int .i64 a2] w fun e w'=>∃v0_:Value,e=.returned (v0_)/\Kd.R (Kd.int .i64) 3 w' w.heap.size (fun _=>True) v0_ r/\Below w.heap.size w w':=by
 have HR0:=Ab hr0;have HC0:=Ab hc0;clear hr0 hc0;have HB:=Ab (Below.refl w.heap.size w);have H:((shunterref13_right.f k l0).bind fun t283=>(if t283=true then(if a1<0 then(shunterref13_Path.j0 k l0 a1 a2 true) else(if a1 > (l0.length:Int) then(shunterref13_Path.j0 k l0 a1 a2 true) else(if a2<0 then(shunterref13_Path.j0 k l0 a1 a2 true) else(shunterref13_Path.j0 k l0 a1 a2 (decide (a2 > (l0.length:Int))))))) else(shunterref13_Path.j0 k l0 a1 a2 true)))=some r:=h;clear h;have HC4:=Ab H;clear H;go_enter Tryz.func72,Tryz.ntmps72
 go_upto_region 1 with(fail)
 repeat(go_quiet (fail);go_upto_region 1 with(fail))
 go_cut [33] (fun v33 wc=>∃(kq:Nat)(x33_3:Bool),v33=.bool x33_3/\k07 (shunterref13_Path.j0 kq l0 a1 a2 x33_3=some r)/\k07 (kq<=k)/\k07 (Below w.heap.size w wc))
 case first=>
  have H:=HC4.1;clear HC4;replace H:=Option.bind_eq_some_iff.mp H;obtain⟨t283,A50,H⟩:=H;replace H:(if t283=true then(if a1<0 then(shunterref13_Path.j0 k l0 a1 a2 true) else(if a1 > (l0.length:Int) then(shunterref13_Path.j0 k l0 a1 a2 true) else(if a2<0 then(shunterref13_Path.j0 k l0 a1 a2 true) else(shunterref13_Path.j0 k l0 a1 a2 (decide (a2 > (l0.length:Int))))))) else(shunterref13_Path.j0 k l0 a1 a2 true))=some r:=H;have A5:=Ab A50;clear A50;by_cases c6:t283=true
  ·subst c6
   have H1:(if a1<0 then(shunterref13_Path.j0 k l0 a1 a2 true) else(if a1 > (l0.length:Int) then(shunterref13_Path.j0 k l0 a1 a2 true) else(if a2<0 then(shunterref13_Path.j0 k l0 a1 a2 true) else(shunterref13_Path.j0 k l0 a1 a2 (decide (a2 > (l0.length:Int)))))))=some r:=zz106
   clear H;have H:=H1;clear H1;by_cases c7:a1<0
   ·rw[if_pos c7]at H
    have c7b0:decide (a1<0)=true:=decide_eq_true c7;clear c7
    (first|rw[c7b0]|(simp only[k1J,k2G];rw[c7b0])|skip)
    have H':=Ab H;clear H
    go_wp2_with(first|(go_at_call 71;(with_reducible refine(shunterref13_right.calls k _ _ l0 true _ ?side1 ?side2 A5.1).mono ?_);(case side1=>exact zz4);(case side2=>exact HC0.1);rintro e w' ⟨rfl,⟨nd,rfl⟩⟩;(try first|exact⟨rfl,_,World.drewN_drewN _ _ _⟩|exact⟨rfl,_,Eq.trans (World.drewN_drewN _ _ _) (congrArg (World.drewN _) (Nat.add_assoc _ _ _))⟩)))
    repeat(go_quiet (first|(go_at_call 71;(with_reducible refine(shunterref13_right.calls k _ _ l0 true _ ?side1 ?side2 A5.1).mono ?_);(case side1=>exact zz4);(case side2=>exact HC0.1);rintro e w' ⟨rfl,⟨nd,rfl⟩⟩;(try first|exact⟨rfl,_,World.drewN_drewN _ _ _⟩|exact⟨rfl,_,Eq.trans (World.drewN_drewN _ _ _) (congrArg (World.drewN _) (Nat.add_assoc _ _ _))⟩)));try go_wp2_with(first|(go_at_call 71;(with_reducible refine(shunterref13_right.calls k _ _ l0 true _ ?side1 ?side2 A5.1).mono ?_);(case side1=>exact zz4);(case side2=>exact HC0.1);rintro e w' ⟨rfl,⟨nd,rfl⟩⟩;(try first|exact⟨rfl,_,World.drewN_drewN _ _ _⟩|exact⟨rfl,_,Eq.trans (World.drewN_drewN _ _ _) (congrArg (World.drewN _) (Nat.add_assoc _ _ _))⟩))))
    go_meet
    case rel=>exact⟨_,(true),zz11,H',⟨zz50⟩,⟨zz0⟩⟩
   ·rw[if_neg c7]at H
    have c7b0:decide (a1<0)=false:=decide_eq_false c7;clear c7
    (first|rw[c7b0]|(simp only[k1J,k2G];rw[c7b0])|skip)
    by_cases c8:a1 > (l0.length:Int)
    ·rw[if_pos c8]at H
     have c8b0:decide ((l0.length:Int)<a1)=true:=decide_eq_true c8;clear c8;have H':=Ab H;clear H
     go_wp2_with(first|(go_at_call 71;(with_reducible refine(shunterref13_right.calls k _ _ l0 true _ ?side1 ?side2 A5.1).mono ?_);(case side1=>exact zz4);(case side2=>exact HC0.1);rintro e w' ⟨rfl,⟨nd,rfl⟩⟩;(try first|exact⟨rfl,_,World.drewN_drewN _ _ _⟩|exact⟨rfl,_,Eq.trans (World.drewN_drewN _ _ _) (congrArg (World.drewN _) (Nat.add_assoc _ _ _))⟩)))
     repeat(go_quiet (first|(go_at_call 71;(with_reducible refine(shunterref13_right.calls k _ _ l0 true _ ?side1 ?side2 A5.1).mono ?_);(case side1=>exact zz4);(case side2=>exact HC0.1);rintro e w' ⟨rfl,⟨nd,rfl⟩⟩;(try first|exact⟨rfl,_,World.drewN_drewN _ _ _⟩|exact⟨rfl,_,Eq.trans (World.drewN_drewN _ _ _) (congrArg (World.drewN _) (Nat.add_assoc _ _ _))⟩)));try go_wp2_with(first|(go_at_call 71;(with_reducible refine(shunterref13_right.calls k _ _ l0 true _ ?side1 ?side2 A5.1).mono ?_);(case side1=>exact zz4);(case side2=>exact HC0.1);rintro e w' ⟨rfl,⟨nd,rfl⟩⟩;(try first|exact⟨rfl,_,World.drewN_drewN _ _ _⟩|exact⟨rfl,_,Eq.trans (World.drewN_drewN _ _ _) (congrArg (World.drewN _) (Nat.add_assoc _ _ _))⟩))))
     go_meet
     case rel=>exact⟨_,(true),zz11,H',⟨zz50⟩,⟨zz0⟩⟩
    ·rw[if_neg c8]at H
     have c8b0:decide ((l0.length:Int)<a1)=false:=decide_eq_false c8;clear c8;by_cases c9:a2<0
     ·rw[if_pos c9]at H
      have c9b0:decide (a2<0)=true:=decide_eq_true c9;clear c9;have H':=Ab H;clear H
      go_wp2_with(first|(go_at_call 71;(with_reducible refine(shunterref13_right.calls k _ _ l0 true _ ?side1 ?side2 A5.1).mono ?_);(case side1=>exact zz4);(case side2=>exact HC0.1);rintro e w' ⟨rfl,⟨nd,rfl⟩⟩;(try first|exact⟨rfl,_,World.drewN_drewN _ _ _⟩|exact⟨rfl,_,Eq.trans (World.drewN_drewN _ _ _) (congrArg (World.drewN _) (Nat.add_assoc _ _ _))⟩)))
      repeat(go_quiet (first|(go_at_call 71;(with_reducible refine(shunterref13_right.calls k _ _ l0 true _ ?side1 ?side2 A5.1).mono ?_);(case side1=>exact zz4);(case side2=>exact HC0.1);rintro e w' ⟨rfl,⟨nd,rfl⟩⟩;(try first|exact⟨rfl,_,World.drewN_drewN _ _ _⟩|exact⟨rfl,_,Eq.trans (World.drewN_drewN _ _ _) (congrArg (World.drewN _) (Nat.add_assoc _ _ _))⟩)));try go_wp2_with(first|(go_at_call 71;(with_reducible refine(shunterref13_right.calls k _ _ l0 true _ ?side1 ?side2 A5.1).mono ?_);(case side1=>exact zz4);(case side2=>exact HC0.1);rintro e w' ⟨rfl,⟨nd,rfl⟩⟩;(try first|exact⟨rfl,_,World.drewN_drewN _ _ _⟩|exact⟨rfl,_,Eq.trans (World.drewN_drewN _ _ _) (congrArg (World.drewN _) (Nat.add_assoc _ _ _))⟩))))
      go_meet
      case rel=>exact⟨_,(true),zz11,H',⟨zz50⟩,⟨zz0⟩⟩
     ·rw[if_neg c9]at H
      have c9b0:decide (a2<0)=false:=decide_eq_false c9;clear c9;have H':=Ab H;clear H
      go_wp2_with(first|(go_at_call 71;(with_reducible refine(shunterref13_right.calls k _ _ l0 true _ ?side1 ?side2 A5.1).mono ?_);(case side1=>exact zz4);(case side2=>exact HC0.1);rintro e w' ⟨rfl,⟨nd,rfl⟩⟩;(try first|exact⟨rfl,_,World.drewN_drewN _ _ _⟩|exact⟨rfl,_,Eq.trans (World.drewN_drewN _ _ _) (congrArg (World.drewN _) (Nat.add_assoc _ _ _))⟩)))
      repeat(go_quiet (first|(go_at_call 71;(with_reducible refine(shunterref13_right.calls k _ _ l0 true _ ?side1 ?side2 A5.1).mono ?_);(case side1=>exact zz4);(case side2=>exact HC0.1);rintro e w' ⟨rfl,⟨nd,rfl⟩⟩;(try first|exact⟨rfl,_,World.drewN_drewN _ _ _⟩|exact⟨rfl,_,Eq.trans (World.drewN_drewN _ _ _) (congrArg (World.drewN _) (Nat.add_assoc _ _ _))⟩)));try go_wp2_with(first|(go_at_call 71;(with_reducible refine(shunterref13_right.calls k _ _ l0 true _ ?side1 ?side2 A5.1).mono ?_);(case side1=>exact zz4);(case side2=>exact HC0.1);rintro e w' ⟨rfl,⟨nd,rfl⟩⟩;(try first|exact⟨rfl,_,World.drewN_drewN _ _ _⟩|exact⟨rfl,_,Eq.trans (World.drewN_drewN _ _ _) (congrArg (World.drewN _) (Nat.add_assoc _ _ _))⟩))))
      go_meet
      case rel=>exact⟨_,(decide (a2 > (l0.length:Int))),zz11,H',⟨zz50⟩,⟨zz0⟩⟩
  ·replace c6:=Bool.eq_false_iff.mpr c6
   subst c6;have H1:(shunterref13_Path.j0 k l0 a1 a2 true)=some r:=by rw[if_neg (show ¬(false=true) by decide)]at H;exact H
   clear H;have H:=H1;clear H1;have H':=Ab H;clear H
   go_wp2_with(first|(go_at_call 71;(with_reducible refine(shunterref13_right.calls k _ _ l0 false _ ?side1 ?side2 A5.1).mono ?_);(case side1=>exact zz4);(case side2=>exact HC0.1);rintro e w' ⟨rfl,⟨nd,rfl⟩⟩;(try first|exact⟨rfl,_,World.drewN_drewN _ _ _⟩|exact⟨rfl,_,Eq.trans (World.drewN_drewN _ _ _) (congrArg (World.drewN _) (Nat.add_assoc _ _ _))⟩)))
   repeat(go_quiet (first|(go_at_call 71;(with_reducible refine(shunterref13_right.calls k _ _ l0 false _ ?side1 ?side2 A5.1).mono ?_);(case side1=>exact zz4);(case side2=>exact HC0.1);rintro e w' ⟨rfl,⟨nd,rfl⟩⟩;(try first|exact⟨rfl,_,World.drewN_drewN _ _ _⟩|exact⟨rfl,_,Eq.trans (World.drewN_drewN _ _ _) (congrArg (World.drewN _) (Nat.add_assoc _ _ _))⟩)));try go_wp2_with(first|(go_at_call 71;(with_reducible refine(shunterref13_right.calls k _ _ l0 false _ ?side1 ?side2 A5.1).mono ?_);(case side1=>exact zz4);(case side2=>exact HC0.1);rintro e w' ⟨rfl,⟨nd,rfl⟩⟩;(try first|exact⟨rfl,_,World.drewN_drewN _ _ _⟩|exact⟨rfl,_,Eq.trans (World.drewN_drewN _ _ _) (congrArg (World.drewN _) (Nat.add_assoc _ _ _))⟩))))
   go_meet
   case rel=>exact⟨_,(true),zz11,H',⟨zz50⟩,⟨zz0⟩⟩
 case rest=>
  clear HC4
  try clear p2
  try clear c6
  try clear c7
  try clear c7b0
  try clear c8
  try clear c8b0
  try clear c9
  try clear c9b0
  obtain⟨kq,x33_3,rfl,HA,HJ3,HB⟩:=hcut
  cases kq with
  |zero=>exact absurd HA.1 (by simp[shunterref13_Path.j0])
  |succ kj3=>
   have H:=HA.1;clear HA;simp only[shunterref13_Path.j0]at H;by_cases c10:x33_3=true
   ·subst c10
    have H1:(some ([]:List Int))=some r:=zz106
    clear H;have H:=H1;clear H1;obtain rfl:=Option.some.inj H;go_wp2
    repeat(go_quiet (fail);try go_wp2)
    go_ret;exact⟨_,zz10,zz13,zz0⟩
   ·replace c10:=Bool.eq_false_iff.mpr c10
    subst c10;have H1:((shunterref13_up.f kj3 l0 a1).bind fun t284=>((shunterref13_up.f kj3 l0 a2).bind fun t287=>(shunterref13_Path.l0 kj3 t284 t287)))=some r:=by rw[if_neg (show ¬(false=true) by decide)]at H;exact H
    clear H;have H:=H1;clear H1;replace H:=Option.bind_eq_some_iff.mp H;obtain⟨t284,A110,H⟩:=H;replace H:((shunterref13_up.f kj3 l0 a2).bind fun t287=>(shunterref13_Path.l0 kj3 t284 t287))=some r:=H;have A11:=Ab A110;clear A110;replace H:=Option.bind_eq_some_iff.mp H;obtain⟨t287,A120,H⟩:=H;replace H:(shunterref13_Path.l0 kj3 t284 t287)=some r:=H;have A12:=Ab A120;clear A120;have HC13:=Ab H;clear H
    go_upto_block 0 with(first|(go_at_call 112;(with_reducible refine(shunterref13_up.calls kj3 _ _ l0 a1 t284 _ ?side1 ?side2 A11.1).mono ?_);(case side1=>exact zz4);(case side2=>exact HC0.1);rintro e w14 ⟨v285,rfl,ho0,hb⟩;have n0_:=Ab (Kd.R_lower ho0 (k0b zz0));have n1_:=Ab (k0t zz0 hb);clear HB;have HO286:=n0_;have HB:=n1_;clear n0_ n1_;(try clear hb);(try clear hb2);(try clear hk);(try clear hi);(try clear ho0))|(go_at_call 112;(with_reducible refine(shunterref13_up.calls kj3 _ _ l0 a2 t287 _ ?side1 ?side2 A12.1).mono ?_);(case side1=>exact zz4);(case side2=>exact HC0.1);rintro e w15 ⟨v288,rfl,ho0,hb⟩;have n0_:=Ab (Kd.R_elder' (zR HO286.1) (Kd.R_base ho0) hb);have n1_:=Ab (Kd.R_lower (Kd.R_new' ho0 (Kd.R_lt (zR HO286.1))) (k0b zz0));have n2_:=Ab (k0t zz0 hb);clear HO286;clear HB;have HO286:=n0_;have HO289:=n1_;have HB:=n2_;clear n0_ n1_ n2_;(try clear hb);(try clear hb2);(try clear hk);(try clear hi);(try clear ho0)))
    repeat(go_quiet (first|(go_at_call 112;(with_reducible refine(shunterref13_up.calls kj3 _ _ l0 a1 t284 _ ?side1 ?side2 A11.1).mono ?_);(case side1=>exact zz4);(case side2=>exact HC0.1);rintro e w14 ⟨v285,rfl,ho0,hb⟩;have n0_:=Ab (Kd.R_lower ho0 (k0b zz0));have n1_:=Ab (k0t zz0 hb);clear HB;have HO286:=n0_;have HB:=n1_;clear n0_ n1_;(try clear hb);(try clear hb2);(try clear hk);(try clear hi);(try clear ho0))|(go_at_call 112;(with_reducible refine(shunterref13_up.calls kj3 _ _ l0 a2 t287 _ ?side1 ?side2 A12.1).mono ?_);(case side1=>exact zz4);(case side2=>exact HC0.1);rintro e w15 ⟨v288,rfl,ho0,hb⟩;have n0_:=Ab (Kd.R_elder' (zR HO286.1) (Kd.R_base ho0) hb);have n1_:=Ab (Kd.R_lower (Kd.R_new' ho0 (Kd.R_lt (zR HO286.1))) (k0b zz0));have n2_:=Ab (k0t zz0 hb);clear HO286;clear HB;have HO286:=n0_;have HO289:=n1_;have HB:=n2_;clear n0_ n1_ n2_;(try clear hb);(try clear hb2);(try clear hk);(try clear hi);(try clear ho0)));go_upto_block 0 with(first|(go_at_call 112;(with_reducible refine(shunterref13_up.calls kj3 _ _ l0 a1 t284 _ ?side1 ?side2 A11.1).mono ?_);(case side1=>exact zz4);(case side2=>exact HC0.1);rintro e w14 ⟨v285,rfl,ho0,hb⟩;have n0_:=Ab (Kd.R_lower ho0 (k0b zz0));have n1_:=Ab (k0t zz0 hb);clear HB;have HO286:=n0_;have HB:=n1_;clear n0_ n1_;(try clear hb);(try clear hb2);(try clear hk);(try clear hi);(try clear ho0))|(go_at_call 112;(with_reducible refine(shunterref13_up.calls kj3 _ _ l0 a2 t287 _ ?side1 ?side2 A12.1).mono ?_);(case side1=>exact zz4);(case side2=>exact HC0.1);rintro e w15 ⟨v288,rfl,ho0,hb⟩;have n0_:=Ab (Kd.R_elder' (zR HO286.1) (Kd.R_base ho0) hb);have n1_:=Ab (Kd.R_lower (Kd.R_new' ho0 (Kd.R_lt (zR HO286.1))) (k0b zz0));have n2_:=Ab (k0t zz0 hb);clear HO286;clear HB;have HO286:=n0_;have HO289:=n1_;have HB:=n2_;clear n0_ n1_ n2_;(try clear hb);(try clear hb2);(try clear hk);(try clear hi);(try clear ho0))))
    (try simp only[Act.put,List.setIfInBounds_toArray,List.set_cons_zero,List.set_cons_succ])
    go_cut [7,8] (fun v7 v8 wc=>∃(kq:Nat)(x7_12:List Int)(x8_12:List Int),k07 (shunterref13_Path.j2 kq x7_12 x8_12=some r)/\k07 (kq<=kj3)/\k07 (Kd.R (Kd.int .i64) 3 wc w.heap.size (fun k_=>some k_≠(v8:Value).ownBlock) v7 x7_12)/\k07 (Kd.R (Kd.int .i64) 3 wc w.heap.size (fun k_=>some k_≠(v7:Value).ownBlock) v8 x8_12)/\k07 (Below w.heap.size w wc))
    case first=>
     have H:=HC13.1;clear HC13;have H':=Ab H;clear H;go_wp2
     repeat(go_quiet (fail);try go_wp2)
     go_loopg [7,8] kj3 (fun kq v7 v8 w'=>∃(x7_2:List Int)(x8_2:List Int),k07 (shunterref13_Path.l0 kq x7_2 x8_2=some r)/\k07 (kq<=kj3)/\k07 (Kd.R (Kd.int .i64) 3 w' w.heap.size (fun k_=>some k_≠(v8:Value).ownBlock) v7 x7_2)/\k07 (Kd.R (Kd.int .i64) 3 w' w.heap.size (fun k_=>some k_≠(v7:Value).ownBlock) v8 x8_2)/\k07 (Below w.heap.size w w'))
     case atStart=>exact⟨(t284),(t287),H',⟨Nat.le_refl _⟩,⟨by(with_reducible repeat(first|apply Kd.R_alloc|apply Kd.R_drewN|apply Kd.R_drew));exact Kd.R_mono HO286.1 (fun _ hk=>hk.2)⟩,⟨by(with_reducible repeat(first|apply Kd.R_alloc|apply Kd.R_drewN|apply Kd.R_drew));exact Kd.R_mono HO289.1 (fun _ hk=>hk.2)⟩,⟨zz0⟩⟩
     case round=>
      clear H'
      try clear c1
      try clear p2
      try clear c6
      try clear c7
      try clear c7b0
      try clear c8
      try clear c8b0
      try clear c9
      try clear c9b0
      try clear c10
      try clear p2
      obtain⟨x7_2,x8_2,HA,HK2,HO_7,HO_8,HB⟩:=hrel;cases gk with
      |zero=>exact absurd HA.1 (by simp[shunterref13_Path.l0])
      |succ k2=>
       have H:=HA.1;clear HA;simp only[shunterref13_Path.l0]at H;by_cases c16:(x7_2.length:Int) > 1
       ·rw[if_pos c16]at H
        have c16b0:decide (1<(x7_2.length:Int))=true:=decide_eq_true c16;have c16b1:decide (1<x7_2.length)=true:=decide_eq_true zz1;clear c16
        (first|rw[c16b0]|(simp only[k1J,k2G];rw[c16b0])|skip)
        by_cases c17:(x8_2.length:Int) > 1
        ·rw[if_pos c17]at H
         have c17b0:decide (1<(x8_2.length:Int))=true:=decide_eq_true c17;have c17b1:decide (1<x8_2.length)=true:=decide_eq_true zz1;clear c17;obtain⟨ji18,hji18⟩:∃j_:Int,(wrap64 ((x7_2.length:Int)-2))=j_:=⟨_,rfl⟩;replace H:(if 0<=(ji18) then(if(ji18)<(x7_2.length:Int) then(if 0<=(wrap64 ((x8_2.length:Int)-2)) then(if(wrap64 ((x8_2.length:Int)-2))<(x8_2.length:Int) then(if(rd x7_2 (ji18))=(rd x8_2 (wrap64 ((x8_2.length:Int)-2))) then(if 0<=(wrap64 ((x7_2.length:Int)-1)) then(if(wrap64 ((x7_2.length:Int)-1))<=(x7_2.length:Int) then(if 0<=(wrap64 ((x8_2.length:Int)-1)) then(if(wrap64 ((x8_2.length:Int)-1))<=(x8_2.length:Int) then(shunterref13_Path.l0 k2 (x7_2.take ((wrap64 ((x7_2.length:Int)-1)):Int).toNat) (x8_2.take ((wrap64 ((x8_2.length:Int)-1)):Int).toNat)) else(none)) else(none)) else(none)) else(none)) else(shunterref13_Path.j2 k2 x7_2 x8_2)) else(none)) else(none)) else(none)) else(none))=some r:=by first|(rw[hji18]at H;exact H)|(simp only[hji18]at H ⊢;exact H)
         have hji18w:(IntKind.i64.wrap ((x7_2.length:Int)-2))=ji18:=(k1J _).trans hji18;by_cases c19:0<=(ji18)
         ·rw[if_pos c19]at H
          have c19b0:decide (0<=(ji18))=true:=decide_eq_true c19;clear c19;by_cases c20:(ji18)<(x7_2.length:Int)
          ·rw[if_pos c20]at H
           have c20b0:decide ((ji18)<(x7_2.length:Int))=true:=decide_eq_true c20;clear c20;obtain⟨ji21,hji21⟩:∃j_:Int,(wrap64 ((x8_2.length:Int)-2))=j_:=⟨_,rfl⟩;replace H:(if 0<=(ji21) then(if(ji21)<(x8_2.length:Int) then(if(rd x7_2 (ji18))=(rd x8_2 (ji21)) then(if 0<=(wrap64 ((x7_2.length:Int)-1)) then(if(wrap64 ((x7_2.length:Int)-1))<=(x7_2.length:Int) then(if 0<=(wrap64 ((x8_2.length:Int)-1)) then(if(wrap64 ((x8_2.length:Int)-1))<=(x8_2.length:Int) then(shunterref13_Path.l0 k2 (x7_2.take ((wrap64 ((x7_2.length:Int)-1)):Int).toNat) (x8_2.take ((wrap64 ((x8_2.length:Int)-1)):Int).toNat)) else(none)) else(none)) else(none)) else(none)) else(shunterref13_Path.j2 k2 x7_2 x8_2)) else(none)) else(none))=some r:=by first|(rw[hji21]at H;exact H)|(simp only[hji21]at H ⊢;exact H)
           have hji21w:(IntKind.i64.wrap ((x8_2.length:Int)-2))=ji21:=(k1J _).trans hji21;by_cases c22:0<=(ji21)
           ·rw[if_pos c22]at H
            have c22b0:decide (0<=(ji21))=true:=decide_eq_true c22;clear c22;by_cases c23:(ji21)<(x8_2.length:Int)
            ·rw[if_pos c23]at H
             have c23b0:decide ((ji21)<(x8_2.length:Int))=true:=decide_eq_true c23;clear c23;by_cases c24:(rd x7_2 (ji18))=(rd x8_2 (ji21))
             ·rw[if_pos c24]at H
              have c24b0:((rd x7_2 (ji18)) == (rd x8_2 (ji21)))=true:=beq_iff_eq.mpr c24;have c24b1:((rd x7_2 (ji18)) != (rd x8_2 (ji21)))=false:=bne_eq_false_iff_eq.mpr c24;clear c24;obtain⟨ji25,hji25⟩:∃j_:Int,(wrap64 ((x7_2.length:Int)-1))=j_:=⟨_,rfl⟩;replace H:(if 0<=(ji25) then(if(ji25)<=(x7_2.length:Int) then(if 0<=(wrap64 ((x8_2.length:Int)-1)) then(if(wrap64 ((x8_2.length:Int)-1))<=(x8_2.length:Int) then(shunterref13_Path.l0 k2 (x7_2.take ((ji25):Int).toNat) (x8_2.take ((wrap64 ((x8_2.length:Int)-1)):Int).toNat)) else(none)) else(none)) else(none)) else(none))=some r:=by first|(rw[hji25]at H;exact H)|(simp only[hji25]at H ⊢;exact H)
              have hji25w:(IntKind.i64.wrap ((x7_2.length:Int)-1))=ji25:=(k1J _).trans hji25;by_cases c26:0<=(ji25)
              ·rw[if_pos c26]at H
               have c26b0:=eq_true c26;have c26b1:decide (0<=(ji25))=true:=decide_eq_true c26;clear c26;by_cases c27:(ji25)<=(x7_2.length:Int)
               ·rw[if_pos c27]at H
                have c27b0:=eq_true c27;have c27b1:decide ((ji25)<=(x7_2.length:Int))=true:=decide_eq_true c27;clear c27;obtain⟨y292,hy292⟩:∃y_:List Int,y_=(x7_2.take ((ji25):Int).toNat):=⟨_,rfl⟩;replace H:(if 0<=(wrap64 ((x8_2.length:Int)-1)) then(if(wrap64 ((x8_2.length:Int)-1))<=(x8_2.length:Int) then(shunterref13_Path.l0 k2 y292 (x8_2.take ((wrap64 ((x8_2.length:Int)-1)):Int).toNat)) else(none)) else(none))=some r:=by first|(rw[hy292];with_reducible exact H)|(have H2_:=(Option.bind_some _ _).symm.trans H;rw[hy292];with_reducible exact H2_)|(have H2_:=(Option.bind_some _ _).symm.trans H;with_reducible exact H2_)|with_reducible exact H|(rw[hy292];exact H)|exact H
                have Ny292:=Ab hy292;clear hy292;obtain⟨ji28,hji28⟩:∃j_:Int,(wrap64 ((x8_2.length:Int)-1))=j_:=⟨_,rfl⟩;replace H:(if 0<=(ji28) then(if(ji28)<=(x8_2.length:Int) then(shunterref13_Path.l0 k2 y292 (x8_2.take ((ji28):Int).toNat)) else(none)) else(none))=some r:=by first|(rw[hji28]at H;exact H)|(simp only[hji28]at H ⊢;exact H)
                have hji28w:(IntKind.i64.wrap ((x8_2.length:Int)-1))=ji28:=(k1J _).trans hji28;by_cases c29:0<=(ji28)
                ·rw[if_pos c29]at H
                 have c29b0:=eq_true c29;have c29b1:decide (0<=(ji28))=true:=decide_eq_true c29;clear c29;by_cases c30:(ji28)<=(x8_2.length:Int)
                 ·rw[if_pos c30]at H
                  have c30b0:=eq_true c30;have c30b1:decide ((ji28)<=(x8_2.length:Int))=true:=decide_eq_true c30;clear c30;obtain⟨y295,hy295⟩:∃y_:List Int,y_=(x8_2.take ((ji28):Int).toNat):=⟨_,rfl⟩;replace H:(shunterref13_Path.l0 k2 y292 y295)=some r:=by first|(rw[hy295];with_reducible exact H)|(have H2_:=(Option.bind_some _ _).symm.trans H;rw[hy295];with_reducible exact H2_)|(have H2_:=(Option.bind_some _ _).symm.trans H;with_reducible exact H2_)|with_reducible exact H|(rw[hy295];exact H)|exact H
                  have Ny295:=Ab hy295;clear hy295;have H':=Ab H;clear H;obtain⟨Ao31,co31,eo31⟩:=Kd.R_slice HO_7.1;subst eo31;obtain⟨Ao32,co32,eo32⟩:=Kd.R_slice HO_8.1;subst eo32;have p290:0<=((ji18):Int):=of_decide_eq_true zz5;have q290:(ji18)<(x7_2.length:Int):=of_decide_eq_true zz5;obtain⟨ad290,e290,hx290_0⟩:=Kd.at_int (Kd.R_reads' HO_7.1).2.2 (ji18) p290 q290;cases e290;replace p290:=eq_true p290;replace q290:=eq_true q290;have p291:0<=((ji21):Int):=of_decide_eq_true zz5;have q291:(ji21)<(x8_2.length:Int):=of_decide_eq_true zz5;obtain⟨ad291,e291,hx291_0⟩:=Kd.at_int (Kd.R_reads' HO_8.1).2.2 (ji21) p291 q291;cases e291;replace p291:=eq_true p291;replace q291:=eq_true q291;have q33:((ji25):Int)<=((x7_2.length:Int):Int):=of_decide_eq_true zz5;obtain⟨i033,hi033,_,hsz33,_⟩:=info_parts k1o;have hcut33:=kbA (P:=Tryz.prog) 29 3 .i64 Tryz.underlying29 hi033 (some ad290) x7_2.length co31 (ji25) (of_decide_eq_true zz5) q33 (Kd.R_reads' HO_7.1).2.1;have hr33:=Kd.R_take (m:=((ji25):Int).toNat) HO_7.1 zz1;have hy33:y292.length=((ji25):Int).toNat:=(by rw[Ny292.1,List.length_take];omega);rw[<- Ny292.1]at hr33;rw[<- hy33]at hr33 hcut33;clear hy33 hi033 hsz33 HO_7;have HO294:=Ab hr33;clear hr33;replace q33:=eq_true q33;have q34:((ji28):Int)<=((x8_2.length:Int):Int):=of_decide_eq_true zz5;obtain⟨i034,hi034,_,hsz34,_⟩:=info_parts k1o;have hcut34:=kbA (P:=Tryz.prog) 29 3 .i64 Tryz.underlying29 hi034 (some ad291) x8_2.length co32 (ji28) (of_decide_eq_true zz5) q34 (Kd.R_reads' HO_8.1).2.1;have hr34:=Kd.R_take (m:=((ji28):Int).toNat) HO_8.1 zz1;have hy34:y295.length=((ji28):Int).toNat:=(by rw[Ny295.1,List.length_take];omega);rw[<- Ny295.1]at hr34;rw[<- hy34]at hr34 hcut34;clear hy34 hi034 hsz34 HO_8;have HO297:=Ab hr34;clear hr34;replace q34:=eq_true q34;go_wp2
                  repeat(go_quiet (fail);try go_wp2)
                  go_roundg k2
                  case measure=>have:=HJ3.1;have:=HK2.1;omega
                  case rel=>exact⟨(y292),(y295),H',⟨by have:=HJ3.1;have:=HK2.1;omega⟩,⟨zR HO294.1⟩,⟨zR HO297.1⟩,⟨zz0⟩⟩
                 ·rw[if_neg c30]at H
                  exact absurd H zz6
                ·rw[if_neg c29]at H
                 exact absurd H zz6
               ·rw[if_neg c27]at H
                exact absurd H zz6
              ·rw[if_neg c26]at H
               exact absurd H zz6
             ·rw[if_neg c24]at H
              have c24b0:((rd x7_2 (ji18)) == (rd x8_2 (ji21)))=false:=beq_eq_false_iff_ne.mpr c24;have c24b1:((rd x7_2 (ji18)) != (rd x8_2 (ji21)))=true:=bne_iff_ne.mpr c24;have H':=Ab H;clear H;obtain⟨Ao35,co35,eo35⟩:=Kd.R_slice HO_7.1;subst eo35;obtain⟨Ao36,co36,eo36⟩:=Kd.R_slice HO_8.1;subst eo36;have p290:0<=((ji18):Int):=of_decide_eq_true zz5;have q290:(ji18)<(x7_2.length:Int):=of_decide_eq_true zz5;obtain⟨ad290,e290,hx290_0⟩:=Kd.at_int (Kd.R_reads' HO_7.1).2.2 (ji18) p290 q290;cases e290;replace p290:=eq_true p290;replace q290:=eq_true q290;have p291:0<=((ji21):Int):=of_decide_eq_true zz5;have q291:(ji21)<(x8_2.length:Int):=of_decide_eq_true zz5;obtain⟨ad291,e291,hx291_0⟩:=Kd.at_int (Kd.R_reads' HO_8.1).2.2 (ji21) p291 q291;cases e291;replace p291:=eq_true p291;replace q291:=eq_true q291;go_wp2
              repeat(go_quiet (fail);try go_wp2)
              go_meet
              case rel=>exact⟨_,(x7_2),(x8_2),H',⟨by have:=HJ3.1;have:=HK2.1;first|omega|exact Nat.le_refl _⟩,⟨zR HO_7.1⟩,⟨zR HO_8.1⟩,⟨zz0⟩⟩
            ·rw[if_neg c23]at H
             exact absurd H zz6
           ·rw[if_neg c22]at H
            exact absurd H zz6
          ·rw[if_neg c20]at H
           exact absurd H zz6
         ·rw[if_neg c19]at H
          exact absurd H zz6
        ·rw[if_neg c17]at H
         have c17b0:decide (1<(x8_2.length:Int))=false:=decide_eq_false c17;have c17b1:decide (1<x8_2.length)=false:=decide_eq_false zz1;clear c17;have H':=Ab H;clear H;obtain⟨Ao37,co37,eo37⟩:=Kd.R_slice HO_7.1;subst eo37;obtain⟨Ao38,co38,eo38⟩:=Kd.R_slice HO_8.1;subst eo38;go_wp2
         repeat(go_quiet (fail);try go_wp2)
         go_meet
         case rel=>exact⟨_,(x7_2),(x8_2),H',⟨by have:=HJ3.1;have:=HK2.1;first|omega|exact Nat.le_refl _⟩,⟨zR HO_7.1⟩,⟨zR HO_8.1⟩,⟨zz0⟩⟩
       ·rw[if_neg c16]at H
        have c16b0:decide (1<(x7_2.length:Int))=false:=decide_eq_false c16;have c16b1:decide (1<x7_2.length)=false:=decide_eq_false zz1;clear c16
        (first|rw[c16b0]|(simp only[k1J,k2G];rw[c16b0])|skip)
        have H':=Ab H;clear H;obtain⟨Ao39,co39,eo39⟩:=Kd.R_slice HO_7.1;subst eo39;go_wp2
        repeat(go_quiet (fail);try go_wp2)
        go_meet
        case rel=>exact⟨_,(x7_2),(x8_2),H',⟨by have:=HJ3.1;have:=HK2.1;first|omega|exact Nat.le_refl _⟩,⟨zR HO_7.1⟩,⟨zR HO_8.1⟩,⟨zz0⟩⟩
    case rest=>
     clear HC13
     try clear c1
     try clear c2
     try clear p2
     try clear q2
     try clear hx2
     try clear c3
     try clear q3
     try clear c6
     try clear p6
     try clear c7
     try clear c7b0
     try clear c8
     try clear c8b0
     try clear c9
     try clear c9b0
     try clear c10
     try clear c16
     try clear c16b0
     try clear c16b1
     try clear c17
     try clear c17b0
     try clear c17b1
     try clear c19
     try clear c19b0
     try clear c20
     try clear c20b0
     try clear c22
     try clear c22b0
     try clear c23
     try clear c23b0
     try clear c24
     try clear c24b0
     try clear c24b1
     try clear c26
     try clear c26b0
     try clear c26b1
     try clear c27
     try clear c27b0
     try clear c27b1
     try clear c29
     try clear c29b0
     try clear c29b1
     try clear p29
     try clear q29
     try clear hx29
     try clear c30
     try clear c30b0
     try clear c30b1
     try clear q33
     try clear q34
     try clear hx290_0
     try clear hx291_0
     try clear p2
     try clear p290
     try clear p291
     try clear q290
     try clear q291
     try clear q33
     try clear q34
     obtain⟨kq,x7_12,x8_12,HA,HJ12,HO_7,HO_8,HB⟩:=hcut;cases kq with
     |zero=>exact absurd HA.1 (by simp[shunterref13_Path.j2])
     |succ kj12=>
      have H:=HA.1;clear HA;simp only[shunterref13_Path.j2]at H;by_cases c40:([]:List Int).length+x7_12.length<17592186044416
      ·rw[if_pos c40]at H
       have LMc40:=Ab c40;clear c40;obtain⟨y298,hy298⟩:∃y_:List Int,y_=(([]:List Int)++x7_12):=⟨_,rfl⟩;replace H:(shunterref13_Path.l1 kj12 x8_12 y298 (wrap64 ((x8_12.length:Int)-2)))=some r:=by first|(rw[hy298];with_reducible exact H)|(have H2_:=(Option.bind_some _ _).symm.trans H;rw[hy298];with_reducible exact H2_)|(have H2_:=(Option.bind_some _ _).symm.trans H;with_reducible exact H2_)|with_reducible exact H|(rw[hy298];exact H)|exact H
       have Ny298:=Ab hy298;clear hy298;have H':=Ab H;clear H;obtain⟨Ao42,co42,eo42⟩:=Kd.R_slice HO_7.1;subst eo42
       go_wp2_with(first|((with_reducible refine k0s (b:=.append) (xs:=#[.tmp 73,.tmp 74]) rfl ?_);(try(refine k0n (by rfl) ?_;dsimp only));at_builtin;refine Kd.R_append_rows (Kd.int .i64) (w0:=w) w.heap.size rfl (.tmp 73) (.tmp 74) 29 3 (.int .i64 0) 8 rfl Tryz.underlying29 k1o rfl zz7 zz1 (.slice none 0 0) ([]:List Int) x7_12 _ _ _ (fun k_=>some k_≠(.slice Ao42 x7_12.length co42:Value).ownBlock/\some k_≠(u8:Value).ownBlock) (fun _=>False) rfl rfl ?aO ?aR (fun _ _ h=>h) (fun _ h=>h.elim) ?aF ?aB ?aS ?aL ?_;(case aR=>exact zz25);(case aB=>exact zz0);(case aF=>exact(fun k_ hk=>⟨Kd.fresh' (Kd.R_lt (zR HO_7.1)) k_ hk,Kd.fresh' (Kd.R_lt (zR HO_8.1)) k_ hk⟩));(case aO=>exact((Kd.R_nil _ _ _ _ (fun k_=>some k_≠(.slice Ao42 x7_12.length co42:Value).ownBlock/\some k_≠(u8:Value).ownBlock))));(case aS=>exact(k0b zz0));(case aL=>have:=LMc40.1;omega);intro v299 w41 ho hb hg hat;rw[<- Ny298.1]at ho;have n0_:=Ab (Kd.R_after (Kd.R_apart_nil (zR HO_7.1)) hg hat);have n1_:=Ab (Kd.R_after (Kd.R_apart_nil (zR HO_8.1)) hg hat);have n2_:=Ab (hb);have n3_:=Ab (ho);clear HO_7;clear HO_8;clear HB;have HO_7:=n0_;have HO_8:=n1_;have HB:=n2_;have HO300:=n3_;clear n0_ n1_ n2_ n3_;clear ho hb hg hat;obtain⟨Ao43,co43,eo43⟩:=Kd.R_slice HO_8.1;subst eo43))
       repeat(go_quiet (first|((with_reducible refine k0s (b:=.append) (xs:=#[.tmp 73,.tmp 74]) rfl ?_);(try(refine k0n (by rfl) ?_;dsimp only));at_builtin;refine Kd.R_append_rows (Kd.int .i64) (w0:=w) w.heap.size rfl (.tmp 73) (.tmp 74) 29 3 (.int .i64 0) 8 rfl Tryz.underlying29 k1o rfl zz7 zz1 (.slice none 0 0) ([]:List Int) x7_12 _ _ _ (fun k_=>some k_≠(.slice Ao42 x7_12.length co42:Value).ownBlock/\some k_≠(u8:Value).ownBlock) (fun _=>False) rfl rfl ?aO ?aR (fun _ _ h=>h) (fun _ h=>h.elim) ?aF ?aB ?aS ?aL ?_;(case aR=>exact zz25);(case aB=>exact zz0);(case aF=>exact(fun k_ hk=>⟨Kd.fresh' (Kd.R_lt (zR HO_7.1)) k_ hk,Kd.fresh' (Kd.R_lt (zR HO_8.1)) k_ hk⟩));(case aO=>exact((Kd.R_nil _ _ _ _ (fun k_=>some k_≠(.slice Ao42 x7_12.length co42:Value).ownBlock/\some k_≠(u8:Value).ownBlock))));(case aS=>exact(k0b zz0));(case aL=>have:=LMc40.1;omega);intro v299 w41 ho hb hg hat;rw[<- Ny298.1]at ho;have n0_:=Ab (Kd.R_after (Kd.R_apart_nil (zR HO_7.1)) hg hat);have n1_:=Ab (Kd.R_after (Kd.R_apart_nil (zR HO_8.1)) hg hat);have n2_:=Ab (hb);have n3_:=Ab (ho);clear HO_7;clear HO_8;clear HB;have HO_7:=n0_;have HO_8:=n1_;have HB:=n2_;have HO300:=n3_;clear n0_ n1_ n2_ n3_;clear ho hb hg hat;obtain⟨Ao43,co43,eo43⟩:=Kd.R_slice HO_8.1;subst eo43));try go_wp2_with(first|((with_reducible refine k0s (b:=.append) (xs:=#[.tmp 73,.tmp 74]) rfl ?_);(try(refine k0n (by rfl) ?_;dsimp only));at_builtin;refine Kd.R_append_rows (Kd.int .i64) (w0:=w) w.heap.size rfl (.tmp 73) (.tmp 74) 29 3 (.int .i64 0) 8 rfl Tryz.underlying29 k1o rfl zz7 zz1 (.slice none 0 0) ([]:List Int) x7_12 _ _ _ (fun k_=>some k_≠(.slice Ao42 x7_12.length co42:Value).ownBlock/\some k_≠(u8:Value).ownBlock) (fun _=>False) rfl rfl ?aO ?aR (fun _ _ h=>h) (fun _ h=>h.elim) ?aF ?aB ?aS ?aL ?_;(case aR=>exact zz25);(case aB=>exact zz0);(case aF=>exact(fun k_ hk=>⟨Kd.fresh' (Kd.R_lt (zR HO_7.1)) k_ hk,Kd.fresh' (Kd.R_lt (zR HO_8.1)) k_ hk⟩));(case aO=>exact((Kd.R_nil _ _ _ _ (fun k_=>some k_≠(.slice Ao42 x7_12.length co42:Value).ownBlock/\some k_≠(u8:Value).ownBlock))));(case aS=>exact(k0b zz0));(case aL=>have:=LMc40.1;omega);intro v299 w41 ho hb hg hat;rw[<- Ny298.1]at ho;have n0_:=Ab (Kd.R_after (Kd.R_apart_nil (zR HO_7.1)) hg hat);have n1_:=Ab (Kd.R_after (Kd.R_apart_nil (zR HO_8.1)) hg hat);have n2_:=Ab (hb);have n3_:=Ab (ho);clear HO_7;clear HO_8;clear HB;have HO_7:=n0_;have HO_8:=n1_;have HB:=n2_;have HO300:=n3_;clear n0_ n1_ n2_ n3_;clear ho hb hg hat;obtain⟨Ao43,co43,eo43⟩:=Kd.R_slice HO_8.1;subst eo43)))
       go_loopg [9,10] kj12 (fun kq v9 v10 w'=>∃(x9_3:List Int)(x10_3:Int),v10=.int .i64 x10_3/\k07 (shunterref13_Path.l1 kq x8_12 x9_3 x10_3=some r)/\k07 (kq<=kj12)/\k07 (Kd.R (Kd.int .i64) 3 w' w.heap.size (fun k_=>some k_≠(v9:Value).ownBlock) (.slice Ao43 x8_12.length co43) x8_12)/\k07 (Kd.R (Kd.int .i64) 3 w' w.heap.size (fun k_=>some k_≠((.slice Ao43 x8_12.length co43):Value).ownBlock) v9 x9_3)/\k07 (Below w.heap.size w w'))
       case atStart=>exact⟨(y298),(wrap64 ((x8_12.length:Int)-2)),zz11,H',⟨Nat.le_refl _⟩,⟨by(with_reducible repeat(first|apply Kd.R_alloc|apply Kd.R_drewN|apply Kd.R_drew));exact Kd.R_mono HO_8.1 (fun _ hk=>hk.2)⟩,⟨by(with_reducible repeat(first|apply Kd.R_alloc|apply Kd.R_drewN|apply Kd.R_drew));exact Kd.R_mono HO300.1 (fun _ hk=>hk.2)⟩,⟨zz0⟩⟩
       case round=>
        clear H'
        try clear c1
        try clear c2
        try clear p2
        try clear q2
        try clear hx2
        try clear c3
        try clear q3
        try clear c4
        try clear c6
        try clear p6
        try clear c7
        try clear c7b0
        try clear c8
        try clear c8b0
        try clear c9
        try clear c9b0
        try clear c10
        try clear c16
        try clear c16b0
        try clear c16b1
        try clear c17
        try clear c17b0
        try clear c17b1
        try clear c19
        try clear c19b0
        try clear c20
        try clear c20b0
        try clear c22
        try clear c22b0
        try clear c23
        try clear c23b0
        try clear c24
        try clear c24b0
        try clear c24b1
        try clear c26
        try clear c26b0
        try clear c26b1
        try clear c27
        try clear c27b0
        try clear c27b1
        try clear c29
        try clear c29b0
        try clear c29b1
        try clear p29
        try clear q29
        try clear hx29
        try clear c30
        try clear c30b0
        try clear c30b1
        try clear q33
        try clear q34
        try clear c40
        try clear hx290_0
        try clear hx291_0
        try clear p2
        try clear p29
        try clear p290
        try clear p291
        try clear p6
        try clear q2
        try clear q29
        try clear q290
        try clear q291
        try clear q3
        try clear q33
        try clear q34
        obtain⟨x9_3,x10_3,rfl,HA,HK3,HO_8,HO_9,HB⟩:=hrel;cases gk with
        |zero=>exact absurd HA.1 (by simp[shunterref13_Path.l1])
        |succ k3=>
         have H:=HA.1;clear HA;simp only[shunterref13_Path.l1]at H;by_cases c44:x10_3 ≥ 0
         ·rw[if_pos c44]at H
          have c44b0:decide (0<=x10_3)=true:=decide_eq_true c44;clear c44;by_cases c45:0<=x10_3
          ·rw[if_pos c45]at H
           have c45b0:decide (0<=x10_3)=true:=decide_eq_true c45;clear c45;by_cases c46:x10_3<(x8_12.length:Int)
           ·rw[if_pos c46]at H
            have c46b0:decide (x10_3<(x8_12.length:Int))=true:=decide_eq_true c46;clear c46;by_cases c47:x9_3.length<17592186044416
            ·rw[if_pos c47]at H
             have LMc47:=Ab c47;clear c47;obtain⟨y302,hy302⟩:∃y_:List Int,y_=(x9_3++[rd x8_12 x10_3]):=⟨_,rfl⟩;replace H:(shunterref13_Path.l1 k3 x8_12 y302 (wrap64 (x10_3-1)))=some r:=by first|(rw[hy302];with_reducible exact H)|(have H2_:=(Option.bind_some _ _).symm.trans H;rw[hy302];with_reducible exact H2_)|(have H2_:=(Option.bind_some _ _).symm.trans H;with_reducible exact H2_)|with_reducible exact H|(rw[hy302];exact H)|exact H
             have Ny302:=Ab hy302;clear hy302;have H':=Ab H;clear H;have p301:0<=(x10_3:Int):=of_decide_eq_true zz5;have q301:x10_3<(x8_12.length:Int):=of_decide_eq_true zz5;obtain⟨ad301,e301,hx301_0⟩:=Kd.at_int (Kd.R_reads' HO_8.1).2.2 x10_3 p301 q301;cases e301;replace p301:=eq_true p301;replace q301:=eq_true q301
             go_wp2_with(first|((with_reducible refine k0s (b:=.append) (xs:=#[.tmp 83,.tmp 88]) rfl ?_);(try(refine k0n (by rfl) ?_;dsimp only));at_builtin;refine Kd.R_append (Kd.int .i64) (w0:=w) w.heap.size rfl (.tmp 83) (.tmp 88) 29 3 (.int .i64 0) 8 rfl Tryz.underlying29 k1o rfl zz7 zz1 u9 x9_3 (rd x8_12 x10_3) [.int .i64 (rd x8_12 x10_3)] (fun k_=>some k_≠(.slice (some ad301) x8_12.length co43:Value).ownBlock) (fun _=>False) rfl rfl ?aP (fun _ hk=>hk.elim) ?aF ?aO ?aB ?aS ?aL ?_;(case aP=>exact rfl);(case aB=>exact zz0);(case aF=>exact(fun k_ hk=>Kd.fresh' (Kd.R_lt (zR HO_8.1)) k_ hk));(case aO=>exact(zR HO_9.1));(case aS=>exact(k0b zz0));(case aL=>have:=LMc47.1;omega);intro v303 w48 ho hb hg hat;rw[<- Ny302.1]at ho;have n0_:=Ab (Kd.R_after (ok:=(fun _=>True)) zz35 hg hat);have n1_:=Ab (hb);have n2_:=Ab (ho);clear HO_8;clear HB;clear HO_9;have HO_8:=n0_;have HB:=n1_;have HO304:=n2_;clear n0_ n1_ n2_;clear ho hb hg hat))
             repeat(go_quiet (first|((with_reducible refine k0s (b:=.append) (xs:=#[.tmp 83,.tmp 88]) rfl ?_);(try(refine k0n (by rfl) ?_;dsimp only));at_builtin;refine Kd.R_append (Kd.int .i64) (w0:=w) w.heap.size rfl (.tmp 83) (.tmp 88) 29 3 (.int .i64 0) 8 rfl Tryz.underlying29 k1o rfl zz7 zz1 u9 x9_3 (rd x8_12 x10_3) [.int .i64 (rd x8_12 x10_3)] (fun k_=>some k_≠(.slice (some ad301) x8_12.length co43:Value).ownBlock) (fun _=>False) rfl rfl ?aP (fun _ hk=>hk.elim) ?aF ?aO ?aB ?aS ?aL ?_;(case aP=>exact rfl);(case aB=>exact zz0);(case aF=>exact(fun k_ hk=>Kd.fresh' (Kd.R_lt (zR HO_8.1)) k_ hk));(case aO=>exact(zR HO_9.1));(case aS=>exact(k0b zz0));(case aL=>have:=LMc47.1;omega);intro v303 w48 ho hb hg hat;rw[<- Ny302.1]at ho;have n0_:=Ab (Kd.R_after (ok:=(fun _=>True)) zz35 hg hat);have n1_:=Ab (hb);have n2_:=Ab (ho);clear HO_8;clear HB;clear HO_9;have HO_8:=n0_;have HB:=n1_;have HO304:=n2_;clear n0_ n1_ n2_;clear ho hb hg hat));try go_wp2_with(first|((with_reducible refine k0s (b:=.append) (xs:=#[.tmp 83,.tmp 88]) rfl ?_);(try(refine k0n (by rfl) ?_;dsimp only));at_builtin;refine Kd.R_append (Kd.int .i64) (w0:=w) w.heap.size rfl (.tmp 83) (.tmp 88) 29 3 (.int .i64 0) 8 rfl Tryz.underlying29 k1o rfl zz7 zz1 u9 x9_3 (rd x8_12 x10_3) [.int .i64 (rd x8_12 x10_3)] (fun k_=>some k_≠(.slice (some ad301) x8_12.length co43:Value).ownBlock) (fun _=>False) rfl rfl ?aP (fun _ hk=>hk.elim) ?aF ?aO ?aB ?aS ?aL ?_;(case aP=>exact rfl);(case aB=>exact zz0);(case aF=>exact(fun k_ hk=>Kd.fresh' (Kd.R_lt (zR HO_8.1)) k_ hk));(case aO=>exact(zR HO_9.1));(case aS=>exact(k0b zz0));(case aL=>have:=LMc47.1;omega);intro v303 w48 ho hb hg hat;rw[<- Ny302.1]at ho;have n0_:=Ab (Kd.R_after (ok:=(fun _=>True)) zz35 hg hat);have n1_:=Ab (hb);have n2_:=Ab (ho);clear HO_8;clear HB;clear HO_9;have HO_8:=n0_;have HB:=n1_;have HO304:=n2_;clear n0_ n1_ n2_;clear ho hb hg hat)))
             go_roundg k3
             case measure=>have:=HJ3.1;have:=HJ12.1;have:=HK3.1;omega
             case rel=>exact⟨(y302),(wrap64 (x10_3-1)),zz11,H',⟨by have:=HJ3.1;have:=HJ12.1;have:=HK3.1;omega⟩,⟨by(with_reducible repeat(first|apply Kd.R_alloc|apply Kd.R_drewN|apply Kd.R_drew));exact Kd.R_mono HO_8.1 (fun _ hk=>hk.2)⟩,⟨zR HO304.1⟩,⟨zz0⟩⟩
            ·rw[if_neg c47]at H
             exact absurd H zz6
           ·rw[if_neg c46]at H
            exact absurd H zz6
          ·rw[if_neg c45]at H
           exact absurd H zz6
         ·rw[if_neg c44]at H
          have c44b0:decide (0<=x10_3)=false:=decide_eq_false c44;clear c44;obtain rfl:=Option.some.inj H;go_wp2
          repeat(go_quiet (fail);try go_wp2)
          go_ret;exact⟨_,zz10,by(with_reducible repeat(first|apply Kd.R_alloc|apply Kd.R_drewN|apply Kd.R_drew));exact Kd.R_mono HO_9.1 (fun _ hk=>trivial),zz0⟩
      ·rw[if_neg c40]at H
       exact absurd H zz6
end Go.Proofs.YtdopmlopafgonaaGreatDoor.PTopQuick
namespace Go.Proofs.YtdopmlopafgonaaGreatDoor.PTopQuick
open Go.RowKit Go.Proofs.YtdopmlopafgonaaGreatDoorW.PrintWords Go.Proofs.YtdopmlopafgonaaGreatDoorW.PrintLast Go.Proofs.YtdopmlopafgonaaGreatDoorW.PrintMore
open Go.Proofs.YtdopmlopafgonaaGreatDoor.Own
attribute [local go_sem] k1c k1j k1u k1N k1b
set_option linter.unusedVariables false
set_option linter.unusedSimpArgs false
attribute [local go_sem high] kbK
def wire_Sound.f(a0_0:Int)(a0_1:Int)(a0_2:Int)(a0_3:Int)(a0_4:Int)(a0_5:Int):Option (Bool):=if a0_0=1 then(if a0_1<3 then(if(mx a0_3 a0_4)<6 then(some (a0_3 != a0_4)) else(some false)) else(some false)) else(if a0_0=2 then(if a0_1<3 then(some (a0_3 == 0 && (a0_4 == 0 && (a0_5 == 0)))) else(some false)) else(if a0_0=3 then(if a0_1<3 then(some (a0_3 == 0 && (a0_4 == 0 && (a0_5 == 0)))) else(some false)) else(some false)))
theorem wire_Sound.calls(a0_0:Int)(a0_1:Int)(a0_2:Int)(a0_3:Int)(a0_4:Int)(a0_5:Int)(r:Bool)(w:World)(h:wire_Sound.f a0_0 a0_1 a0_2 a0_3 a0_4 a0_5=some r) :
 Calls Tryz.prog 116 #[.agg #[.int .u8 a0_0,.int .u8 a0_1,.int .u16 a0_2,.int .u8 a0_3,.int .u8 a0_4,.int .u32 a0_5]] w fun e w'=>e=.returned (.bool r)/\Below w.heap.size w w':=by
 have hu163:=Tryz.underlying163;have HB:=Ab (Below.refl w.heap.size w);have H:(if a0_0=1 then(if a0_1<3 then(if(mx a0_3 a0_4)<6 then(some (a0_3 != a0_4)) else(some false)) else(some false)) else(if a0_0=2 then(if a0_1<3 then(some (a0_3 == 0 && (a0_4 == 0 && (a0_5 == 0)))) else(some false)) else(if a0_0=3 then(if a0_1<3 then(some (a0_3 == 0 && (a0_4 == 0 && (a0_5 == 0)))) else(some false)) else(some false))))=some r:=h;clear h;by_cases c2:a0_0=1
 ·rw[if_pos c2]at H
  have c2b0:(a0_0 == 1)=true:=beq_iff_eq.mpr c2;have c2b1:(a0_0 != 1)=false:=bne_eq_false_iff_eq.mpr c2;clear c2;by_cases c3:a0_1<3
  ·rw[if_pos c3]at H
   have c3b0:decide (a0_1<3)=true:=decide_eq_true c3;clear c3;obtain⟨ji4,hji4⟩:∃j_:Int,(mx a0_3 a0_4)=j_:=⟨_,rfl⟩;replace H:(if(ji4)<6 then(some (a0_3 != a0_4)) else(some false))=some r:=by first|(rw[hji4]at H;exact H)|(simp only[hji4]at H ⊢;exact H)
   have hji4_:(if a0_3<a0_4 then a0_4 else a0_3)=ji4:=hji4;by_cases c5:(ji4)<6
   ·rw[if_pos c5]at H
    have c5b0:decide ((ji4)<6)=true:=decide_eq_true c5;clear c5;obtain rfl:=Option.some.inj H;go_enter Tryz.func116,Tryz.ntmps116
    go_wp2_with(first|((with_reducible refine k1i (N:=1) rfl ?_);(try(refine k0n (by rfl) ?_;dsimp only));refine k1a ?hg (N:=1) ?hd (cs:=#[.int .u8 a0_0,.int .u8 a0_1,.int .u16 a0_2,.int .u8 a0_3,.int .u8 a0_4,.int .u32 a0_5]) (t:=163) ?hr ?_;(case hd=>rfl);(case hg=>rfl);(case hr=>exact zz24);intro gb402 hg w6 hbox hb;have n0_:=Ab (k0t zz0 hb);have n1_:=Ab (hbox);have n2_:=Ab ((by rw[hg];exact(k0b zz0):w.heap.size<=gb402));have n3_:=Ab ((by rw[hg];exact(k0b zz0):w.heap.size<=gb402));clear HB;have HB:=n0_;have BK402:=n1_;have GW402:=n2_;have GE402:=n3_;clear n0_ n1_ n2_ n3_;clear hb hbox hg;have hcz7_0:w6.cell? ⟨gb402,0,none⟩=some (.int .u8 a0_0):=(k00 BK402.1 0).trans rfl;have hcz7_1:w6.cell? ⟨gb402,1,none⟩=some (.int .u8 a0_1):=(k00 BK402.1 1).trans rfl;have hcz7_2:w6.cell? ⟨gb402,2,none⟩=some (.int .u16 a0_2):=(k00 BK402.1 2).trans rfl;have hcz7_3:w6.cell? ⟨gb402,3,none⟩=some (.int .u8 a0_3):=(k00 BK402.1 3).trans rfl;have hcz7_4:w6.cell? ⟨gb402,4,none⟩=some (.int .u8 a0_4):=(k00 BK402.1 4).trans rfl;have hcz7_5:w6.cell? ⟨gb402,5,none⟩=some (.int .u32 a0_5):=(k00 BK402.1 5).trans rfl;have hfz7_0:=k02 BK402.1 0;have hfz7_1:=k02 BK402.1 1;have hfz7_2:=k02 BK402.1 2;have hfz7_3:=k02 BK402.1 3;have hfz7_4:=k02 BK402.1 4;have hfz7_5:=k02 BK402.1 5))
    go_ret;exact⟨zz61,zz8⟩
   ·rw[if_neg c5]at H
    have c5b0:decide ((ji4)<6)=false:=decide_eq_false c5;clear c5;obtain rfl:=Option.some.inj H;go_enter Tryz.func116,Tryz.ntmps116
    go_wp2_with(first|((with_reducible refine k1i (N:=1) rfl ?_);(try(refine k0n (by rfl) ?_;dsimp only));refine k1a ?hg (N:=1) ?hd (cs:=#[.int .u8 a0_0,.int .u8 a0_1,.int .u16 a0_2,.int .u8 a0_3,.int .u8 a0_4,.int .u32 a0_5]) (t:=163) ?hr ?_;(case hd=>rfl);(case hg=>rfl);(case hr=>exact zz24);intro gb402 hg w8 hbox hb;have n0_:=Ab (k0t zz0 hb);have n1_:=Ab (hbox);have n2_:=Ab ((by rw[hg];exact(k0b zz0):w.heap.size<=gb402));have n3_:=Ab ((by rw[hg];exact(k0b zz0):w.heap.size<=gb402));clear HB;have HB:=n0_;have BK402:=n1_;have GW402:=n2_;have GE402:=n3_;clear n0_ n1_ n2_ n3_;clear hb hbox hg;have hcz9_0:w8.cell? ⟨gb402,0,none⟩=some (.int .u8 a0_0):=(k00 BK402.1 0).trans rfl;have hcz9_1:w8.cell? ⟨gb402,1,none⟩=some (.int .u8 a0_1):=(k00 BK402.1 1).trans rfl;have hcz9_2:w8.cell? ⟨gb402,2,none⟩=some (.int .u16 a0_2):=(k00 BK402.1 2).trans rfl;have hcz9_3:w8.cell? ⟨gb402,3,none⟩=some (.int .u8 a0_3):=(k00 BK402.1 3).trans rfl;have hcz9_4:w8.cell? ⟨gb402,4,none⟩=some (.int .u8 a0_4):=(k00 BK402.1 4).trans rfl;have hcz9_5:w8.cell? ⟨gb402,5,none⟩=some (.int .u32 a0_5):=(k00 BK402.1 5).trans rfl;have hfz9_0:=k02 BK402.1 0;have hfz9_1:=k02 BK402.1 1;have hfz9_2:=k02 BK402.1 2;have hfz9_3:=k02 BK402.1 3;have hfz9_4:=k02 BK402.1 4;have hfz9_5:=k02 BK402.1 5))
    go_ret;exact⟨zz61,zz8⟩
  ·rw[if_neg c3]at H
   have c3b0:decide (a0_1<3)=false:=decide_eq_false c3;clear c3;obtain rfl:=Option.some.inj H;go_enter Tryz.func116,Tryz.ntmps116
   go_wp2_with(first|((with_reducible refine k1i (N:=1) rfl ?_);(try(refine k0n (by rfl) ?_;dsimp only));refine k1a ?hg (N:=1) ?hd (cs:=#[.int .u8 a0_0,.int .u8 a0_1,.int .u16 a0_2,.int .u8 a0_3,.int .u8 a0_4,.int .u32 a0_5]) (t:=163) ?hr ?_;(case hd=>rfl);(case hg=>rfl);(case hr=>exact zz24);intro gb402 hg w10 hbox hb;have n0_:=Ab (k0t zz0 hb);have n1_:=Ab (hbox);have n2_:=Ab ((by rw[hg];exact(k0b zz0):w.heap.size<=gb402));have n3_:=Ab ((by rw[hg];exact(k0b zz0):w.heap.size<=gb402));clear HB;have HB:=n0_;have BK402:=n1_;have GW402:=n2_;have GE402:=n3_;clear n0_ n1_ n2_ n3_;clear hb hbox hg;have hcz11_0:w10.cell? ⟨gb402,0,none⟩=some (.int .u8 a0_0):=(k00 BK402.1 0).trans rfl;have hcz11_1:w10.cell? ⟨gb402,1,none⟩=some (.int .u8 a0_1):=(k00 BK402.1 1).trans rfl;have hcz11_2:w10.cell? ⟨gb402,2,none⟩=some (.int .u16 a0_2):=(k00 BK402.1 2).trans rfl;have hcz11_3:w10.cell? ⟨gb402,3,none⟩=some (.int .u8 a0_3):=(k00 BK402.1 3).trans rfl;have hcz11_4:w10.cell? ⟨gb402,4,none⟩=some (.int .u8 a0_4):=(k00 BK402.1 4).trans rfl;have hcz11_5:w10.cell? ⟨gb402,5,none⟩=some (.int .u32 a0_5):=(k00 BK402.1 5).trans rfl;have hfz11_0:=k02 BK402.1 0;have hfz11_1:=k02 BK402.1 1;have hfz11_2:=k02 BK402.1 2;have hfz11_3:=k02 BK402.1 3;have hfz11_4:=k02 BK402.1 4;have hfz11_5:=k02 BK402.1 5))
   go_ret;exact⟨zz10,zz8⟩
 ·rw[if_neg c2]at H
  have c2b0:(a0_0 == 1)=false:=beq_eq_false_iff_ne.mpr c2;have c2b1:(a0_0 != 1)=true:=bne_iff_ne.mpr c2;by_cases c12:a0_0=2
  ·rw[if_pos c12]at H
   have c12b0:(a0_0 == 2)=true:=beq_iff_eq.mpr c12;have c12b1:(a0_0 != 2)=false:=bne_eq_false_iff_eq.mpr c12;clear c12;by_cases c13:a0_1<3
   ·rw[if_pos c13]at H
    have c13b0:decide (a0_1<3)=true:=decide_eq_true c13;clear c13;obtain rfl:=Option.some.inj H;go_enter Tryz.func116,Tryz.ntmps116
    go_wp2_with(first|((with_reducible refine k1i (N:=1) rfl ?_);(try(refine k0n (by rfl) ?_;dsimp only));refine k1a ?hg (N:=1) ?hd (cs:=#[.int .u8 a0_0,.int .u8 a0_1,.int .u16 a0_2,.int .u8 a0_3,.int .u8 a0_4,.int .u32 a0_5]) (t:=163) ?hr ?_;(case hd=>rfl);(case hg=>rfl);(case hr=>exact zz24);intro gb402 hg w14 hbox hb;have n0_:=Ab (k0t zz0 hb);have n1_:=Ab (hbox);have n2_:=Ab ((by rw[hg];exact(k0b zz0):w.heap.size<=gb402));have n3_:=Ab ((by rw[hg];exact(k0b zz0):w.heap.size<=gb402));clear HB;have HB:=n0_;have BK402:=n1_;have GW402:=n2_;have GE402:=n3_;clear n0_ n1_ n2_ n3_;clear hb hbox hg;have hcz15_0:w14.cell? ⟨gb402,0,none⟩=some (.int .u8 a0_0):=(k00 BK402.1 0).trans rfl;have hcz15_1:w14.cell? ⟨gb402,1,none⟩=some (.int .u8 a0_1):=(k00 BK402.1 1).trans rfl;have hcz15_2:w14.cell? ⟨gb402,2,none⟩=some (.int .u16 a0_2):=(k00 BK402.1 2).trans rfl;have hcz15_3:w14.cell? ⟨gb402,3,none⟩=some (.int .u8 a0_3):=(k00 BK402.1 3).trans rfl;have hcz15_4:w14.cell? ⟨gb402,4,none⟩=some (.int .u8 a0_4):=(k00 BK402.1 4).trans rfl;have hcz15_5:w14.cell? ⟨gb402,5,none⟩=some (.int .u32 a0_5):=(k00 BK402.1 5).trans rfl;have hfz15_0:=k02 BK402.1 0;have hfz15_1:=k02 BK402.1 1;have hfz15_2:=k02 BK402.1 2;have hfz15_3:=k02 BK402.1 3;have hfz15_4:=k02 BK402.1 4;have hfz15_5:=k02 BK402.1 5))
    go_ret;exact⟨zz10,zz8⟩
   ·rw[if_neg c13]at H
    have c13b0:decide (a0_1<3)=false:=decide_eq_false c13;clear c13;obtain rfl:=Option.some.inj H;go_enter Tryz.func116,Tryz.ntmps116
    go_wp2_with(first|((with_reducible refine k1i (N:=1) rfl ?_);(try(refine k0n (by rfl) ?_;dsimp only));refine k1a ?hg (N:=1) ?hd (cs:=#[.int .u8 a0_0,.int .u8 a0_1,.int .u16 a0_2,.int .u8 a0_3,.int .u8 a0_4,.int .u32 a0_5]) (t:=163) ?hr ?_;(case hd=>rfl);(case hg=>rfl);(case hr=>exact zz24);intro gb402 hg w16 hbox hb;have n0_:=Ab (k0t zz0 hb);have n1_:=Ab (hbox);have n2_:=Ab ((by rw[hg];exact(k0b zz0):w.heap.size<=gb402));have n3_:=Ab ((by rw[hg];exact(k0b zz0):w.heap.size<=gb402));clear HB;have HB:=n0_;have BK402:=n1_;have GW402:=n2_;have GE402:=n3_;clear n0_ n1_ n2_ n3_;clear hb hbox hg;have hcz17_0:w16.cell? ⟨gb402,0,none⟩=some (.int .u8 a0_0):=(k00 BK402.1 0).trans rfl;have hcz17_1:w16.cell? ⟨gb402,1,none⟩=some (.int .u8 a0_1):=(k00 BK402.1 1).trans rfl;have hcz17_2:w16.cell? ⟨gb402,2,none⟩=some (.int .u16 a0_2):=(k00 BK402.1 2).trans rfl;have hcz17_3:w16.cell? ⟨gb402,3,none⟩=some (.int .u8 a0_3):=(k00 BK402.1 3).trans rfl;have hcz17_4:w16.cell? ⟨gb402,4,none⟩=some (.int .u8 a0_4):=(k00 BK402.1 4).trans rfl;have hcz17_5:w16.cell? ⟨gb402,5,none⟩=some (.int .u32 a0_5):=(k00 BK402.1 5).trans rfl;have hfz17_0:=k02 BK402.1 0;have hfz17_1:=k02 BK402.1 1;have hfz17_2:=k02 BK402.1 2;have hfz17_3:=k02 BK402.1 3;have hfz17_4:=k02 BK402.1 4;have hfz17_5:=k02 BK402.1 5))
    go_ret;exact⟨zz10,zz8⟩
  ·rw[if_neg c12]at H
   have c12b0:(a0_0 == 2)=false:=beq_eq_false_iff_ne.mpr c12;have c12b1:(a0_0 != 2)=true:=bne_iff_ne.mpr c12;by_cases c18:a0_0=3
   ·rw[if_pos c18]at H
    have c18b0:(a0_0 == 3)=true:=beq_iff_eq.mpr c18;have c18b1:(a0_0 != 3)=false:=bne_eq_false_iff_eq.mpr c18;clear c18;by_cases c19:a0_1<3
    ·rw[if_pos c19]at H
     have c19b0:decide (a0_1<3)=true:=decide_eq_true c19;clear c19;obtain rfl:=Option.some.inj H;go_enter Tryz.func116,Tryz.ntmps116
     go_wp2_with(first|((with_reducible refine k1i (N:=1) rfl ?_);(try(refine k0n (by rfl) ?_;dsimp only));refine k1a ?hg (N:=1) ?hd (cs:=#[.int .u8 a0_0,.int .u8 a0_1,.int .u16 a0_2,.int .u8 a0_3,.int .u8 a0_4,.int .u32 a0_5]) (t:=163) ?hr ?_;(case hd=>rfl);(case hg=>rfl);(case hr=>exact zz24);intro gb402 hg w20 hbox hb;have n0_:=Ab (k0t zz0 hb);have n1_:=Ab (hbox);have n2_:=Ab ((by rw[hg];exact(k0b zz0):w.heap.size<=gb402));have n3_:=Ab ((by rw[hg];exact(k0b zz0):w.heap.size<=gb402));clear HB;have HB:=n0_;have BK402:=n1_;have GW402:=n2_;have GE402:=n3_;clear n0_ n1_ n2_ n3_;clear hb hbox hg;have hcz21_0:w20.cell? ⟨gb402,0,none⟩=some (.int .u8 a0_0):=(k00 BK402.1 0).trans rfl;have hcz21_1:w20.cell? ⟨gb402,1,none⟩=some (.int .u8 a0_1):=(k00 BK402.1 1).trans rfl;have hcz21_2:w20.cell? ⟨gb402,2,none⟩=some (.int .u16 a0_2):=(k00 BK402.1 2).trans rfl;have hcz21_3:w20.cell? ⟨gb402,3,none⟩=some (.int .u8 a0_3):=(k00 BK402.1 3).trans rfl;have hcz21_4:w20.cell? ⟨gb402,4,none⟩=some (.int .u8 a0_4):=(k00 BK402.1 4).trans rfl;have hcz21_5:w20.cell? ⟨gb402,5,none⟩=some (.int .u32 a0_5):=(k00 BK402.1 5).trans rfl;have hfz21_0:=k02 BK402.1 0;have hfz21_1:=k02 BK402.1 1;have hfz21_2:=k02 BK402.1 2;have hfz21_3:=k02 BK402.1 3;have hfz21_4:=k02 BK402.1 4;have hfz21_5:=k02 BK402.1 5))
     go_ret;exact⟨zz10,zz8⟩
    ·rw[if_neg c19]at H
     have c19b0:decide (a0_1<3)=false:=decide_eq_false c19;clear c19;obtain rfl:=Option.some.inj H;go_enter Tryz.func116,Tryz.ntmps116
     go_wp2_with(first|((with_reducible refine k1i (N:=1) rfl ?_);(try(refine k0n (by rfl) ?_;dsimp only));refine k1a ?hg (N:=1) ?hd (cs:=#[.int .u8 a0_0,.int .u8 a0_1,.int .u16 a0_2,.int .u8 a0_3,.int .u8 a0_4,.int .u32 a0_5]) (t:=163) ?hr ?_;(case hd=>rfl);(case hg=>rfl);(case hr=>exact zz24);intro gb402 hg w22 hbox hb;have n0_:=Ab (k0t zz0 hb);have n1_:=Ab (hbox);have n2_:=Ab ((by rw[hg];exact(k0b zz0):w.heap.size<=gb402));have n3_:=Ab ((by rw[hg];exact(k0b zz0):w.heap.size<=gb402));clear HB;have HB:=n0_;have BK402:=n1_;have GW402:=n2_;have GE402:=n3_;clear n0_ n1_ n2_ n3_;clear hb hbox hg;have hcz23_0:w22.cell? ⟨gb402,0,none⟩=some (.int .u8 a0_0):=(k00 BK402.1 0).trans rfl;have hcz23_1:w22.cell? ⟨gb402,1,none⟩=some (.int .u8 a0_1):=(k00 BK402.1 1).trans rfl;have hcz23_2:w22.cell? ⟨gb402,2,none⟩=some (.int .u16 a0_2):=(k00 BK402.1 2).trans rfl;have hcz23_3:w22.cell? ⟨gb402,3,none⟩=some (.int .u8 a0_3):=(k00 BK402.1 3).trans rfl;have hcz23_4:w22.cell? ⟨gb402,4,none⟩=some (.int .u8 a0_4):=(k00 BK402.1 4).trans rfl;have hcz23_5:w22.cell? ⟨gb402,5,none⟩=some (.int .u32 a0_5):=(k00 BK402.1 5).trans rfl;have hfz23_0:=k02 BK402.1 0;have hfz23_1:=k02 BK402.1 1;have hfz23_2:=k02 BK402.1 2;have hfz23_3:=k02 BK402.1 3;have hfz23_4:=k02 BK402.1 4;have hfz23_5:=k02 BK402.1 5))
     go_ret;exact⟨zz10,zz8⟩
   ·rw[if_neg c18]at H
    have c18b0:(a0_0 == 3)=false:=beq_eq_false_iff_ne.mpr c18;have c18b1:(a0_0 != 3)=true:=bne_iff_ne.mpr c18;obtain rfl:=Option.some.inj H;go_enter Tryz.func116,Tryz.ntmps116
    go_wp2_with(first|((with_reducible refine k1i (N:=1) rfl ?_);(try(refine k0n (by rfl) ?_;dsimp only));refine k1a ?hg (N:=1) ?hd (cs:=#[.int .u8 a0_0,.int .u8 a0_1,.int .u16 a0_2,.int .u8 a0_3,.int .u8 a0_4,.int .u32 a0_5]) (t:=163) ?hr ?_;(case hd=>rfl);(case hg=>rfl);(case hr=>exact zz24);intro gb402 hg w24 hbox hb;have n0_:=Ab (k0t zz0 hb);have n1_:=Ab (hbox);have n2_:=Ab ((by rw[hg];exact(k0b zz0):w.heap.size<=gb402));have n3_:=Ab ((by rw[hg];exact(k0b zz0):w.heap.size<=gb402));clear HB;have HB:=n0_;have BK402:=n1_;have GW402:=n2_;have GE402:=n3_;clear n0_ n1_ n2_ n3_;clear hb hbox hg;have hcz25_0:w24.cell? ⟨gb402,0,none⟩=some (.int .u8 a0_0):=(k00 BK402.1 0).trans rfl;have hcz25_1:w24.cell? ⟨gb402,1,none⟩=some (.int .u8 a0_1):=(k00 BK402.1 1).trans rfl;have hcz25_2:w24.cell? ⟨gb402,2,none⟩=some (.int .u16 a0_2):=(k00 BK402.1 2).trans rfl;have hcz25_3:w24.cell? ⟨gb402,3,none⟩=some (.int .u8 a0_3):=(k00 BK402.1 3).trans rfl;have hcz25_4:w24.cell? ⟨gb402,4,none⟩=some (.int .u8 a0_4):=(k00 BK402.1 4).trans rfl;have hcz25_5:w24.cell? ⟨gb402,5,none⟩=some (.int .u32 a0_5):=(k00 BK402.1 5).trans rfl;have hfz25_0:=k02 BK402.1 0;have hfz25_1:=k02 BK402.1 1;have hfz25_2:=k02 BK402.1 2;have hfz25_3:=k02 BK402.1 3;have hfz25_4:=k02 BK402.1 4;have hfz25_5:=k02 BK402.1 5))
    go_ret;exact⟨zz10,zz8⟩
def wire_read.l0:Nat->Int->List Int->Int->Int->Option (Int)
 |0,_,_,_,_=>none
 |k+1,x3,x6,x7,x8=>if x8<x7 then(if 0<=x8 then(if x8<(x6.length:Int) then(wire_read.l0 k (Go.bits .or .u32 ((x3*256) % 4294967296) ((rd x6 x8) % 4294967296)) x6 x7 (wrap64 (x8+1))) else(none)) else(none)) else(some x3)
def wire_read.f(k:Nat)(l0:List Int):Option (Int):=wire_read.l0 k 0 l0 (l0.length:Int) 0
theorem wire_read.calls(k:Nat)(A0:Option Addr)(c0:Nat)(l0:List Int)(r:Int)(w:World)(hr0:Kd.C (Kd.int .u8) w A0 l0.length l0)(hc0:l0.length<=c0)(h:wire_read.f k l0=some r) :
 Calls Tryz.prog 133 #[.slice A0 l0.length c0] w fun e w'=>e=.returned (.int .u32 r)/\Drawn0 w w':=by
 have HR0:=Ab hr0;have HC0:=Ab hc0;clear hr0 hc0;have H:(wire_read.l0 k 0 l0 (l0.length:Int) 0)=some r:=h;clear h;have H':=Ab H;clear H;go_enter Tryz.func133,Tryz.ntmps133;go_wp2
 go_loopg [3,8] k (fun kq v3 v8 w'=>∃(x3_1:Int)(x8_1:Int),v3=.int .u32 x3_1/\v8=.int .i64 x8_1/\k07 (wire_read.l0 kq x3_1 l0 (l0.length:Int) x8_1=some r)/\k07 (kq<=k)/\Drawn0 w w')
 case atStart=>exact⟨(0),(0),zz11,zz11,H',⟨Nat.le_refl _⟩,zz18⟩
 case round=>
  clear H'
  try clear c1
  obtain⟨x3_1,x8_1,rfl,rfl,HA,HK1,⟨m1,rfl⟩⟩:=hrel
  cases gk with
  |zero=>exact absurd HA.1 (by simp[wire_read.l0])
  |succ k1=>
   have H:=HA.1;clear HA;simp only[wire_read.l0]at H;by_cases c2:x8_1<(l0.length:Int)
   ·rw[if_pos c2]at H
    have c2b0:decide (x8_1<(l0.length:Int))=true:=decide_eq_true c2;clear c2;by_cases c3:0<=x8_1
    ·rw[if_pos c3]at H
     have c3b0:decide (0<=x8_1)=true:=decide_eq_true c3;clear c3;by_cases c4:x8_1<(l0.length:Int)
     ·rw[if_pos c4]at H
      have c4b0:decide (x8_1<(l0.length:Int))=true:=decide_eq_true c4;clear c4;have H':=Ab H;clear H;have p403:0<=(x8_1:Int):=of_decide_eq_true zz5;have q403:x8_1<(l0.length:Int):=of_decide_eq_true zz5;obtain⟨ad403,e403,hx403_0⟩:=Kd.at_int HR0.1 x8_1 p403 q403;cases e403;replace p403:=eq_true p403;replace q403:=eq_true q403;go_wp2
      go_roundg k1
      case measure=>have:=HK1.1;omega
      case rel=>exact⟨(Go.bits .or .u32 ((x3_1*256) % 4294967296) ((rd l0 x8_1) % 4294967296)),(wrap64 (x8_1+1)),zz11,zz11,H',⟨by have:=HK1.1;omega⟩,zz18⟩
     ·rw[if_neg c4]at H
      exact absurd H zz6
    ·rw[if_neg c3]at H
     exact absurd H zz6
   ·rw[if_neg c2]at H
    have c2b0:decide (x8_1<(l0.length:Int))=false:=decide_eq_false c2;clear c2;obtain rfl:=Option.some.inj H;exact zz90
end Go.Proofs.YtdopmlopafgonaaGreatDoor.PTopQuick
