/- TopOrder: of each flow what came is some of what was injected, in its order (a part of the walks and of the plain laws). -/
import Derived.Test.YtdopmlopafgonaaGreatDoorD0
import Derived.Test.YtdopmlopafgonaaGreatDoorD23
set_option linter.unusedVariables false
set_option linter.unusedSimpArgs false
set_option maxHeartbeats 4000000
set_option maxRecDepth 100000
namespace Go.Proofs.YtdopmlopafgonaaGreatDoor.PTopQuick
open Go.RowKit Go.Proofs.YtdopmlopafgonaaGreatDoorW.PrintWords Go.Proofs.YtdopmlopafgonaaGreatDoorW.PrintLast Go.Proofs.YtdopmlopafgonaaGreatDoorW.PrintMore
open Go.Proofs.YtdopmlopafgonaaGreatDoor.Own
attribute [local go_sem] k1c k1j k1u k1N k1b
set_option linter.unusedVariables false
set_option linter.unusedSimpArgs false
mutual
def rLay.j0:Nat->List Int->Bool->Int->List (S131)->Int->Int->Int->Int->Int->Int->List Int->Int->List (List Int)->Option (Int×(List (S131))×Int×Int×Int×Int×Int×Int×List Int×Int×(List (List Int))×Int)
 |0,_,_,_,_,_,_,_,_,_,_,_,_,_=>none
 |k+1,x1,x20,x306000,x306001,x306002,x306003,x306004,x306005,x306006,x306007,x306008,x306009,x306010=>if x20=true then(some (0,([]:List (S131)),0,0,0,0,0,0,([]:List Int),0,([]:List (List Int)),120)) else(rLay.l0 k x1 (wrap64 ((x1.length:Int)+1)) 1 (wrap64 ((x1.length:Int)+1)) ([]:List (S131)) x306002 x306003 x306004 x306005 x306006 x306007 x306008 x306009 x306010)
def rLay.l0:Nat->List Int->Int->Int->Int->List (S131)->Int->Int->Int->Int->Int->Int->List Int->Int->List (List Int)->Option (Int×(List (S131))×Int×Int×Int×Int×Int×Int×List Int×Int×(List (List Int))×Int)
 |0,_,_,_,_,_,_,_,_,_,_,_,_,_,_=>none
 |k+1,x1,x6,x7,x306000,x306001,x306002,x306003,x306004,x306005,x306006,x306007,x306008,x306009,x306010=>if x7<x6 then(if 0<=(wrap64 (x7-1)) then(if(wrap64 (x7-1))<(x1.length:Int) then(if x306001.length<8796093022208 then(rLay.l0 k x1 x6 (wrap64 (x7+1)) x306000 (x306001++[(⟨rd x1 (wrap64 (x7-1)),x7⟩:S131)]) x306002 x306003 x306004 x306005 x306006 x306007 x306008 x306009 x306010) else(none)) else(none)) else(none)) else(if([]:List Int).length+x306008.length<17592186044416 then(rLay.l1 k x1 x6 0 x306000 x306001 x306002 x306003 x306004 x306005 x306006 x306007 (([]:List Int)++x306008) x306009 ([]:List (List Int))) else(none))
def rLay.l1:Nat->List Int->Int->Int->Int->List (S131)->Int->Int->Int->Int->Int->Int->List Int->Int->List (List Int)->Option (Int×(List (S131))×Int×Int×Int×Int×Int×Int×List Int×Int×(List (List Int))×Int)
 |0,_,_,_,_,_,_,_,_,_,_,_,_,_,_=>none
 |k+1,x1,x6,x9,x306000,x306001,x306002,x306003,x306004,x306005,x306006,x306007,x306008,x306009,x306010=>if x9<x6 then(rLay.l2 k x1 x6 x9 ([]:List Int) 0 x306000 x306001 x306002 x306003 x306004 x306005 x306006 x306007 x306008 x306009 x306010) else(some (x306000,x306001,x306002,x306003,x306004,x306005,x306006,x306007,x306008,x306009,x306010,0))
def rLay.l2:Nat->List Int->Int->Int->List Int->Int->Int->List (S131)->Int->Int->Int->Int->Int->Int->List Int->Int->List (List Int)->Option (Int×(List (S131))×Int×Int×Int×Int×Int×Int×List Int×Int×(List (List Int))×Int)
 |0,_,_,_,_,_,_,_,_,_,_,_,_,_,_,_,_=>none
 |k+1,x1,x6,x9,x10,x11,x306000,x306001,x306002,x306003,x306004,x306005,x306006,x306007,x306008,x306009,x306010=>if x11<x6 then(if x9=x11 then(if x10.length<17592186044416 then(rLay.l2 k x1 x6 x9 (x10++[x9]) (wrap64 (x11+1)) x306000 x306001 x306002 x306003 x306004 x306005 x306006 x306007 x306008 x306009 x306010) else(none)) else((shunterref13_Path.f k x1 x9 x11).bind fun t318=>(if 1<(t318.length:Int) then(if x10.length<17592186044416 then(rLay.l2 k x1 x6 x9 (x10++[rd t318 1]) (wrap64 (x11+1)) x306000 x306001 x306002 x306003 x306004 x306005 x306006 x306007 x306008 x306009 x306010) else(none)) else(none)))) else(if x306010.length<5864062014805 then(rLay.l1 k x1 x6 (wrap64 (x9+1)) x306000 x306001 x306002 x306003 x306004 x306005 x306006 x306007 x306008 x306009 (x306010++[x10])) else(none))
end
def rLay.f(k:Nat)(a0_0:Int)(l0_1:List (S131))(a0_2:Int)(a0_3:Int)(a0_4:Int)(a0_5:Int)(a0_6:Int)(a0_7:Int)(l0_8:List Int)(a0_9:Int)(l0_10:List (List Int))(l1:List Int):Option (Int×(List (S131))×Int×Int×Int×Int×Int×Int×List Int×Int×(List (List Int))×Int):=(shunterref13_right.f k l1).bind fun t307=>(if t307=true then(rLay.j0 k l1 ((l1.length:Int) == 0) a0_0 l0_1 a0_2 a0_3 a0_4 a0_5 a0_6 a0_7 l0_8 a0_9 l0_10) else(rLay.j0 k l1 true a0_0 l0_1 a0_2 a0_3 a0_4 a0_5 a0_6 a0_7 l0_8 a0_9 l0_10))
def rLay.T9:Bool×List (List Nat×List Nat):=(true,[([],[]),([0],[0]),([],[]),([],[]),([3],[3]),([2,4],[2,4]),([5],[5]),([],[]),([6,7],[6,7]),([8],[8]),([1,9],[1,9]),([0,1,2,3,4,5,6,7,8,9,10],[]),([11,10,10,0,1,2,3,4,5,6,7,8,9,10],[10,11])])
def rLay.B9:List Nat:=[0,1,0,0,8,28,60,0,252,508,1023,2047,4095]
theorem rLay.tab9:rtab .any (opsOf Tryz.f40 9)=rLay.T9:=by kernel_rfl
theorem rLay.bits9:k4K rLay.T9.2 rLay.B9=true:=by kernel_rfl
theorem rLay.calls(k:Nat)(a0_0:Int)(A0_1:Option Addr)(c0_1:Nat)(l0_1:List (S131))(a0_2:Int)(a0_3:Int)(a0_4:Int)(a0_5:Int)(a0_6:Int)(a0_7:Int)(A0_8:Option Addr)(c0_8:Nat)(l0_8:List Int)(a0_9:Int)(A0_10:Option Addr)(c0_10:Nat)(l0_10:List (List Int))(A1:Option Addr)(c1:Nat)(l1:List Int)(r1:Int)(r2:List (S131))(r3:Int)(r4:Int)(r5:Int)(r6:Int)(r7:Int)(r8:Int)(r9:List Int)(r10:Int)(r11:List (List Int))(r12:Int)(w:World)(hr0_8:Kd.C (Kd.int .i64) w A0_8 l0_8.length l0_8)(hc0_8:l0_8.length<=c0_8)(hr1:Kd.C (Kd.int .i64) w A1 l1.length l1)(hc1:l1.length<=c1)(h:rLay.f k a0_0 l0_1 a0_2 a0_3 a0_4 a0_5 a0_6 a0_7 l0_8 a0_9 l0_10 l1=some (r1,r2,r3,r4,r5,r6,r7,r8,r9,r10,r11,r12)) :
 Calls Tryz.prog 40 #[.agg #[.int .i64 a0_0,.slice A0_1 l0_1.length c0_1,.int .i64 a0_2,.int .i64 a0_3,.int .i64 a0_4,.int .i64 a0_5,.int .i64 a0_6,.int .i64 a0_7,.slice A0_8 l0_8.length c0_8,.int .u16 a0_9,.slice A0_10 l0_10.length c0_10],.slice A1 l1.length c1] w fun e w'=>∃v1_ v8_ v10_:Value,e=.returned (.tuple #[.agg #[.int .i64 r1,v1_,.int .i64 r3,.int .i64 r4,.int .i64 r5,.int .i64 r6,.int .i64 r7,.int .i64 r8,v8_,.int .u16 r10,v10_],.int .i64 r12])/\Kd.R k131 131 w' w.heap.size (fun _=>True) v1_ r2/\Kd.R (Kd.int .i64) 3 w' w.heap.size (fun _=>True) v8_ r9/\Kd.S (Kd.slice 3 (Kd.int .i64)) 29 w' w.heap.size (fun k_=>some k_≠(v8_:Value).ownBlock) v10_ r11/\Below w.heap.size w w':=by
 have hu32:=Tryz.underlying32;have hu131:=Tryz.underlying131;have HR0_8:=Ab hr0_8;have HC0_8:=Ab hc0_8;clear hr0_8 hc0_8;have HR1:=Ab hr1;have HC1:=Ab hc1;clear hr1 hc1;have HB:=Ab (Below.refl w.heap.size w);have H:((shunterref13_right.f k l1).bind fun t307=>(if t307=true then(rLay.j0 k l1 ((l1.length:Int) == 0) a0_0 l0_1 a0_2 a0_3 a0_4 a0_5 a0_6 a0_7 l0_8 a0_9 l0_10) else(rLay.j0 k l1 true a0_0 l0_1 a0_2 a0_3 a0_4 a0_5 a0_6 a0_7 l0_8 a0_9 l0_10)))=some (r1,r2,r3,r4,r5,r6,r7,r8,r9,r10,r11,r12):=h;clear h;have HC3:=Ab H;clear H;go_enter Tryz.func40,Tryz.ntmps40
 go_upto_region 1 with(first|((with_reducible refine k1i (N:=2) rfl ?_);(try(refine k0n (by rfl) ?_;dsimp only));refine k1a ?hg (N:=2) ?hd (cs:=#[.int .i64 a0_0,.slice A0_1 l0_1.length c0_1,.int .i64 a0_2,.int .i64 a0_3,.int .i64 a0_4,.int .i64 a0_5,.int .i64 a0_6,.int .i64 a0_7,.slice A0_8 l0_8.length c0_8,.int .u16 a0_9,.slice A0_10 l0_10.length c0_10]) (t:=32) ?hr ?_;(case hd=>rfl);(case hg=>rfl);(case hr=>exact zz24);intro gb305 hg w4 hbox hb;have n0_:=Ab (k0t zz0 hb);have n1_:=Ab (hbox);have n2_:=Ab ((by rw[hg];exact(k0b zz0):w.heap.size<=gb305));have n3_:=Ab ((by rw[hg];exact(k0b zz0):w.heap.size<=gb305));clear HB;have HB:=n0_;have BK305:=n1_;have GW305:=n2_;have GE305:=n3_;clear n0_ n1_ n2_ n3_;clear hb hbox hg)|((with_reducible refine k1i (N:=4) rfl ?_);(try(refine k0n (by rfl) ?_;dsimp only));refine k1a ?hg (N:=4) ?hd (cs:=#[.int .i64 0,.slice none 0 0,.int .i64 0,.int .i64 0,.int .i64 0,.int .i64 0,.int .i64 0,.int .i64 0,.slice none 0 0,.int .u16 0,.slice none 0 0]) (t:=32) ?hr ?_;(case hd=>rfl);(case hg=>rfl);(case hr=>exact zz24);intro gb306 hg w5 hbox hb;have n0_:=Ab (k0Z (g:=gb305) (o:=.cells #[.int .i64 a0_0,.slice A0_1 l0_1.length c0_1,.int .i64 a0_2,.int .i64 a0_3,.int .i64 a0_4,.int .i64 a0_5,.int .i64 a0_6,.int .i64 a0_7,.slice A0_8 l0_8.length c0_8,.int .u16 a0_9,.slice A0_10 l0_10.length c0_10] 32 (0,0)) (zB BK305.1) hb);have n1_:=Ab (k0t zz30 hb);have n2_:=Ab (hbox);have n3_:=Ab ((by rw[hg];exact(k0b zz30):w.heap.size<=gb306));have n4_:=Ab ((by rw[hg];exact(k0b zz30):w.heap.size<=gb306));have n5_:=Ab ((by rw[hg];exact Nat.ne_of_lt (k03 (g:=gb305) (o:=.cells #[.int .i64 a0_0,.slice A0_1 l0_1.length c0_1,.int .i64 a0_2,.int .i64 a0_3,.int .i64 a0_4,.int .i64 a0_5,.int .i64 a0_6,.int .i64 a0_7,.slice A0_8 l0_8.length c0_8,.int .u16 a0_9,.slice A0_10 l0_10.length c0_10] 32 (0,0)) (zB BK305.1)):gb305≠gb306));have n6_:=Ab ((by rw[hg];exact Nat.ne_of_gt (k03 (g:=gb305) (o:=.cells #[.int .i64 a0_0,.slice A0_1 l0_1.length c0_1,.int .i64 a0_2,.int .i64 a0_3,.int .i64 a0_4,.int .i64 a0_5,.int .i64 a0_6,.int .i64 a0_7,.slice A0_8 l0_8.length c0_8,.int .u16 a0_9,.slice A0_10 l0_10.length c0_10] 32 (0,0)) (zB BK305.1)):gb306≠gb305));clear BK305;clear HB;have BK305:=n0_;have HB:=n1_;have BK306:=n2_;have GW306:=n3_;have GE306:=n4_;have NB305_306:=n5_;have NB306_305:=n6_;clear n0_ n1_ n2_ n3_ n4_ n5_ n6_;clear hb hbox hg))
 (try simp only[Act.put,List.setIfInBounds_toArray,List.set_cons_zero,List.set_cons_succ])
 go_cut [20] (fun v20 wc=>∃(kq:Nat)(x20_2:Bool),v20=.bool x20_2/\k07 (rLay.j0 kq l1 x20_2 a0_0 l0_1 a0_2 a0_3 a0_4 a0_5 a0_6 a0_7 l0_8 a0_9 l0_10=some (r1,r2,r3,r4,r5,r6,r7,r8,r9,r10,r11,r12))/\k07 (kq<=k)/\k07 (wc.heap[gb305]? = some (.cells #[.int .i64 a0_0,(.slice A0_1 l0_1.length c0_1),.int .i64 a0_2,.int .i64 a0_3,.int .i64 a0_4,.int .i64 a0_5,.int .i64 a0_6,.int .i64 a0_7,(.slice A0_8 l0_8.length c0_8),.int .u16 a0_9,(.slice A0_10 l0_10.length c0_10)] 32 (0,0)))/\k07 (wc.heap[gb306]? = some (.cells #[.int .i64 0,(.slice none 0 0),.int .i64 0,.int .i64 0,.int .i64 0,.int .i64 0,.int .i64 0,.int .i64 0,(.slice none 0 0),.int .u16 0,(.slice none 0 0)] 32 (0,0)))/\k07 (Below w.heap.size w wc))
 case first=>
  have H:=HC3.1;clear HC3;replace H:=Option.bind_eq_some_iff.mp H;obtain⟨t307,A60,H⟩:=H;replace H:(if t307=true then(rLay.j0 k l1 ((l1.length:Int) == 0) a0_0 l0_1 a0_2 a0_3 a0_4 a0_5 a0_6 a0_7 l0_8 a0_9 l0_10) else(rLay.j0 k l1 true a0_0 l0_1 a0_2 a0_3 a0_4 a0_5 a0_6 a0_7 l0_8 a0_9 l0_10))=some (r1,r2,r3,r4,r5,r6,r7,r8,r9,r10,r11,r12):=H;have A6:=Ab A60;clear A60;by_cases c7:t307=true
  ·subst c7
   have H1:(rLay.j0 k l1 ((l1.length:Int) == 0) a0_0 l0_1 a0_2 a0_3 a0_4 a0_5 a0_6 a0_7 l0_8 a0_9 l0_10)=some (r1,r2,r3,r4,r5,r6,r7,r8,r9,r10,r11,r12):=zz106
   clear H;have H:=H1;clear H1;have H':=Ab H;clear H
   go_wp2_with(first|((with_reducible refine k34 (f:=71) rfl ?_);refine k9n (some 14) rfl rfl Tryz.func71 zz2 rfl #[.slice A1 l1.length c1] rfl zz37 ?_;(with_reducible refine(shunterref13_right.calls k _ _ l1 true _ ?side1 ?side2 A6.1).mono ?_);(case side1=>exact zz26);(case side2=>exact HC1.1);rintro e w' ⟨rfl,⟨nd,rfl⟩⟩;refine⟨_,rfl,?_⟩))
   go_meet
   case rel=>exact⟨_,(((l1.length:Int) == 0)),zz11,H',⟨zz50⟩,⟨by(with_reducible repeat(first|refine k0a ?_ _|refine k0c ?_|refine k09 ?_ _));exact BK305.1⟩,⟨by(with_reducible repeat(first|refine k0a ?_ _|refine k0c ?_|refine k09 ?_ _));exact BK306.1⟩,⟨zz3⟩⟩
  ·replace c7:=Bool.eq_false_iff.mpr c7
   subst c7;have H1:(rLay.j0 k l1 true a0_0 l0_1 a0_2 a0_3 a0_4 a0_5 a0_6 a0_7 l0_8 a0_9 l0_10)=some (r1,r2,r3,r4,r5,r6,r7,r8,r9,r10,r11,r12):=by rw[if_neg (show ¬(false=true) by decide)]at H;exact H
   clear H;have H:=H1;clear H1;have H':=Ab H;clear H
   go_wp2_with(first|((with_reducible refine k34 (f:=71) rfl ?_);refine k9n (some 14) rfl rfl Tryz.func71 zz2 rfl #[.slice A1 l1.length c1] rfl zz37 ?_;(with_reducible refine(shunterref13_right.calls k _ _ l1 false _ ?side1 ?side2 A6.1).mono ?_);(case side1=>exact zz26);(case side2=>exact HC1.1);rintro e w' ⟨rfl,⟨nd,rfl⟩⟩;refine⟨_,rfl,?_⟩))
   go_meet
   case rel=>exact⟨_,(true),zz11,H',⟨zz50⟩,⟨by(with_reducible repeat(first|refine k0a ?_ _|refine k0c ?_|refine k09 ?_ _));exact BK305.1⟩,⟨by(with_reducible repeat(first|refine k0a ?_ _|refine k0c ?_|refine k09 ?_ _));exact BK306.1⟩,⟨zz3⟩⟩
 case rest=>
  clear HC3
  try clear c1
  try clear p2
  try clear c4
  try clear c7
  obtain⟨kq,x20_2,rfl,HA,HJ2,BK305,BK306,HB⟩:=hcut
  cases kq with
  |zero=>exact absurd HA.1 (by simp[rLay.j0])
  |succ kj2=>
   have H:=HA.1;clear HA;simp only[rLay.j0]at H;by_cases c8:x20_2=true
   ·subst c8
    have H1:(some (0,([]:List (S131)),0,0,0,0,0,0,([]:List Int),0,([]:List (List Int)),120))=some (r1,r2,r3,r4,r5,r6,r7,r8,r9,r10,r11,r12):=zz106
    clear H;have H:=H1;clear H1;simp only[Option.some.injEq,Prod.mk.injEq]at H;obtain⟨rfl,rfl,rfl,rfl,rfl,rfl,rfl,rfl,rfl,rfl,rfl,rfl⟩:=H;have hnb9:=NB306_305.1;have hnc9:=NB305_306.1;have hcz10_0:wc.cell? ⟨gb306,0,none⟩=some (.int .i64 0):=(k00 BK306.1 0).trans rfl;have hcz10_1:wc.cell? ⟨gb306,1,none⟩=some (.slice none 0 0):=(k00 BK306.1 1).trans rfl;have hcz10_2:wc.cell? ⟨gb306,2,none⟩=some (.int .i64 0):=(k00 BK306.1 2).trans rfl;have hcz10_3:wc.cell? ⟨gb306,3,none⟩=some (.int .i64 0):=(k00 BK306.1 3).trans rfl;have hcz10_4:wc.cell? ⟨gb306,4,none⟩=some (.int .i64 0):=(k00 BK306.1 4).trans rfl;have hcz10_5:wc.cell? ⟨gb306,5,none⟩=some (.int .i64 0):=(k00 BK306.1 5).trans rfl;have hcz10_6:wc.cell? ⟨gb306,6,none⟩=some (.int .i64 0):=(k00 BK306.1 6).trans rfl;have hcz10_7:wc.cell? ⟨gb306,7,none⟩=some (.int .i64 0):=(k00 BK306.1 7).trans rfl;have hcz10_8:wc.cell? ⟨gb306,8,none⟩=some (.slice none 0 0):=(k00 BK306.1 8).trans rfl;have hcz10_9:wc.cell? ⟨gb306,9,none⟩=some (.int .u16 0):=(k00 BK306.1 9).trans rfl;have hcz10_10:wc.cell? ⟨gb306,10,none⟩=some (.slice none 0 0):=(k00 BK306.1 10).trans rfl;have hfz10_0:=k02 BK306.1 0;have hfz10_1:=k02 BK306.1 1;have hfz10_2:=k02 BK306.1 2;have hfz10_3:=k02 BK306.1 3;have hfz10_4:=k02 BK306.1 4;have hfz10_5:=k02 BK306.1 5;have hfz10_6:=k02 BK306.1 6;have hfz10_7:=k02 BK306.1 7;have hfz10_8:=k02 BK306.1 8;have hfz10_9:=k02 BK306.1 9;have hfz10_10:=k02 BK306.1 10;go_wp2;refine bodyPost_ret (k5A rfl _ _ gb306 32 #[.int .i64 0,.slice none 0 0,.int .i64 0,.int .i64 0,.int .i64 0,.int .i64 0,.int .i64 0,.int .i64 0,.slice none 0 0,.int .u16 0,.slice none 0 0] (0,0) _ rfl (by(with_reducible repeat(first|refine k0a ?_ _|refine k0c ?_|refine k09 ?_ _));refine k0A (cs:=#[.int .i64 0,.slice none 0 0,.int .i64 0,.int .i64 0,.int .i64 0,.int .i64 0,.int .i64 0,.int .i64 0,.slice none 0 0,.int .u16 0,.slice none 0 0]) ?_ 10 _ rfl;(with_reducible repeat(first|refine k0a ?_ _|refine k0c ?_|refine k09 ?_ _));refine k0A (cs:=#[.int .i64 0,.slice none 0 0,.int .i64 0,.int .i64 0,.int .i64 0,.int .i64 0,.int .i64 0,.int .i64 0,.slice none 0 0,.int .u16 0,.slice none 0 0]) ?_ 9 _ rfl;(with_reducible repeat(first|refine k0a ?_ _|refine k0c ?_|refine k09 ?_ _));refine k0A (cs:=#[.int .i64 0,.slice none 0 0,.int .i64 0,.int .i64 0,.int .i64 0,.int .i64 0,.int .i64 0,.int .i64 0,.slice none 0 0,.int .u16 0,.slice none 0 0]) ?_ 8 _ rfl;(with_reducible repeat(first|refine k0a ?_ _|refine k0c ?_|refine k09 ?_ _));refine k0A (cs:=#[.int .i64 0,.slice none 0 0,.int .i64 0,.int .i64 0,.int .i64 0,.int .i64 0,.int .i64 0,.int .i64 0,.slice none 0 0,.int .u16 0,.slice none 0 0]) ?_ 7 _ rfl;(with_reducible repeat(first|refine k0a ?_ _|refine k0c ?_|refine k09 ?_ _));refine k0A (cs:=#[.int .i64 0,.slice none 0 0,.int .i64 0,.int .i64 0,.int .i64 0,.int .i64 0,.int .i64 0,.int .i64 0,.slice none 0 0,.int .u16 0,.slice none 0 0]) ?_ 6 _ rfl;(with_reducible repeat(first|refine k0a ?_ _|refine k0c ?_|refine k09 ?_ _));refine k0A (cs:=#[.int .i64 0,.slice none 0 0,.int .i64 0,.int .i64 0,.int .i64 0,.int .i64 0,.int .i64 0,.int .i64 0,.slice none 0 0,.int .u16 0,.slice none 0 0]) ?_ 5 _ rfl;(with_reducible repeat(first|refine k0a ?_ _|refine k0c ?_|refine k09 ?_ _));refine k0A (cs:=#[.int .i64 0,.slice none 0 0,.int .i64 0,.int .i64 0,.int .i64 0,.int .i64 0,.int .i64 0,.int .i64 0,.slice none 0 0,.int .u16 0,.slice none 0 0]) ?_ 4 _ rfl;(with_reducible repeat(first|refine k0a ?_ _|refine k0c ?_|refine k09 ?_ _));refine k0A (cs:=#[.int .i64 0,.slice none 0 0,.int .i64 0,.int .i64 0,.int .i64 0,.int .i64 0,.int .i64 0,.int .i64 0,.slice none 0 0,.int .u16 0,.slice none 0 0]) ?_ 3 _ rfl;(with_reducible repeat(first|refine k0a ?_ _|refine k0c ?_|refine k09 ?_ _));refine k0A (cs:=#[.int .i64 0,.slice none 0 0,.int .i64 0,.int .i64 0,.int .i64 0,.int .i64 0,.int .i64 0,.int .i64 0,.slice none 0 0,.int .u16 0,.slice none 0 0]) ?_ 2 _ rfl;(with_reducible repeat(first|refine k0a ?_ _|refine k0c ?_|refine k09 ?_ _));refine k0A (cs:=#[.int .i64 0,.slice none 0 0,.int .i64 0,.int .i64 0,.int .i64 0,.int .i64 0,.int .i64 0,.int .i64 0,.slice none 0 0,.int .u16 0,.slice none 0 0]) ?_ 1 _ rfl;(with_reducible repeat(first|refine k0a ?_ _|refine k0c ?_|refine k09 ?_ _));refine k0A (cs:=#[.int .i64 0,.slice none 0 0,.int .i64 0,.int .i64 0,.int .i64 0,.int .i64 0,.int .i64 0,.int .i64 0,.slice none 0 0,.int .u16 0,.slice none 0 0]) ?_ 0 _ rfl;(with_reducible repeat(first|refine k0a ?_ _|refine k0c ?_|refine k09 ?_ _));exact BK306.1) Tryz.underlying32 rfl zz2) rfl ?_;exact⟨_,_,_,zz10,zz13,zz13,zz70,zz3⟩
   ·replace c8:=Bool.eq_false_iff.mpr c8
    subst c8;have H1:(rLay.l0 kj2 l1 (wrap64 ((l1.length:Int)+1)) 1 (wrap64 ((l1.length:Int)+1)) ([]:List (S131)) a0_2 a0_3 a0_4 a0_5 a0_6 a0_7 l0_8 a0_9 l0_10)=some (r1,r2,r3,r4,r5,r6,r7,r8,r9,r10,r11,r12):=by rw[if_neg (show ¬(false=true) by decide)]at H;exact H
    clear H;have H:=H1;clear H1;have H':=Ab H;clear H;have hnb11:=NB305_306.1;have hnc11:=NB306_305.1;have hcz12_0:wc.cell? ⟨gb305,0,none⟩=some (.int .i64 a0_0):=(k00 BK305.1 0).trans rfl;have hcz12_1:wc.cell? ⟨gb305,1,none⟩=some (.slice A0_1 l0_1.length c0_1):=(k00 BK305.1 1).trans rfl;have hcz12_2:wc.cell? ⟨gb305,2,none⟩=some (.int .i64 a0_2):=(k00 BK305.1 2).trans rfl;have hcz12_3:wc.cell? ⟨gb305,3,none⟩=some (.int .i64 a0_3):=(k00 BK305.1 3).trans rfl;have hcz12_4:wc.cell? ⟨gb305,4,none⟩=some (.int .i64 a0_4):=(k00 BK305.1 4).trans rfl;have hcz12_5:wc.cell? ⟨gb305,5,none⟩=some (.int .i64 a0_5):=(k00 BK305.1 5).trans rfl;have hcz12_6:wc.cell? ⟨gb305,6,none⟩=some (.int .i64 a0_6):=(k00 BK305.1 6).trans rfl;have hcz12_7:wc.cell? ⟨gb305,7,none⟩=some (.int .i64 a0_7):=(k00 BK305.1 7).trans rfl;have hcz12_8:wc.cell? ⟨gb305,8,none⟩=some (.slice A0_8 l0_8.length c0_8):=(k00 BK305.1 8).trans rfl;have hcz12_9:wc.cell? ⟨gb305,9,none⟩=some (.int .u16 a0_9):=(k00 BK305.1 9).trans rfl;have hcz12_10:wc.cell? ⟨gb305,10,none⟩=some (.slice A0_10 l0_10.length c0_10):=(k00 BK305.1 10).trans rfl;have hfz12_0:=k02 BK305.1 0;have hfz12_1:=k02 BK305.1 1;have hfz12_2:=k02 BK305.1 2;have hfz12_3:=k02 BK305.1 3;have hfz12_4:=k02 BK305.1 4;have hfz12_5:=k02 BK305.1 5;have hfz12_6:=k02 BK305.1 6;have hfz12_7:=k02 BK305.1 7;have hfz12_8:=k02 BK305.1 8;have hfz12_9:=k02 BK305.1 9;have hfz12_10:=k02 BK305.1 10;go_wp2
    go_loopg [7] kj2 (fun kq v7 w'=>∃(x7_2:Int)(x306001_2:List (S131))(u306001:Value),v7=.int .i64 x7_2/\k07 (rLay.l0 kq l1 (wrap64 ((l1.length:Int)+1)) x7_2 (wrap64 ((l1.length:Int)+1)) x306001_2 a0_2 a0_3 a0_4 a0_5 a0_6 a0_7 l0_8 a0_9 l0_10=some (r1,r2,r3,r4,r5,r6,r7,r8,r9,r10,r11,r12))/\k07 (kq<=kj2)/\k07 (Kd.R k131 131 w' w.heap.size (fun _=>True) u306001 x306001_2)/\k07 (w'.heap[gb305]? = some (.cells #[.int .i64 (wrap64 ((l1.length:Int)+1)),u306001,.int .i64 a0_2,.int .i64 a0_3,.int .i64 a0_4,.int .i64 a0_5,.int .i64 a0_6,.int .i64 a0_7,(.slice A0_8 l0_8.length c0_8),.int .u16 a0_9,(.slice A0_10 l0_10.length c0_10)] 32 (0,0)))/\k07 (w'.heap[gb306]? = some (.cells #[.int .i64 0,(.slice none 0 0),.int .i64 0,.int .i64 0,.int .i64 0,.int .i64 0,.int .i64 0,.int .i64 0,(.slice none 0 0),.int .u16 0,(.slice none 0 0)] 32 (0,0)))/\k07 (Below w.heap.size w w'))
    case atStart=>exact⟨(1),(([]:List (S131))),(.slice none 0 0),zz11,H',⟨Nat.le_refl _⟩,⟨zz13⟩,⟨by(with_reducible repeat(first|refine k0a ?_ _|refine k0c ?_|refine k09 ?_ _));refine k0A (cs:=#[.int .i64 (wrap64 ((l1.length:Int)+1)),.slice A0_1 l0_1.length c0_1,.int .i64 a0_2,.int .i64 a0_3,.int .i64 a0_4,.int .i64 a0_5,.int .i64 a0_6,.int .i64 a0_7,.slice A0_8 l0_8.length c0_8,.int .u16 a0_9,.slice A0_10 l0_10.length c0_10]) ?_ 1 _ rfl;(with_reducible repeat(first|refine k0a ?_ _|refine k0c ?_|refine k09 ?_ _));refine k0A (cs:=#[.int .i64 a0_0,.slice A0_1 l0_1.length c0_1,.int .i64 a0_2,.int .i64 a0_3,.int .i64 a0_4,.int .i64 a0_5,.int .i64 a0_6,.int .i64 a0_7,.slice A0_8 l0_8.length c0_8,.int .u16 a0_9,.slice A0_10 l0_10.length c0_10]) ?_ 0 _ rfl;(with_reducible repeat(first|refine k0a ?_ _|refine k0c ?_|refine k09 ?_ _));exact BK305.1⟩,⟨by(with_reducible repeat(first|refine k0a ?_ _|refine k0c ?_|refine k09 ?_ _));refine k1d ?_ NB306_305.1 _;(with_reducible repeat(first|refine k0a ?_ _|refine k0c ?_|refine k09 ?_ _));refine k1d ?_ NB306_305.1 _;(with_reducible repeat(first|refine k0a ?_ _|refine k0c ?_|refine k09 ?_ _));exact BK306.1⟩,⟨zz3⟩⟩
    case round=>
     clear H'
     try clear c1
     try clear p2
     try clear c4
     try clear p6
     try clear c7
     try clear c8
     try clear c9
     try clear c11
     try clear hcz10_0
     try clear hcz10_1
     try clear hcz10_10
     try clear hcz10_2
     try clear hcz10_3
     try clear hcz10_4
     try clear hcz10_5
     try clear hcz10_6
     try clear hcz10_7
     try clear hcz10_8
     try clear hcz10_9
     try clear hcz12_0
     try clear hcz12_1
     try clear hcz12_10
     try clear hcz12_2
     try clear hcz12_3
     try clear hcz12_4
     try clear hcz12_5
     try clear hcz12_6
     try clear hcz12_7
     try clear hcz12_8
     try clear hcz12_9
     try clear hfz10_0
     try clear hfz10_1
     try clear hfz10_10
     try clear hfz10_2
     try clear hfz10_3
     try clear hfz10_4
     try clear hfz10_5
     try clear hfz10_6
     try clear hfz10_7
     try clear hfz10_8
     try clear hfz10_9
     try clear hfz12_0
     try clear hfz12_1
     try clear hfz12_10
     try clear hfz12_2
     try clear hfz12_3
     try clear hfz12_4
     try clear hfz12_5
     try clear hfz12_6
     try clear hfz12_7
     try clear hfz12_8
     try clear hfz12_9
     try clear p2
     obtain⟨x7_2,x306001_2,u306001,rfl,HA,HK2,HO_306001,BK305,BK306,HB⟩:=hrel;cases gk with
     |zero=>exact absurd HA.1 (by simp[rLay.l0])
     |succ k2=>
      have H:=HA.1;clear HA;simp only[rLay.l0]at H;by_cases c13:x7_2<(wrap64 ((l1.length:Int)+1))
      ·rw[if_pos c13]at H
       have c13b0:decide (x7_2<(wrap64 ((l1.length:Int)+1)))=true:=decide_eq_true c13;clear c13;obtain⟨ji14,hji14⟩:∃j_:Int,(wrap64 (x7_2-1))=j_:=⟨_,rfl⟩;replace H:(if 0<=(ji14) then(if(ji14)<(l1.length:Int) then(if x306001_2.length<8796093022208 then(rLay.l0 k2 l1 (wrap64 ((l1.length:Int)+1)) (wrap64 (x7_2+1)) (wrap64 ((l1.length:Int)+1)) (x306001_2++[(⟨rd l1 (ji14),x7_2⟩:S131)]) a0_2 a0_3 a0_4 a0_5 a0_6 a0_7 l0_8 a0_9 l0_10) else(none)) else(none)) else(none))=some (r1,r2,r3,r4,r5,r6,r7,r8,r9,r10,r11,r12):=by first|(rw[hji14]at H;exact H)|(simp only[hji14]at H ⊢;exact H)
       have hji14w:(IntKind.i64.wrap (x7_2-1))=ji14:=(k1J _).trans hji14;by_cases c15:0<=(ji14)
       ·rw[if_pos c15]at H
        have c15b0:decide (0<=(ji14))=true:=decide_eq_true c15;clear c15;by_cases c16:(ji14)<(l1.length:Int)
        ·rw[if_pos c16]at H
         have c16b0:decide ((ji14)<(l1.length:Int))=true:=decide_eq_true c16;clear c16;by_cases c17:x306001_2.length<8796093022208
         ·rw[if_pos c17]at H
          have LMc17:=Ab c17;clear c17;obtain⟨y309,hy309⟩:∃y_:List (S131),y_=(x306001_2++[(⟨rd l1 (ji14),x7_2⟩:S131)]):=⟨_,rfl⟩;replace H:(rLay.l0 k2 l1 (wrap64 ((l1.length:Int)+1)) (wrap64 (x7_2+1)) (wrap64 ((l1.length:Int)+1)) y309 a0_2 a0_3 a0_4 a0_5 a0_6 a0_7 l0_8 a0_9 l0_10)=some (r1,r2,r3,r4,r5,r6,r7,r8,r9,r10,r11,r12):=by first|(rw[hy309];with_reducible exact H)|(have H2_:=(Option.bind_some _ _).symm.trans H;rw[hy309];with_reducible exact H2_)|(have H2_:=(Option.bind_some _ _).symm.trans H;with_reducible exact H2_)|with_reducible exact H|(rw[hy309];exact H)|exact H
          have Ny309:=Ab hy309;clear hy309;have H':=Ab H;clear H
          try go_wp2
          have n0_:=Ab (Kd.R_drew HO_306001.1);have n1_:=Ab (k0c BK305.1);have n2_:=Ab (k0c BK306.1);have n3_:=Ab (k1B HB.1);clear HO_306001;clear BK305;clear BK306;clear HB;have HO_306001:=n0_;have BK305:=n1_;have BK306:=n2_;have HB:=n3_;clear n0_ n1_ n2_ n3_;have p308:0<=((ji14):Int):=of_decide_eq_true zz5;have q308:(ji14)<(l1.length:Int):=of_decide_eq_true zz5;obtain⟨ad308,e308,hx308_0⟩:=Kd.at_int HR1.1 (ji14) p308 q308;have hw308_0:=hx308_0;cases e308;replace hx308_0:=(HB.1.cell (World.block_lt_of_cell? w _ hx308_0)).trans hx308_0;replace p308:=eq_true p308;replace q308:=eq_true q308;refine kdl (n:=13) (S:=fun w'=>w'.cell? ⟨gb305,0,none⟩=some (.int .i64 (wrap64 ((l1.length:Int)+1)))/\w'.cell? ⟨gb305,1,none⟩=some (u306001)/\w'.cell? ⟨gb305,2,none⟩=some (.int .i64 a0_2)/\w'.cell? ⟨gb305,3,none⟩=some (.int .i64 a0_3)/\w'.cell? ⟨gb305,4,none⟩=some (.int .i64 a0_4)/\w'.cell? ⟨gb305,5,none⟩=some (.int .i64 a0_5)/\w'.cell? ⟨gb305,6,none⟩=some (.int .i64 a0_6)/\w'.cell? ⟨gb305,7,none⟩=some (.int .i64 a0_7)/\w'.cell? ⟨gb305,8,none⟩=some (.slice A0_8 l0_8.length c0_8)/\w'.cell? ⟨gb305,9,none⟩=some (.int .u16 a0_9)/\w'.cell? ⟨gb305,10,none⟩=some (.slice A0_10 l0_10.length c0_10)/\w'.cell? (ad308.add ((ji14)).toNat)=some (.int .i64 (rd l1 (ji14)))) (ds:=[12]) #[false,false,false,false,false,false,false,false,false,false,false,false,false] zz2 rfl rfl ⟨(k00 BK305.1 0).trans rfl,(k00 BK305.1 1).trans rfl,(k00 BK305.1 2).trans rfl,(k00 BK305.1 3).trans rfl,(k00 BK305.1 4).trans rfl,(k00 BK305.1 5).trans rfl,(k00 BK305.1 6).trans rfl,(k00 BK305.1 7).trans rfl,(k00 BK305.1 8).trans rfl,(k00 BK305.1 9).trans rfl,(k00 BK305.1 10).trans rfl,((HB.1.cell (World.block_lt_of_cell? w _ hw308_0)).trans hw308_0)⟩ (fun hHeld=>?_);refine k9A rLay.tab9 rLay.bits9 (fun HT_ HW_=>?_);generalize wr.drew=w18 at HO_306001 BK305 BK306 HB hx308_0 hHeld ⊢;refine k7b (i:=0) (N:=some 33) (v:=?_) (a':=?_) #[true,false,false,false,false,false,false,false,false,false,false,false,false] rfl rfl (k3Y HT_.1 zz2) (fun _ _ _ h=>h) (Or.inl ⟨by rfl,?_⟩) ?_ ?_;rotate_left
          ·intro w'
           go_simp;exact zz57
          rotate_left
          ·simp only[Act.put,List.setIfInBounds_toArray,List.set_cons_zero,List.set_cons_succ,k1J,k2G]
           rfl
          refine k7b (i:=2) (N:=some 35) (v:=?_) (a':=?_) #[true,false,true,false,false,false,false,false,false,false,false,false,false] rfl rfl (k3Y HT_.1 zz2) (fun _ _ _ h=>h) (Or.inl ⟨by rfl,?_⟩) ?_ ?_;rotate_left
          ·intro w'
           go_simp;exact zz57
          rotate_left
          ·simp only[Act.put,List.setIfInBounds_toArray,List.set_cons_zero,List.set_cons_succ,k1J,k2G]
           rfl
          refine k7b (i:=3) (N:=some 36) (v:=?_) (a':=?_) #[true,false,true,true,false,false,false,false,false,false,false,false,false] rfl rfl (k3Y HT_.1 zz2) (fun _ _ _ h=>h) (Or.inl ⟨by rfl,?_⟩) ?_ ?_;rotate_left
          ·intro w'
           go_simp;exact zz57
          rotate_left
          ·simp only[Act.put,List.setIfInBounds_toArray,List.set_cons_zero,List.set_cons_succ,k1J,k2G]
           rfl
          refine k7b (i:=4) (N:=some 37) (v:=?_) (a':=?_) #[true,false,true,true,true,false,false,false,false,false,false,false,false] rfl rfl (k3Y HT_.1 zz2) (fun _ _ _ h=>h) (Or.inl ⟨by rfl,?_⟩) ?_ ?_;rotate_left
          ·intro w'
           go_simp;exact zz57
          rotate_left
          ·simp only[Act.put,List.setIfInBounds_toArray,List.set_cons_zero,List.set_cons_succ,k1J,k2G]
           rfl
          refine k7b (i:=5) (N:=some 38) (v:=?_) (a':=?_) #[true,false,true,true,true,true,false,false,false,false,false,false,false] rfl rfl (k3Y HT_.1 zz2) (fun _ _ _ h=>h) (Or.inl ⟨by rfl,?_⟩) ?_ ?_;rotate_left
          ·intro w'
           go_simp;exact zz57
          rotate_left
          ·simp only[Act.put,List.setIfInBounds_toArray,List.set_cons_zero,List.set_cons_succ,k1J,k2G]
           rfl
          refine k7b (i:=7) (N:=some 40) (v:=?_) (a':=?_) #[true,false,true,true,true,true,false,true,false,false,false,false,false] rfl rfl (k3Y HT_.1 zz2) (fun _ _ _ h=>h) (Or.inl ⟨by rfl,?_⟩) ?_ ?_;rotate_left
          ·intro w'
           go_simp;exact zz57
          rotate_left
          ·simp only[Act.put,List.setIfInBounds_toArray,List.set_cons_zero,List.set_cons_succ,k1J,k2G]
           rfl
          refine kd2 (i:=1) (N:=some 34) (v:=?_) (a':=?_) #[true,true,true,true,true,true,false,true,false,false,false,false,false] rfl rfl (k7M HT_.1 HW_.1 zz2) (fun _ _ _ h=>h) (Or.inl ⟨by rfl,?_⟩) hHeld ?_ ?_;rotate_left
          ·rintro w' ⟨s0,s1,s2,s3,s4,s5,s6,s7,s8,s9,s10,s11⟩
           go_simp;exact zz57
          rotate_left
          ·simp only[Act.put,List.setIfInBounds_toArray,List.set_cons_zero,List.set_cons_succ,k1J,k2G]
           rfl
          refine kd2 (i:=6) (N:=some 39) (v:=?_) (a':=?_) #[true,true,true,true,true,true,true,true,false,false,false,false,false] rfl rfl (k7M HT_.1 HW_.1 zz2) (fun _ _ _ h=>h) (Or.inl ⟨by rfl,?_⟩) hHeld ?_ ?_;rotate_left
          ·rintro w' ⟨s0,s1,s2,s3,s4,s5,s6,s7,s8,s9,s10,s11⟩
           go_simp;exact zz57
          rotate_left
          ·simp only[Act.put,List.setIfInBounds_toArray,List.set_cons_zero,List.set_cons_succ,k1J,k2G]
           rfl
          refine k7b (i:=8) (N:=some 41) (v:=?_) (a':=?_) #[true,true,true,true,true,true,true,true,true,false,false,false,false] rfl rfl (k3Y HT_.1 zz2) (fun _ _ _ h=>h) (Or.inl ⟨by rfl,?_⟩) ?_ ?_;rotate_left
          ·intro w'
           go_simp;exact zz57
          rotate_left
          ·simp only[Act.put,List.setIfInBounds_toArray,List.set_cons_zero,List.set_cons_succ,k1J,k2G]
           rfl
          refine one_ (i:=9) (N:=some 42) #[true,true,true,true,true,true,true,true,true,true,false,false,false] rfl rfl (k9V HT_.1 zz2) zz7 (fun K hK=>?_);refine kd5 (w1:=?_) (v:=?_) (by rfl) rfl ?_ ?_;rotate_left 2
          ·go_simp
           constructor
           ·rfl
           ·rfl
          refine hK.out _ _ ⟨(k00 (k09 BK305.1 _) 0).trans rfl,(k00 (k09 BK305.1 _) 1).trans rfl,(k00 (k09 BK305.1 _) 2).trans rfl,(k00 (k09 BK305.1 _) 3).trans rfl,(k00 (k09 BK305.1 _) 4).trans rfl,(k00 (k09 BK305.1 _) 5).trans rfl,(k00 (k09 BK305.1 _) 6).trans rfl,(k00 (k09 BK305.1 _) 7).trans rfl,(k00 (k09 BK305.1 _) 8).trans rfl,(k00 (k09 BK305.1 _) 9).trans rfl,(k00 (k09 BK305.1 _) 10).trans rfl,(World.cell?_alloc_lt _ _ _ (World.block_lt_of_cell? _ _ (((HB.1.cell (World.block_lt_of_cell? w _ hw308_0)).trans hw308_0)))).trans (((HB.1.cell (World.block_lt_of_cell? w _ hw308_0)).trans hw308_0))⟩ (fun hHeld=>?_);clear hK K;refine kcV (a':=?_) ?_ ?_;rotate_left
          ·show Act.put _ (some 42) _=_
           simp only[Act.put,List.setIfInBounds_toArray,List.set_cons_zero,List.set_cons_succ,k1J,k2G];rfl
          refine one_ (i:=10) (N:=some 43) #[true,true,true,true,true,true,true,true,true,true,true,false,false] rfl rfl (k9V HT_.1 zz2) zz7 (fun K hK=>?_);refine Kd.R_append_step k131 (w0:=w) w.heap.size (by rfl) (.tmp 34) (.tmp 42) 28 131 (.agg #[(.int .i64 0),(.int .i64 0)]) 16 rfl Tryz.underlying28 k5D rfl zz7 zz1 u306001 x306001_2 (⟨rd l1 (ji14),x7_2⟩:S131) [.int .i64 (rd l1 (ji14)),.int .i64 x7_2] (fun _=>True) (fun _=>False) rfl rfl ?aP (fun _ hk=>hk.elim) ?aF ?aO ?aB ?aS ?aL ?_
          (case aP=>exact kaM _ _ _ (⟨rd l1 (ji14),x7_2⟩:S131))
          (case aB=>exact zz3)
          (case aF=>exact(fun _ _=>trivial))
          (case aO=>exact(zR HO_306001.1))
          (case aS=>exact(k0b zz3))
          (case aL=>have:=LMc17.1;omega)
          intro v310 w19 ho hb hg hat;rw[<- Ny309.1]at ho;have n0_:=Ab (k12 (g:=gb305) (o:=.cells #[.int .i64 (wrap64 ((l1.length:Int)+1)),u306001,.int .i64 a0_2,.int .i64 a0_3,.int .i64 a0_4,.int .i64 a0_5,.int .i64 a0_6,.int .i64 a0_7,.slice A0_8 l0_8.length c0_8,.int .u16 a0_9,.slice A0_10 l0_10.length c0_10] 32 (0,0)) (zB BK305.1) hg (Kd.R_ne HO_306001.1 BK305.1 zz7));have n1_:=Ab (k12 (g:=gb306) (o:=.cells #[.int .i64 0,.slice none 0 0,.int .i64 0,.int .i64 0,.int .i64 0,.int .i64 0,.int .i64 0,.int .i64 0,.slice none 0 0,.int .u16 0,.slice none 0 0] 32 (0,0)) (zB BK306.1) hg (Kd.R_ne HO_306001.1 BK306.1 zz7));have n2_:=Ab (hb);have n3_:=Ab (ho);clear BK305;clear BK306;clear HB;clear HO_306001;have BK305:=n0_;have BK306:=n1_;have HB:=n2_;have HO311:=n3_;clear n0_ n1_ n2_ n3_;clear ho hb hg hat;obtain⟨Ao20,co20,eo20⟩:=Kd.R_slice HO311.1
          (first|subst eo20|(injection eo20 with f1_ f2_ f3_;have f4_:=f1_.symm;have f5_:=f3_.symm;clear f1_ f2_ f3_;subst f4_;subst f5_))
          refine hK.out _ _ ⟨(k00 BK305.1 0).trans rfl,(k00 BK305.1 1).trans rfl,(k00 BK305.1 2).trans rfl,(k00 BK305.1 3).trans rfl,(k00 BK305.1 4).trans rfl,(k00 BK305.1 5).trans rfl,(k00 BK305.1 6).trans rfl,(k00 BK305.1 7).trans rfl,(k00 BK305.1 8).trans rfl,(k00 BK305.1 9).trans rfl,(k00 BK305.1 10).trans rfl,((HB.1.cell (World.block_lt_of_cell? w _ hw308_0)).trans hw308_0)⟩ (fun hHeld=>?_);clear hK K;refine kcV (a':=?_) ?_ ?_;rotate_left
          ·show Act.put _ (some 43) _=_
           simp only[Act.put,List.setIfInBounds_toArray,List.set_cons_zero,List.set_cons_succ,k1J,k2G];rfl
          refine k7b (i:=11) (N:=some 44) (v:=?_) (a':=?_) #[true,true,true,true,true,true,true,true,true,true,true,true,false] rfl rfl (k3Y HT_.1 zz2) (fun _ _ _ h=>h) (Or.inl ⟨by rfl,?_⟩) ?_ ?_;rotate_left
          ·intro w'
           go_simp;exact zz57
          rotate_left
          ·simp only[Act.put,List.setIfInBounds_toArray,List.set_cons_zero,List.set_cons_succ,k1J,k2G]
           rfl
          refine last_ (i:=12) (N:=none) #[true,true,true,true,true,true,true,true,true,true,true,true,true] rfl rfl (k9V HT_.1 zz2) zz7 (fun K hK=>?_);have hs21:w19.cell? ⟨gb305,1,none⟩=some (u306001):=(k00 BK305.1 1).trans rfl;have hfs21:=k02 BK305.1 1;have hns21_1:=NB306_305.1;have hms21_1:=NB305_306.1;refine skip_ (w1:=?_) (by rfl) rfl ?_ ?_;rotate_left
          ·go_simp
           rfl
          refine hK.out _ _ ?_;clear hK K;refine done_ (kch HT_.1 zz2) ?_
          try go_wp2
          go_roundg k2
          case measure=>have:=HJ2.1;have:=HK2.1;omega
          case rel=>exact⟨(wrap64 (x7_2+1)),(y309),(.slice Ao20 y309.length co20),zz11,H',⟨by have:=HJ2.1;have:=HK2.1;omega⟩,⟨by(with_reducible repeat(first|apply Kd.R_alloc|apply Kd.R_drewN|apply Kd.R_drew));exact Kd.R_mono (Kd.R_far (p:=⟨gb305,1,none⟩) (Kd.R_types HO311.1 BK305.1 zz7) (fun _ hk=>hk.2) (.slice Ao20 y309.length co20)) (fun _ hk=>trivial)⟩,⟨by(with_reducible repeat(first|refine k0a ?_ _|refine k0c ?_|refine k09 ?_ _));refine k0A (cs:=#[.int .i64 (wrap64 ((l1.length:Int)+1)),u306001,.int .i64 a0_2,.int .i64 a0_3,.int .i64 a0_4,.int .i64 a0_5,.int .i64 a0_6,.int .i64 a0_7,.slice A0_8 l0_8.length c0_8,.int .u16 a0_9,.slice A0_10 l0_10.length c0_10]) ?_ 1 _ rfl;(with_reducible repeat(first|refine k0a ?_ _|refine k0c ?_|refine k09 ?_ _));exact BK305.1⟩,⟨by(with_reducible repeat(first|refine k0a ?_ _|refine k0c ?_|refine k09 ?_ _));refine k1d ?_ NB306_305.1 _;(with_reducible repeat(first|refine k0a ?_ _|refine k0c ?_|refine k09 ?_ _));exact BK306.1⟩,⟨zz3⟩⟩
         ·rw[if_neg c17]at H
          exact absurd H zz6
        ·rw[if_neg c16]at H
         exact absurd H zz6
       ·rw[if_neg c15]at H
        exact absurd H zz6
      ·rw[if_neg c13]at H
       have c13b0:decide (x7_2<(wrap64 ((l1.length:Int)+1)))=false:=decide_eq_false c13;clear c13;by_cases c22:([]:List Int).length+l0_8.length<17592186044416
       ·rw[if_pos c22]at H
        have LMc22:=Ab c22;clear c22;obtain⟨y312,hy312⟩:∃y_:List Int,y_=(([]:List Int)++l0_8):=⟨_,rfl⟩;replace H:(rLay.l1 k2 l1 (wrap64 ((l1.length:Int)+1)) 0 (wrap64 ((l1.length:Int)+1)) x306001_2 a0_2 a0_3 a0_4 a0_5 a0_6 a0_7 y312 a0_9 ([]:List (List Int)))=some (r1,r2,r3,r4,r5,r6,r7,r8,r9,r10,r11,r12):=by first|(rw[hy312];with_reducible exact H)|(have H2_:=(Option.bind_some _ _).symm.trans H;rw[hy312];with_reducible exact H2_)|(have H2_:=(Option.bind_some _ _).symm.trans H;with_reducible exact H2_)|with_reducible exact H|(rw[hy312];exact H)|exact H
        have Ny312:=Ab hy312;clear hy312;have H':=Ab H;clear H;have hnb23:=NB305_306.1;have hnc23:=NB306_305.1;have hcz24_0:wr.cell? ⟨gb305,0,none⟩=some (.int .i64 (wrap64 ((l1.length:Int)+1))):=(k00 BK305.1 0).trans rfl;have hcz24_1:wr.cell? ⟨gb305,1,none⟩=some (u306001):=(k00 BK305.1 1).trans rfl;have hcz24_2:wr.cell? ⟨gb305,2,none⟩=some (.int .i64 a0_2):=(k00 BK305.1 2).trans rfl;have hcz24_3:wr.cell? ⟨gb305,3,none⟩=some (.int .i64 a0_3):=(k00 BK305.1 3).trans rfl;have hcz24_4:wr.cell? ⟨gb305,4,none⟩=some (.int .i64 a0_4):=(k00 BK305.1 4).trans rfl;have hcz24_5:wr.cell? ⟨gb305,5,none⟩=some (.int .i64 a0_5):=(k00 BK305.1 5).trans rfl;have hcz24_6:wr.cell? ⟨gb305,6,none⟩=some (.int .i64 a0_6):=(k00 BK305.1 6).trans rfl;have hcz24_7:wr.cell? ⟨gb305,7,none⟩=some (.int .i64 a0_7):=(k00 BK305.1 7).trans rfl;have hcz24_8:wr.cell? ⟨gb305,8,none⟩=some (.slice A0_8 l0_8.length c0_8):=(k00 BK305.1 8).trans rfl;have hcz24_9:wr.cell? ⟨gb305,9,none⟩=some (.int .u16 a0_9):=(k00 BK305.1 9).trans rfl;have hcz24_10:wr.cell? ⟨gb305,10,none⟩=some (.slice A0_10 l0_10.length c0_10):=(k00 BK305.1 10).trans rfl;have hfz24_0:=k02 BK305.1 0;have hfz24_1:=k02 BK305.1 1;have hfz24_2:=k02 BK305.1 2;have hfz24_3:=k02 BK305.1 3;have hfz24_4:=k02 BK305.1 4;have hfz24_5:=k02 BK305.1 5;have hfz24_6:=k02 BK305.1 6;have hfz24_7:=k02 BK305.1 7;have hfz24_8:=k02 BK305.1 8;have hfz24_9:=k02 BK305.1 9;have hfz24_10:=k02 BK305.1 10
        go_wp2_with(first|((with_reducible refine k0s (b:=.append) (xs:=#[.tmp 45,.tmp 47]) rfl ?_);(try(refine k0n (by rfl) ?_;dsimp only));at_builtin;refine Kd.R_append_rows (Kd.int .i64) (w0:=w) w.heap.size rfl (.tmp 45) (.tmp 47) 29 3 (.int .i64 0) 8 rfl Tryz.underlying29 k1o rfl zz7 zz1 (.slice none 0 0) ([]:List Int) l0_8 _ _ _ (fun _=>True) (fun _=>False) rfl rfl ?aO ?aR (fun _ _ h=>h) (fun _ h=>h.elim) ?aF ?aB ?aS ?aL ?_;(case aR=>repeat(first|exact(Kd.C_below HR0_8.1 HB.1)|(with_reducible refine Kd.C_alloc ?_ _)|(with_reducible refine Kd.C_drewN ?_ _)|(with_reducible refine Kd.C_drew ?_)));(case aB=>exact zz3);(case aF=>exact(fun _ _=>trivial));(case aO=>exact((Kd.R_nil _ _ _ _ (fun _=>True))));(case aS=>exact(k0b zz3));(case aL=>have:=LMc22.1;omega);intro v313 w25 ho hb hg hat;rw[<- Ny312.1]at ho;have n0_:=Ab (Kd.R_grown (zR HO_306001.1) hg (fun _ _=>by simp[Value.ownBlock]));have n1_:=Ab (k12 (g:=gb305) (o:=.cells #[.int .i64 (wrap64 ((l1.length:Int)+1)),u306001,.int .i64 a0_2,.int .i64 a0_3,.int .i64 a0_4,.int .i64 a0_5,.int .i64 a0_6,.int .i64 a0_7,.slice A0_8 l0_8.length c0_8,.int .u16 a0_9,.slice A0_10 l0_10.length c0_10] 32 (0,0)) (zB BK305.1) hg (by simp[Value.ownBlock]));have n2_:=Ab (k12 (g:=gb306) (o:=.cells #[.int .i64 0,.slice none 0 0,.int .i64 0,.int .i64 0,.int .i64 0,.int .i64 0,.int .i64 0,.int .i64 0,.slice none 0 0,.int .u16 0,.slice none 0 0] 32 (0,0)) (zB BK306.1) hg (by simp[Value.ownBlock]));have n3_:=Ab (hb);have n4_:=Ab (ho);clear HO_306001;clear BK305;clear BK306;clear HB;have HO_306001:=n0_;have BK305:=n1_;have BK306:=n2_;have HB:=n3_;have HO314:=n4_;clear n0_ n1_ n2_ n3_ n4_;clear ho hb hg hat;obtain⟨Ao26,co26,eo26⟩:=Kd.R_slice HO314.1;subst eo26;have hcz27_0:w25.cell? ⟨gb305,0,none⟩=some (.int .i64 (wrap64 ((l1.length:Int)+1))):=(k00 BK305.1 0).trans rfl;have hcz27_1:w25.cell? ⟨gb305,1,none⟩=some (u306001):=(k00 BK305.1 1).trans rfl;have hcz27_2:w25.cell? ⟨gb305,2,none⟩=some (.int .i64 a0_2):=(k00 BK305.1 2).trans rfl;have hcz27_3:w25.cell? ⟨gb305,3,none⟩=some (.int .i64 a0_3):=(k00 BK305.1 3).trans rfl;have hcz27_4:w25.cell? ⟨gb305,4,none⟩=some (.int .i64 a0_4):=(k00 BK305.1 4).trans rfl;have hcz27_5:w25.cell? ⟨gb305,5,none⟩=some (.int .i64 a0_5):=(k00 BK305.1 5).trans rfl;have hcz27_6:w25.cell? ⟨gb305,6,none⟩=some (.int .i64 a0_6):=(k00 BK305.1 6).trans rfl;have hcz27_7:w25.cell? ⟨gb305,7,none⟩=some (.int .i64 a0_7):=(k00 BK305.1 7).trans rfl;have hcz27_8:w25.cell? ⟨gb305,8,none⟩=some (.slice A0_8 l0_8.length c0_8):=(k00 BK305.1 8).trans rfl;have hcz27_9:w25.cell? ⟨gb305,9,none⟩=some (.int .u16 a0_9):=(k00 BK305.1 9).trans rfl;have hcz27_10:w25.cell? ⟨gb305,10,none⟩=some (.slice A0_10 l0_10.length c0_10):=(k00 BK305.1 10).trans rfl;have hfz27_0:=k02 BK305.1 0;have hfz27_1:=k02 BK305.1 1;have hfz27_2:=k02 BK305.1 2;have hfz27_3:=k02 BK305.1 3;have hfz27_4:=k02 BK305.1 4;have hfz27_5:=k02 BK305.1 5;have hfz27_6:=k02 BK305.1 6;have hfz27_7:=k02 BK305.1 7;have hfz27_8:=k02 BK305.1 8;have hfz27_9:=k02 BK305.1 9;have hfz27_10:=k02 BK305.1 10))
        go_loopg [9] k2 (fun kq v9 w'=>∃(x9_3:Int)(x306010_3:List (List Int))(u306010:Value),v9=.int .i64 x9_3/\k07 (rLay.l1 kq l1 (wrap64 ((l1.length:Int)+1)) x9_3 (wrap64 ((l1.length:Int)+1)) x306001_2 a0_2 a0_3 a0_4 a0_5 a0_6 a0_7 y312 a0_9 x306010_3=some (r1,r2,r3,r4,r5,r6,r7,r8,r9,r10,r11,r12))/\k07 (kq<=k2)/\k07 (Kd.R k131 131 w' w.heap.size (fun _=>True) u306001 x306001_2)/\k07 (Kd.R (Kd.int .i64) 3 w' w.heap.size (fun _=>True) (.slice Ao26 y312.length co26) y312)/\k07 (Kd.S (Kd.slice 3 (Kd.int .i64)) 29 w' w.heap.size (fun k_=>some k_≠((.slice Ao26 y312.length co26):Value).ownBlock) u306010 x306010_3)/\k07 (w'.heap[gb305]? = some (.cells #[.int .i64 (wrap64 ((l1.length:Int)+1)),u306001,.int .i64 a0_2,.int .i64 a0_3,.int .i64 a0_4,.int .i64 a0_5,.int .i64 a0_6,.int .i64 a0_7,(.slice Ao26 y312.length co26),.int .u16 a0_9,u306010] 32 (0,0)))/\k07 (w'.heap[gb306]? = some (.cells #[.int .i64 0,(.slice none 0 0),.int .i64 0,.int .i64 0,.int .i64 0,.int .i64 0,.int .i64 0,.int .i64 0,(.slice none 0 0),.int .u16 0,(.slice none 0 0)] 32 (0,0)))/\k07 (Below w.heap.size w w'))
        case atStart=>exact⟨(0),(([]:List (List Int))),(.slice none 0 0),zz11,H',⟨Nat.le_refl _⟩,⟨by(with_reducible repeat(first|apply Kd.R_alloc|apply Kd.R_drewN|apply Kd.R_drew));exact Kd.R_mono (Kd.R_far (p:=⟨gb305,10,none⟩) (Kd.R_far (p:=⟨gb305,8,none⟩) (Kd.R_types HO_306001.1 BK305.1 zz7) (fun _ hk=>hk.2) (.slice Ao26 y312.length co26)) (fun _ hk=>hk.2) (.slice none 0 0)) (fun _ hk=>trivial)⟩,⟨by(with_reducible repeat(first|apply Kd.R_alloc|apply Kd.R_drewN|apply Kd.R_drew));exact Kd.R_mono (Kd.R_far (p:=⟨gb305,10,none⟩) (Kd.R_far (p:=⟨gb305,8,none⟩) (Kd.R_types HO314.1 BK305.1 zz7) (fun _ hk=>hk.2) (.slice Ao26 y312.length co26)) (fun _ hk=>hk.2) (.slice none 0 0)) (fun _ hk=>trivial)⟩,⟨zz70⟩,⟨by(with_reducible repeat(first|refine k0a ?_ _|refine k0c ?_|refine k09 ?_ _));refine k0A (cs:=#[.int .i64 (wrap64 ((l1.length:Int)+1)),u306001,.int .i64 a0_2,.int .i64 a0_3,.int .i64 a0_4,.int .i64 a0_5,.int .i64 a0_6,.int .i64 a0_7,.slice Ao26 y312.length co26,.int .u16 a0_9,.slice A0_10 l0_10.length c0_10]) ?_ 10 _ rfl;(with_reducible repeat(first|refine k0a ?_ _|refine k0c ?_|refine k09 ?_ _));refine k0A (cs:=#[.int .i64 (wrap64 ((l1.length:Int)+1)),u306001,.int .i64 a0_2,.int .i64 a0_3,.int .i64 a0_4,.int .i64 a0_5,.int .i64 a0_6,.int .i64 a0_7,.slice A0_8 l0_8.length c0_8,.int .u16 a0_9,.slice A0_10 l0_10.length c0_10]) ?_ 8 _ rfl;(with_reducible repeat(first|refine k0a ?_ _|refine k0c ?_|refine k09 ?_ _));exact BK305.1⟩,⟨by(with_reducible repeat(first|refine k0a ?_ _|refine k0c ?_|refine k09 ?_ _));refine k1d ?_ NB306_305.1 _;(with_reducible repeat(first|refine k0a ?_ _|refine k0c ?_|refine k09 ?_ _));refine k1d ?_ NB306_305.1 _;(with_reducible repeat(first|refine k0a ?_ _|refine k0c ?_|refine k09 ?_ _));exact BK306.1⟩,⟨zz3⟩⟩
        case round=>
         clear H'
         try clear c1
         try clear c2
         try clear p2
         try clear p3
         try clear q3
         try clear hx3
         try clear c4
         try clear p6
         try clear c7
         try clear c8
         try clear c9
         try clear c11
         try clear c13
         try clear c13b0
         try clear c15
         try clear c15b0
         try clear c16
         try clear c16b0
         try clear c17
         try clear c22
         try clear c23
         try clear hcz10_0
         try clear hcz10_1
         try clear hcz10_10
         try clear hcz10_2
         try clear hcz10_3
         try clear hcz10_4
         try clear hcz10_5
         try clear hcz10_6
         try clear hcz10_7
         try clear hcz10_8
         try clear hcz10_9
         try clear hcz12_0
         try clear hcz12_1
         try clear hcz12_10
         try clear hcz12_2
         try clear hcz12_3
         try clear hcz12_4
         try clear hcz12_5
         try clear hcz12_6
         try clear hcz12_7
         try clear hcz12_8
         try clear hcz12_9
         try clear hcz24_0
         try clear hcz24_1
         try clear hcz24_10
         try clear hcz24_2
         try clear hcz24_3
         try clear hcz24_4
         try clear hcz24_5
         try clear hcz24_6
         try clear hcz24_7
         try clear hcz24_8
         try clear hcz24_9
         try clear hcz27_0
         try clear hcz27_1
         try clear hcz27_10
         try clear hcz27_2
         try clear hcz27_3
         try clear hcz27_4
         try clear hcz27_5
         try clear hcz27_6
         try clear hcz27_7
         try clear hcz27_8
         try clear hcz27_9
         try clear hfz10_0
         try clear hfz10_1
         try clear hfz10_10
         try clear hfz10_2
         try clear hfz10_3
         try clear hfz10_4
         try clear hfz10_5
         try clear hfz10_6
         try clear hfz10_7
         try clear hfz10_8
         try clear hfz10_9
         try clear hfz12_0
         try clear hfz12_1
         try clear hfz12_10
         try clear hfz12_2
         try clear hfz12_3
         try clear hfz12_4
         try clear hfz12_5
         try clear hfz12_6
         try clear hfz12_7
         try clear hfz12_8
         try clear hfz12_9
         try clear hfz24_0
         try clear hfz24_1
         try clear hfz24_10
         try clear hfz24_2
         try clear hfz24_3
         try clear hfz24_4
         try clear hfz24_5
         try clear hfz24_6
         try clear hfz24_7
         try clear hfz24_8
         try clear hfz24_9
         try clear hfz27_0
         try clear hfz27_1
         try clear hfz27_10
         try clear hfz27_2
         try clear hfz27_3
         try clear hfz27_4
         try clear hfz27_5
         try clear hfz27_6
         try clear hfz27_7
         try clear hfz27_8
         try clear hfz27_9
         try clear hx308_0
         try clear p2
         try clear p308
         try clear p6
         try clear q308
         obtain⟨x9_3,x306010_3,u306010,rfl,HA,HK3,HO_306001,HO_306008,HO_306010,BK305,BK306,HB⟩:=hrel;cases gk with
         |zero=>exact absurd HA.1 (by simp[rLay.l1])
         |succ k3=>
          have H:=HA.1;clear HA;simp only[rLay.l1]at H;by_cases c28:x9_3<(wrap64 ((l1.length:Int)+1))
          ·rw[if_pos c28]at H
           have c28b0:decide (x9_3<(wrap64 ((l1.length:Int)+1)))=true:=decide_eq_true c28;clear c28;have H':=Ab H;clear H;go_wp2
           go_loopg [10,11] k3 (fun kq v10 v11 w'=>∃(x10_4:List Int)(x11_4:Int),v11=.int .i64 x11_4/\k07 (rLay.l2 kq l1 (wrap64 ((l1.length:Int)+1)) x9_3 x10_4 x11_4 (wrap64 ((l1.length:Int)+1)) x306001_2 a0_2 a0_3 a0_4 a0_5 a0_6 a0_7 y312 a0_9 x306010_3=some (r1,r2,r3,r4,r5,r6,r7,r8,r9,r10,r11,r12))/\k07 (kq<=k3)/\k07 (Kd.R (Kd.int .i64) 3 w' w.heap.size (fun k_=>some k_≠((.slice Ao26 y312.length co26):Value).ownBlock) v10 x10_4)/\k07 (Kd.R k131 131 w' w.heap.size (fun _=>True) u306001 x306001_2)/\k07 (Kd.R (Kd.int .i64) 3 w' w.heap.size (fun k_=>some k_≠(v10:Value).ownBlock) (.slice Ao26 y312.length co26) y312)/\k07 (Kd.S (Kd.slice 3 (Kd.int .i64)) 29 w' w.heap.size (fun k_=>some k_≠(v10:Value).ownBlock/\some k_≠((.slice Ao26 y312.length co26):Value).ownBlock) u306010 x306010_3)/\k07 (w'.heap[gb305]? = some (.cells #[.int .i64 (wrap64 ((l1.length:Int)+1)),u306001,.int .i64 a0_2,.int .i64 a0_3,.int .i64 a0_4,.int .i64 a0_5,.int .i64 a0_6,.int .i64 a0_7,(.slice Ao26 y312.length co26),.int .u16 a0_9,u306010] 32 (0,0)))/\k07 (w'.heap[gb306]? = some (.cells #[.int .i64 0,(.slice none 0 0),.int .i64 0,.int .i64 0,.int .i64 0,.int .i64 0,.int .i64 0,.int .i64 0,(.slice none 0 0),.int .u16 0,(.slice none 0 0)] 32 (0,0)))/\k07 (Below w.heap.size w w'))
           case atStart=>exact⟨(([]:List Int)),(0),zz11,H',⟨Nat.le_refl _⟩,⟨zz13⟩,⟨zR HO_306001.1⟩,⟨by(with_reducible repeat(first|apply Kd.R_alloc|apply Kd.R_drewN|apply Kd.R_drew));exact Kd.R_mono HO_306008.1 (fun _ hk=>(by simp[Value.ownBlock]))⟩,⟨by(with_reducible repeat(first|apply Kd.S_alloc|apply Kd.S_drewN|apply Kd.S_drew));exact Kd.S_mono HO_306010.1 (fun _ hk=>⟨(by simp[Value.ownBlock]),hk⟩)⟩,⟨by(with_reducible repeat(first|refine k0a ?_ _|refine k0c ?_|refine k09 ?_ _));exact BK305.1⟩,⟨by(with_reducible repeat(first|refine k0a ?_ _|refine k0c ?_|refine k09 ?_ _));exact BK306.1⟩,⟨zz3⟩⟩
           case round=>
            clear H'
            try clear c1
            try clear c2
            try clear p2
            try clear p3
            try clear q3
            try clear hx3
            try clear c4
            try clear p6
            try clear c7
            try clear c8
            try clear c9
            try clear c11
            try clear c13
            try clear c13b0
            try clear c15
            try clear c15b0
            try clear c16
            try clear c16b0
            try clear c17
            try clear c22
            try clear c23
            try clear c28
            try clear c28b0
            try clear hcz10_0
            try clear hcz10_1
            try clear hcz10_10
            try clear hcz10_2
            try clear hcz10_3
            try clear hcz10_4
            try clear hcz10_5
            try clear hcz10_6
            try clear hcz10_7
            try clear hcz10_8
            try clear hcz10_9
            try clear hcz12_0
            try clear hcz12_1
            try clear hcz12_10
            try clear hcz12_2
            try clear hcz12_3
            try clear hcz12_4
            try clear hcz12_5
            try clear hcz12_6
            try clear hcz12_7
            try clear hcz12_8
            try clear hcz12_9
            try clear hcz24_0
            try clear hcz24_1
            try clear hcz24_10
            try clear hcz24_2
            try clear hcz24_3
            try clear hcz24_4
            try clear hcz24_5
            try clear hcz24_6
            try clear hcz24_7
            try clear hcz24_8
            try clear hcz24_9
            try clear hcz27_0
            try clear hcz27_1
            try clear hcz27_10
            try clear hcz27_2
            try clear hcz27_3
            try clear hcz27_4
            try clear hcz27_5
            try clear hcz27_6
            try clear hcz27_7
            try clear hcz27_8
            try clear hcz27_9
            try clear hfz10_0
            try clear hfz10_1
            try clear hfz10_10
            try clear hfz10_2
            try clear hfz10_3
            try clear hfz10_4
            try clear hfz10_5
            try clear hfz10_6
            try clear hfz10_7
            try clear hfz10_8
            try clear hfz10_9
            try clear hfz12_0
            try clear hfz12_1
            try clear hfz12_10
            try clear hfz12_2
            try clear hfz12_3
            try clear hfz12_4
            try clear hfz12_5
            try clear hfz12_6
            try clear hfz12_7
            try clear hfz12_8
            try clear hfz12_9
            try clear hfz24_0
            try clear hfz24_1
            try clear hfz24_10
            try clear hfz24_2
            try clear hfz24_3
            try clear hfz24_4
            try clear hfz24_5
            try clear hfz24_6
            try clear hfz24_7
            try clear hfz24_8
            try clear hfz24_9
            try clear hfz27_0
            try clear hfz27_1
            try clear hfz27_10
            try clear hfz27_2
            try clear hfz27_3
            try clear hfz27_4
            try clear hfz27_5
            try clear hfz27_6
            try clear hfz27_7
            try clear hfz27_8
            try clear hfz27_9
            try clear hx308_0
            try clear p2
            try clear p3
            try clear p308
            try clear p6
            try clear q3
            try clear q308
            obtain⟨x10_4,x11_4,rfl,HA,HK4,HO_10,HO_306001,HO_306008,HO_306010,BK305,BK306,HB⟩:=hrel;cases gk with
            |zero=>exact absurd HA.1 (by simp[rLay.l2])
            |succ k4=>
             have H:=HA.1;clear HA;simp only[rLay.l2]at H;by_cases c29:x11_4<(wrap64 ((l1.length:Int)+1))
             ·rw[if_pos c29]at H
              have c29b0:decide (x11_4<(wrap64 ((l1.length:Int)+1)))=true:=decide_eq_true c29;clear c29;by_cases c30:x9_3=x11_4
              ·rw[if_pos c30]at H
               have c30b0:(x9_3 == x11_4)=true:=beq_iff_eq.mpr c30;have c30b1:(x9_3 != x11_4)=false:=bne_eq_false_iff_eq.mpr c30;clear c30;by_cases c31:x10_4.length<17592186044416
               ·rw[if_pos c31]at H
                have LMc31:=Ab c31;clear c31;obtain⟨y315,hy315⟩:∃y_:List Int,y_=(x10_4++[x9_3]):=⟨_,rfl⟩;replace H:(rLay.l2 k4 l1 (wrap64 ((l1.length:Int)+1)) x9_3 y315 (wrap64 (x11_4+1)) (wrap64 ((l1.length:Int)+1)) x306001_2 a0_2 a0_3 a0_4 a0_5 a0_6 a0_7 y312 a0_9 x306010_3)=some (r1,r2,r3,r4,r5,r6,r7,r8,r9,r10,r11,r12):=by first|(rw[hy315];with_reducible exact H)|(have H2_:=(Option.bind_some _ _).symm.trans H;rw[hy315];with_reducible exact H2_)|(have H2_:=(Option.bind_some _ _).symm.trans H;with_reducible exact H2_)|with_reducible exact H|(rw[hy315];exact H)|exact H
                have Ny315:=Ab hy315;clear hy315;have H':=Ab H;clear H
                go_wp2_with(first|((with_reducible refine k0s (b:=.append) (xs:=#[.tmp 72,.tmp 74]) rfl ?_);(try(refine k0n (by rfl) ?_;dsimp only));at_builtin;refine Kd.R_append (Kd.int .i64) (w0:=w) w.heap.size rfl (.tmp 72) (.tmp 74) 29 3 (.int .i64 0) 8 rfl Tryz.underlying29 k1o rfl zz7 zz1 u10 x10_4 x9_3 [.int .i64 x9_3] (fun k_=>some k_≠(.slice Ao26 y312.length co26:Value).ownBlock) (fun _=>False) rfl rfl ?aP (fun _ hk=>hk.elim) ?aF ?aO ?aB ?aS ?aL ?_;(case aP=>exact rfl);(case aB=>exact zz3);(case aF=>exact(fun k_ hk=>Kd.fresh' (Kd.R_lt (zR HO_306008.1)) k_ hk));(case aO=>exact(zR HO_10.1));(case aS=>exact(k0b zz3));(case aL=>have:=LMc31.1;omega);intro v316 w32 ho hb hg hat;rw[<- Ny315.1]at ho;have n0_:=Ab (Kd.R_over' (zR HO_306001.1) (Kd.R_typed (zR HO_10.1)) zz7 hg);have n1_:=Ab (Kd.R_after (ok:=(fun _=>True)) (by(with_reducible repeat(first|apply Kd.R_alloc|apply Kd.R_drewN|apply Kd.R_drew));exact Kd.R_mono HO_306008.1 (fun _ hk=>⟨trivial,hk⟩)) hg hat);have n2_:=Ab (Kd.S_after (ok:=(fun k_=>some k_≠(.slice Ao26 y312.length co26:Value).ownBlock)) (by(with_reducible repeat(first|apply Kd.S_alloc|apply Kd.S_drewN|apply Kd.S_drew));exact Kd.S_mono HO_306010.1 (fun _ hk=>⟨hk.2,hk.1⟩)) hg hat);have n3_:=Ab (k12 (g:=gb305) (o:=.cells #[.int .i64 (wrap64 ((l1.length:Int)+1)),u306001,.int .i64 a0_2,.int .i64 a0_3,.int .i64 a0_4,.int .i64 a0_5,.int .i64 a0_6,.int .i64 a0_7,.slice Ao26 y312.length co26,.int .u16 a0_9,u306010] 32 (0,0)) (zB BK305.1) hg (Kd.R_ne HO_10.1 BK305.1 zz7));have n4_:=Ab (k12 (g:=gb306) (o:=.cells #[.int .i64 0,.slice none 0 0,.int .i64 0,.int .i64 0,.int .i64 0,.int .i64 0,.int .i64 0,.int .i64 0,.slice none 0 0,.int .u16 0,.slice none 0 0] 32 (0,0)) (zB BK306.1) hg (Kd.R_ne HO_10.1 BK306.1 zz7));have n5_:=Ab (hb);have n6_:=Ab (ho);clear HO_306001;clear HO_306008;clear HO_306010;clear BK305;clear BK306;clear HB;clear HO_10;have HO_306001:=n0_;have HO_306008:=n1_;have HO_306010:=n2_;have BK305:=n3_;have BK306:=n4_;have HB:=n5_;have HO317:=n6_;clear n0_ n1_ n2_ n3_ n4_ n5_ n6_;clear ho hb hg hat))
                go_roundg k4
                case measure=>exact zz85
                case rel=>exact⟨(y315),(wrap64 (x11_4+1)),zz11,H',⟨by have:=HJ2.1;have:=HK2.1;have:=HK3.1;have:=HK4.1;omega⟩,⟨zR HO317.1⟩,⟨zR HO_306001.1⟩,⟨by(with_reducible repeat(first|apply Kd.R_alloc|apply Kd.R_drewN|apply Kd.R_drew));exact Kd.R_mono HO_306008.1 (fun _ hk=>hk.2)⟩,⟨by(with_reducible repeat(first|apply Kd.S_alloc|apply Kd.S_drewN|apply Kd.S_drew));exact Kd.S_mono HO_306010.1 (fun _ hk=>⟨hk.2,hk.1⟩)⟩,⟨by(with_reducible repeat(first|refine k0a ?_ _|refine k0c ?_|refine k09 ?_ _));exact BK305.1⟩,⟨by(with_reducible repeat(first|refine k0a ?_ _|refine k0c ?_|refine k09 ?_ _));exact BK306.1⟩,⟨zz3⟩⟩
               ·rw[if_neg c31]at H
                exact absurd H zz6
              ·rw[if_neg c30]at H
               have c30b0:(x9_3 == x11_4)=false:=beq_eq_false_iff_ne.mpr c30;have c30b1:(x9_3 != x11_4)=true:=bne_iff_ne.mpr c30;replace H:=Option.bind_eq_some_iff.mp H;obtain⟨t318,A330,H⟩:=H;replace H:(if 1<(t318.length:Int) then(if x10_4.length<17592186044416 then(rLay.l2 k4 l1 (wrap64 ((l1.length:Int)+1)) x9_3 (x10_4++[rd t318 1]) (wrap64 (x11_4+1)) (wrap64 ((l1.length:Int)+1)) x306001_2 a0_2 a0_3 a0_4 a0_5 a0_6 a0_7 y312 a0_9 x306010_3) else(none)) else(none))=some (r1,r2,r3,r4,r5,r6,r7,r8,r9,r10,r11,r12):=H;have A33:=Ab A330;clear A330;by_cases c34:1<(t318.length:Int)
               ·rw[if_pos c34]at H
                have c34b0:decide (1<(t318.length:Int))=true:=decide_eq_true c34;have c34b1:decide (1<t318.length)=true:=decide_eq_true zz1;clear c34;by_cases c35:x10_4.length<17592186044416
                ·rw[if_pos c35]at H
                 have LMc35:=Ab c35;clear c35;obtain⟨y322,hy322⟩:∃y_:List Int,y_=(x10_4++[rd t318 1]):=⟨_,rfl⟩;replace H:(rLay.l2 k4 l1 (wrap64 ((l1.length:Int)+1)) x9_3 y322 (wrap64 (x11_4+1)) (wrap64 ((l1.length:Int)+1)) x306001_2 a0_2 a0_3 a0_4 a0_5 a0_6 a0_7 y312 a0_9 x306010_3)=some (r1,r2,r3,r4,r5,r6,r7,r8,r9,r10,r11,r12):=by first|(rw[hy322];with_reducible exact H)|(have H2_:=(Option.bind_some _ _).symm.trans H;rw[hy322];with_reducible exact H2_)|(have H2_:=(Option.bind_some _ _).symm.trans H;with_reducible exact H2_)|with_reducible exact H|(rw[hy322];exact H)|exact H
                 have Ny322:=Ab hy322;clear hy322;have H':=Ab H;clear H
                 go_wp2_with(first|((with_reducible refine k34 (f:=72) rfl ?_);refine k9n (some 69) rfl rfl Tryz.func72 zz2 rfl #[.slice A1 l1.length c1,.int .i64 x9_3,.int .i64 x11_4] rfl zz37 ?_;(with_reducible refine(shunterref13_Path.calls k4 _ _ l1 x9_3 x11_4 t318 _ ?side1 ?side2 A33.1).mono ?_);(case side1=>exact zz26);(case side2=>exact HC1.1);rintro e w36 ⟨v319,rfl,ho0,hb⟩;refine⟨_,rfl,?_⟩;have n0_:=Ab (Kd.R_elder' (zR HO_10.1) (Kd.R_base ho0) hb);have n1_:=Ab (Kd.R_below (zR HO_306001.1) hb);have n2_:=Ab (Kd.R_elder' (zR HO_306008.1) (Kd.R_base ho0) hb);have n3_:=Ab (Kd.S_elder' (zS HO_306010.1) (Kd.R_base ho0) hb);have n4_:=Ab (Kd.R_lower (Kd.R_new' (Kd.R_new' ho0 (Kd.R_lt (zR HO_10.1))) (Kd.R_lt (zR HO_306008.1))) (k0b zz3));have n5_:=Ab (k0Z (g:=gb305) (o:=.cells #[.int .i64 (wrap64 ((l1.length:Int)+1)),u306001,.int .i64 a0_2,.int .i64 a0_3,.int .i64 a0_4,.int .i64 a0_5,.int .i64 a0_6,.int .i64 a0_7,.slice Ao26 y312.length co26,.int .u16 a0_9,u306010] 32 (0,0)) (zB BK305.1) hb);have n6_:=Ab (k0Z (g:=gb306) (o:=.cells #[.int .i64 0,.slice none 0 0,.int .i64 0,.int .i64 0,.int .i64 0,.int .i64 0,.int .i64 0,.int .i64 0,.slice none 0 0,.int .u16 0,.slice none 0 0] 32 (0,0)) (zB BK306.1) hb);have n7_:=Ab (k0t zz3 hb);clear HO_10;clear HO_306001;clear HO_306008;clear HO_306010;clear BK305;clear BK306;clear HB;have HO_10:=n0_;have HO_306001:=n1_;have HO_306008:=n2_;have HO_306010:=n3_;have HO320:=n4_;have BK305:=n5_;have BK306:=n6_;have HB:=n7_;clear n0_ n1_ n2_ n3_ n4_ n5_ n6_ n7_;(try clear hb);(try clear hb2);(try clear hk);(try clear hi);(try clear ho0);obtain⟨Ao37,co37,eo37⟩:=Kd.R_slice HO320.1;subst eo37;have p321:0<=(1:Int):=zz1;have q321:1<(t318.length:Int):=of_decide_eq_true zz5;obtain⟨ad321,e321,hx321_0⟩:=Kd.at_int (Kd.R_reads' HO320.1).2.2 1 p321 q321;cases e321;(try simp only[show(1:Int).toNat=1 from rfl,Nat.reduceMul,Nat.reduceEqDiff,Go.Addr.add,↓reduceIte]at hx321_0);have qi321:(1<t318.length)=True:=eq_true zz1;(try rw[show((1:Int)).toNat=1 from rfl]at hx321_0);replace p321:=eq_true p321;replace q321:=eq_true q321)|((with_reducible refine k0s (b:=.append) (xs:=#[.tmp 72,.tmp 74]) rfl ?_);(try(refine k0n (by rfl) ?_;dsimp only));at_builtin;refine Kd.R_append (Kd.int .i64) (w0:=w) w.heap.size rfl (.tmp 72) (.tmp 74) 29 3 (.int .i64 0) 8 rfl Tryz.underlying29 k1o rfl zz7 zz1 u10 x10_4 (rd t318 1) [.int .i64 (rd t318 1)] (fun k_=>some k_≠(.slice Ao26 y312.length co26:Value).ownBlock/\some k_≠(.slice (some ad321) t318.length co37:Value).ownBlock) (fun _=>False) rfl rfl ?aP (fun _ hk=>hk.elim) ?aF ?aO ?aB ?aS ?aL ?_;(case aP=>exact rfl);(case aB=>exact zz3);(case aF=>exact(fun k_ hk=>⟨Kd.fresh' (Kd.R_lt (zR HO_306008.1)) k_ hk,Kd.fresh' (Kd.R_lt (zR HO320.1)) k_ hk⟩));(case aO=>exact(zR HO_10.1));(case aS=>exact(k0b zz3));(case aL=>have:=LMc35.1;omega);intro v323 w38 ho hb hg hat;rw[<- Ny322.1]at ho;have n0_:=Ab (Kd.R_over' (zR HO_306001.1) (Kd.R_typed (zR HO_10.1)) zz7 hg);have n1_:=Ab (Kd.R_after (ok:=(fun k_=>some k_≠(.slice (some ad321) t318.length co37:Value).ownBlock)) (by(with_reducible repeat(first|apply Kd.R_alloc|apply Kd.R_drewN|apply Kd.R_drew));exact Kd.R_mono HO_306008.1 (fun _ hk=>⟨hk.2,hk.1⟩)) hg hat);have n2_:=Ab (Kd.S_after (ok:=(fun k_=>some k_≠(.slice Ao26 y312.length co26:Value).ownBlock/\some k_≠(.slice (some ad321) t318.length co37:Value).ownBlock)) (by(with_reducible repeat(first|apply Kd.S_alloc|apply Kd.S_drewN|apply Kd.S_drew));exact Kd.S_mono HO_306010.1 (fun _ hk=>⟨⟨hk.1.2,hk.2⟩,hk.1.1⟩)) hg hat);have n3_:=Ab (k12 (g:=gb305) (o:=.cells #[.int .i64 (wrap64 ((l1.length:Int)+1)),u306001,.int .i64 a0_2,.int .i64 a0_3,.int .i64 a0_4,.int .i64 a0_5,.int .i64 a0_6,.int .i64 a0_7,.slice Ao26 y312.length co26,.int .u16 a0_9,u306010] 32 (0,0)) (zB BK305.1) hg (Kd.R_ne HO_10.1 BK305.1 zz7));have n4_:=Ab (k12 (g:=gb306) (o:=.cells #[.int .i64 0,.slice none 0 0,.int .i64 0,.int .i64 0,.int .i64 0,.int .i64 0,.int .i64 0,.int .i64 0,.slice none 0 0,.int .u16 0,.slice none 0 0] 32 (0,0)) (zB BK306.1) hg (Kd.R_ne HO_10.1 BK306.1 zz7));have n5_:=Ab (Kd.R_after (ok:=(fun k_=>some k_≠(.slice Ao26 y312.length co26:Value).ownBlock)) (by(with_reducible repeat(first|apply Kd.R_alloc|apply Kd.R_drewN|apply Kd.R_drew));exact Kd.R_mono HO320.1 (fun _ hk=>⟨hk.2,hk.1.2⟩)) hg hat);have n6_:=Ab (hb);have n7_:=Ab (ho);clear HO_306001;clear HO_306008;clear HO_306010;clear BK305;clear BK306;clear HO320;clear HB;clear HO_10;have HO_306001:=n0_;have HO_306008:=n1_;have HO_306010:=n2_;have BK305:=n3_;have BK306:=n4_;have HO320:=n5_;have HB:=n6_;have HO324:=n7_;clear n0_ n1_ n2_ n3_ n4_ n5_ n6_ n7_;clear ho hb hg hat))
                 go_roundg k4
                 case measure=>exact zz85
                 case rel=>exact⟨(y322),(wrap64 (x11_4+1)),zz11,H',⟨by have:=HJ2.1;have:=HK2.1;have:=HK3.1;have:=HK4.1;omega⟩,⟨by(with_reducible repeat(first|apply Kd.R_alloc|apply Kd.R_drewN|apply Kd.R_drew));exact Kd.R_mono HO324.1 (fun _ hk=>hk.1)⟩,⟨zR HO_306001.1⟩,⟨by(with_reducible repeat(first|apply Kd.R_alloc|apply Kd.R_drewN|apply Kd.R_drew));exact Kd.R_mono HO_306008.1 (fun _ hk=>hk.2)⟩,⟨by(with_reducible repeat(first|apply Kd.S_alloc|apply Kd.S_drewN|apply Kd.S_drew));exact Kd.S_mono HO_306010.1 (fun _ hk=>⟨hk.2,hk.1.1⟩)⟩,⟨by(with_reducible repeat(first|refine k0a ?_ _|refine k0c ?_|refine k09 ?_ _));exact BK305.1⟩,⟨by(with_reducible repeat(first|refine k0a ?_ _|refine k0c ?_|refine k09 ?_ _));exact BK306.1⟩,⟨zz3⟩⟩
                ·rw[if_neg c35]at H
                 exact absurd H zz6
               ·rw[if_neg c34]at H
                exact absurd H zz6
             ·rw[if_neg c29]at H
              have c29b0:decide (x11_4<(wrap64 ((l1.length:Int)+1)))=false:=decide_eq_false c29;clear c29;by_cases c39:x306010_3.length<5864062014805
              ·rw[if_pos c39]at H
               have LMc39:=Ab c39;clear c39;obtain⟨y325,hy325⟩:∃y_:List (List Int),y_=(x306010_3++[x10_4]):=⟨_,rfl⟩;replace H:(rLay.l1 k4 l1 (wrap64 ((l1.length:Int)+1)) (wrap64 (x9_3+1)) (wrap64 ((l1.length:Int)+1)) x306001_2 a0_2 a0_3 a0_4 a0_5 a0_6 a0_7 y312 a0_9 y325)=some (r1,r2,r3,r4,r5,r6,r7,r8,r9,r10,r11,r12):=by first|(rw[hy325];with_reducible exact H)|(have H2_:=(Option.bind_some _ _).symm.trans H;rw[hy325];with_reducible exact H2_)|(have H2_:=(Option.bind_some _ _).symm.trans H;with_reducible exact H2_)|with_reducible exact H|(rw[hy325];exact H)|exact H
               have Ny325:=Ab hy325;clear hy325;have H':=Ab H;clear H;have hnb40:=NB305_306.1;have hnc40:=NB306_305.1;have hcz41_0:wr.cell? ⟨gb305,0,none⟩=some (.int .i64 (wrap64 ((l1.length:Int)+1))):=(k00 BK305.1 0).trans rfl;have hcz41_1:wr.cell? ⟨gb305,1,none⟩=some (u306001):=(k00 BK305.1 1).trans rfl;have hcz41_2:wr.cell? ⟨gb305,2,none⟩=some (.int .i64 a0_2):=(k00 BK305.1 2).trans rfl;have hcz41_3:wr.cell? ⟨gb305,3,none⟩=some (.int .i64 a0_3):=(k00 BK305.1 3).trans rfl;have hcz41_4:wr.cell? ⟨gb305,4,none⟩=some (.int .i64 a0_4):=(k00 BK305.1 4).trans rfl;have hcz41_5:wr.cell? ⟨gb305,5,none⟩=some (.int .i64 a0_5):=(k00 BK305.1 5).trans rfl;have hcz41_6:wr.cell? ⟨gb305,6,none⟩=some (.int .i64 a0_6):=(k00 BK305.1 6).trans rfl;have hcz41_7:wr.cell? ⟨gb305,7,none⟩=some (.int .i64 a0_7):=(k00 BK305.1 7).trans rfl;have hcz41_8:wr.cell? ⟨gb305,8,none⟩=some (.slice Ao26 y312.length co26):=(k00 BK305.1 8).trans rfl;have hcz41_9:wr.cell? ⟨gb305,9,none⟩=some (.int .u16 a0_9):=(k00 BK305.1 9).trans rfl;have hcz41_10:wr.cell? ⟨gb305,10,none⟩=some (u306010):=(k00 BK305.1 10).trans rfl;have hfz41_0:=k02 BK305.1 0;have hfz41_1:=k02 BK305.1 1;have hfz41_2:=k02 BK305.1 2;have hfz41_3:=k02 BK305.1 3;have hfz41_4:=k02 BK305.1 4;have hfz41_5:=k02 BK305.1 5;have hfz41_6:=k02 BK305.1 6;have hfz41_7:=k02 BK305.1 7;have hfz41_8:=k02 BK305.1 8;have hfz41_9:=k02 BK305.1 9;have hfz41_10:=k02 BK305.1 10;obtain⟨Ao43,co43,eo43⟩:=Kd.R_slice HO_10.1;subst eo43
               go_wp2_with(first|((with_reducible refine k0s (b:=.append) (xs:=#[.tmp 77,.tmp 79]) rfl ?_);(try(refine k0n (by rfl) ?_;dsimp only));at_builtin;refine Kd.S_append (Kd.slice 3 (Kd.int .i64)) (w0:=w) w.heap.size rfl (.tmp 77) (.tmp 79) 30 29 (.slice none 0 0) 24 rfl Tryz.underlying30 k7a rfl zz7 zz1 u306010 x306010_3 x10_4 [.slice Ao43 x10_4.length co43] (fun k_=>some k_≠(.slice Ao26 y312.length co26:Value).ownBlock) (fun k_=>some k_=(.slice Ao43 x10_4.length co43:Value).ownBlock) rfl rfl ?aP (fun k_ hk_=>((Kd.R_mono (ok':=fun k_=>((fun k_=>some k_≠(.slice Ao26 y312.length co26:Value).ownBlock)) k_/\some k_≠(u306010:Value).ownBlock) (Kd.R_apart' (HO_10.1) (Kd.S_typed HO_306010.1) zz7) (fun k_ hk=>⟨hk.1,hk.2⟩))).1 k_ hk_.symm) ?aF ?aO ?aB ?aS ?aL ?_;(case aP=>exact Kd.M_row (Kd.R_mono (Kd.R_tight rfl (Kd.R_mono (ok':=fun k_=>((fun k_=>some k_≠(.slice Ao26 y312.length co26:Value).ownBlock)) k_/\some k_≠(u306010:Value).ownBlock) (Kd.R_apart' (HO_10.1) (Kd.S_typed HO_306010.1) zz7) (fun k_ hk=>⟨hk.1,hk.2⟩))) (fun _ h_=>h_)));(case aB=>exact zz3);(case aF=>exact(fun k_ hk=>Kd.fresh' (Kd.R_lt (zR HO_306008.1)) k_ hk));(case aO=>exact(by(with_reducible repeat(first|apply Kd.S_alloc|apply Kd.S_drewN|apply Kd.S_drew));exact Kd.S_mono HO_306010.1 (fun k_ hk=>⟨hk.2,fun e_=>hk.1 e_⟩)));(case aS=>exact(k0b zz3));(case aL=>have:=LMc39.1;omega);intro v326 w42 ho hb hg hat;rw[<- Ny325.1]at ho;have n0_:=Ab (Kd.R_over' (zR HO_306001.1) (Kd.S_typed (zS HO_306010.1)) zz7 hg);have n1_:=Ab (Kd.R_over' (zR HO_306008.1) (Kd.S_typed (zS HO_306010.1)) zz7 hg);have n2_:=Ab (k12 (g:=gb305) (o:=.cells #[.int .i64 (wrap64 ((l1.length:Int)+1)),u306001,.int .i64 a0_2,.int .i64 a0_3,.int .i64 a0_4,.int .i64 a0_5,.int .i64 a0_6,.int .i64 a0_7,.slice Ao26 y312.length co26,.int .u16 a0_9,u306010] 32 (0,0)) (zB BK305.1) hg (Kd.S_ne HO_306010.1 BK305.1 zz7));have n3_:=Ab (k12 (g:=gb306) (o:=.cells #[.int .i64 0,.slice none 0 0,.int .i64 0,.int .i64 0,.int .i64 0,.int .i64 0,.int .i64 0,.int .i64 0,.slice none 0 0,.int .u16 0,.slice none 0 0] 32 (0,0)) (zB BK306.1) hg (Kd.S_ne HO_306010.1 BK306.1 zz7));have n4_:=Ab (hb);have n5_:=Ab (ho);clear HO_306001;clear HO_306008;clear BK305;clear BK306;clear HB;clear HO_306010;clear HO_10;have HO_306001:=n0_;have HO_306008:=n1_;have BK305:=n2_;have BK306:=n3_;have HB:=n4_;have HO327:=n5_;clear n0_ n1_ n2_ n3_ n4_ n5_;clear ho hb hg hat;obtain⟨Ao44,co44,eo44⟩:=Kd.S_slice HO327.1;subst eo44;have hcz45_0:w42.cell? ⟨gb305,0,none⟩=some (.int .i64 (wrap64 ((l1.length:Int)+1))):=(k00 BK305.1 0).trans rfl;have hcz45_1:w42.cell? ⟨gb305,1,none⟩=some (u306001):=(k00 BK305.1 1).trans rfl;have hcz45_2:w42.cell? ⟨gb305,2,none⟩=some (.int .i64 a0_2):=(k00 BK305.1 2).trans rfl;have hcz45_3:w42.cell? ⟨gb305,3,none⟩=some (.int .i64 a0_3):=(k00 BK305.1 3).trans rfl;have hcz45_4:w42.cell? ⟨gb305,4,none⟩=some (.int .i64 a0_4):=(k00 BK305.1 4).trans rfl;have hcz45_5:w42.cell? ⟨gb305,5,none⟩=some (.int .i64 a0_5):=(k00 BK305.1 5).trans rfl;have hcz45_6:w42.cell? ⟨gb305,6,none⟩=some (.int .i64 a0_6):=(k00 BK305.1 6).trans rfl;have hcz45_7:w42.cell? ⟨gb305,7,none⟩=some (.int .i64 a0_7):=(k00 BK305.1 7).trans rfl;have hcz45_8:w42.cell? ⟨gb305,8,none⟩=some (.slice Ao26 y312.length co26):=(k00 BK305.1 8).trans rfl;have hcz45_9:w42.cell? ⟨gb305,9,none⟩=some (.int .u16 a0_9):=(k00 BK305.1 9).trans rfl;have hcz45_10:w42.cell? ⟨gb305,10,none⟩=some (u306010):=(k00 BK305.1 10).trans rfl;have hfz45_0:=k02 BK305.1 0;have hfz45_1:=k02 BK305.1 1;have hfz45_2:=k02 BK305.1 2;have hfz45_3:=k02 BK305.1 3;have hfz45_4:=k02 BK305.1 4;have hfz45_5:=k02 BK305.1 5;have hfz45_6:=k02 BK305.1 6;have hfz45_7:=k02 BK305.1 7;have hfz45_8:=k02 BK305.1 8;have hfz45_9:=k02 BK305.1 9;have hfz45_10:=k02 BK305.1 10))
               go_roundg k4
               case measure=>exact zz85
               case rel=>exact⟨(wrap64 (x9_3+1)),(y325),(.slice Ao44 y325.length co44),zz11,H',⟨by have:=HJ2.1;have:=HK2.1;have:=HK3.1;have:=HK4.1;omega⟩,⟨by(with_reducible repeat(first|apply Kd.R_alloc|apply Kd.R_drewN|apply Kd.R_drew));exact Kd.R_mono (Kd.R_far (p:=⟨gb305,10,none⟩) (Kd.R_types HO_306001.1 BK305.1 zz7) (fun _ hk=>hk.2) (.slice Ao44 y325.length co44)) (fun _ hk=>trivial)⟩,⟨by(with_reducible repeat(first|apply Kd.R_alloc|apply Kd.R_drewN|apply Kd.R_drew));exact Kd.R_mono (Kd.R_far (p:=⟨gb305,10,none⟩) (Kd.R_types HO_306008.1 BK305.1 zz7) (fun _ hk=>hk.2) (.slice Ao44 y325.length co44)) (fun _ hk=>trivial)⟩,⟨by(with_reducible repeat(first|apply Kd.S_alloc|apply Kd.S_drewN|apply Kd.S_drew));exact Kd.S_mono (Kd.S_far (p:=⟨gb305,10,none⟩) (Kd.S_types HO327.1 BK305.1 zz7) (fun _ hk=>hk.2) (.slice Ao44 y325.length co44)) (fun _ hk=>hk.1)⟩,⟨by(with_reducible repeat(first|refine k0a ?_ _|refine k0c ?_|refine k09 ?_ _));refine k0A (cs:=#[.int .i64 (wrap64 ((l1.length:Int)+1)),u306001,.int .i64 a0_2,.int .i64 a0_3,.int .i64 a0_4,.int .i64 a0_5,.int .i64 a0_6,.int .i64 a0_7,.slice Ao26 y312.length co26,.int .u16 a0_9,u306010]) ?_ 10 _ rfl;(with_reducible repeat(first|refine k0a ?_ _|refine k0c ?_|refine k09 ?_ _));exact BK305.1⟩,⟨by(with_reducible repeat(first|refine k0a ?_ _|refine k0c ?_|refine k09 ?_ _));refine k1d ?_ NB306_305.1 _;(with_reducible repeat(first|refine k0a ?_ _|refine k0c ?_|refine k09 ?_ _));exact BK306.1⟩,⟨zz3⟩⟩
              ·rw[if_neg c39]at H
               exact absurd H zz6
          ·rw[if_neg c28]at H
           have c28b0:decide (x9_3<(wrap64 ((l1.length:Int)+1)))=false:=decide_eq_false c28;clear c28;simp only[Option.some.injEq,Prod.mk.injEq]at H;obtain⟨rfl,rfl,rfl,rfl,rfl,rfl,rfl,rfl,rfl,rfl,rfl,rfl⟩:=H;have hnb46:=NB305_306.1;have hnc46:=NB306_305.1;have hcz47_0:wr.cell? ⟨gb305,0,none⟩=some (.int .i64 (wrap64 ((l1.length:Int)+1))):=(k00 BK305.1 0).trans rfl;have hcz47_1:wr.cell? ⟨gb305,1,none⟩=some (u306001):=(k00 BK305.1 1).trans rfl;have hcz47_2:wr.cell? ⟨gb305,2,none⟩=some (.int .i64 a0_2):=(k00 BK305.1 2).trans rfl;have hcz47_3:wr.cell? ⟨gb305,3,none⟩=some (.int .i64 a0_3):=(k00 BK305.1 3).trans rfl;have hcz47_4:wr.cell? ⟨gb305,4,none⟩=some (.int .i64 a0_4):=(k00 BK305.1 4).trans rfl;have hcz47_5:wr.cell? ⟨gb305,5,none⟩=some (.int .i64 a0_5):=(k00 BK305.1 5).trans rfl;have hcz47_6:wr.cell? ⟨gb305,6,none⟩=some (.int .i64 a0_6):=(k00 BK305.1 6).trans rfl;have hcz47_7:wr.cell? ⟨gb305,7,none⟩=some (.int .i64 a0_7):=(k00 BK305.1 7).trans rfl;have hcz47_8:wr.cell? ⟨gb305,8,none⟩=some (.slice Ao26 y312.length co26):=(k00 BK305.1 8).trans rfl;have hcz47_9:wr.cell? ⟨gb305,9,none⟩=some (.int .u16 a0_9):=(k00 BK305.1 9).trans rfl;have hcz47_10:wr.cell? ⟨gb305,10,none⟩=some (u306010):=(k00 BK305.1 10).trans rfl;have hfz47_0:=k02 BK305.1 0;have hfz47_1:=k02 BK305.1 1;have hfz47_2:=k02 BK305.1 2;have hfz47_3:=k02 BK305.1 3;have hfz47_4:=k02 BK305.1 4;have hfz47_5:=k02 BK305.1 5;have hfz47_6:=k02 BK305.1 6;have hfz47_7:=k02 BK305.1 7;have hfz47_8:=k02 BK305.1 8;have hfz47_9:=k02 BK305.1 9;have hfz47_10:=k02 BK305.1 10;have hcz48_0:wr.cell? ⟨gb306,0,none⟩=some (.int .i64 0):=(k00 BK306.1 0).trans rfl;have hcz48_1:wr.cell? ⟨gb306,1,none⟩=some (.slice none 0 0):=(k00 BK306.1 1).trans rfl;have hcz48_2:wr.cell? ⟨gb306,2,none⟩=some (.int .i64 0):=(k00 BK306.1 2).trans rfl;have hcz48_3:wr.cell? ⟨gb306,3,none⟩=some (.int .i64 0):=(k00 BK306.1 3).trans rfl;have hcz48_4:wr.cell? ⟨gb306,4,none⟩=some (.int .i64 0):=(k00 BK306.1 4).trans rfl;have hcz48_5:wr.cell? ⟨gb306,5,none⟩=some (.int .i64 0):=(k00 BK306.1 5).trans rfl;have hcz48_6:wr.cell? ⟨gb306,6,none⟩=some (.int .i64 0):=(k00 BK306.1 6).trans rfl;have hcz48_7:wr.cell? ⟨gb306,7,none⟩=some (.int .i64 0):=(k00 BK306.1 7).trans rfl;have hcz48_8:wr.cell? ⟨gb306,8,none⟩=some (.slice none 0 0):=(k00 BK306.1 8).trans rfl;have hcz48_9:wr.cell? ⟨gb306,9,none⟩=some (.int .u16 0):=(k00 BK306.1 9).trans rfl;have hcz48_10:wr.cell? ⟨gb306,10,none⟩=some (.slice none 0 0):=(k00 BK306.1 10).trans rfl;have hfz48_0:=k02 BK306.1 0;have hfz48_1:=k02 BK306.1 1;have hfz48_2:=k02 BK306.1 2;have hfz48_3:=k02 BK306.1 3;have hfz48_4:=k02 BK306.1 4;have hfz48_5:=k02 BK306.1 5;have hfz48_6:=k02 BK306.1 6;have hfz48_7:=k02 BK306.1 7;have hfz48_8:=k02 BK306.1 8;have hfz48_9:=k02 BK306.1 9;have hfz48_10:=k02 BK306.1 10;obtain⟨Ao49,co49,eo49⟩:=Kd.R_slice HO_306001.1;subst eo49;obtain⟨Ao50,co50,eo50⟩:=Kd.S_slice HO_306010.1;subst eo50;go_wp2;refine bodyPost_ret (k5A rfl _ _ gb306 32 #[.int .i64 (wrap64 ((l1.length:Int)+1)),.slice Ao49 x306001_2.length co49,.int .i64 a0_2,.int .i64 a0_3,.int .i64 a0_4,.int .i64 a0_5,.int .i64 a0_6,.int .i64 a0_7,.slice Ao26 y312.length co26,.int .u16 a0_9,.slice Ao50 x306010_3.length co50] (0,0) _ rfl (by(with_reducible repeat(first|refine k0a ?_ _|refine k0c ?_|refine k09 ?_ _));refine k0A (cs:=#[.int .i64 (wrap64 ((l1.length:Int)+1)),.slice Ao49 x306001_2.length co49,.int .i64 a0_2,.int .i64 a0_3,.int .i64 a0_4,.int .i64 a0_5,.int .i64 a0_6,.int .i64 a0_7,.slice Ao26 y312.length co26,.int .u16 a0_9,.slice none 0 0]) ?_ 10 _ rfl;(with_reducible repeat(first|refine k0a ?_ _|refine k0c ?_|refine k09 ?_ _));refine k0A (cs:=#[.int .i64 (wrap64 ((l1.length:Int)+1)),.slice Ao49 x306001_2.length co49,.int .i64 a0_2,.int .i64 a0_3,.int .i64 a0_4,.int .i64 a0_5,.int .i64 a0_6,.int .i64 a0_7,.slice Ao26 y312.length co26,.int .u16 0,.slice none 0 0]) ?_ 9 _ rfl;(with_reducible repeat(first|refine k0a ?_ _|refine k0c ?_|refine k09 ?_ _));refine k0A (cs:=#[.int .i64 (wrap64 ((l1.length:Int)+1)),.slice Ao49 x306001_2.length co49,.int .i64 a0_2,.int .i64 a0_3,.int .i64 a0_4,.int .i64 a0_5,.int .i64 a0_6,.int .i64 a0_7,.slice none 0 0,.int .u16 0,.slice none 0 0]) ?_ 8 _ rfl;(with_reducible repeat(first|refine k0a ?_ _|refine k0c ?_|refine k09 ?_ _));refine k0A (cs:=#[.int .i64 (wrap64 ((l1.length:Int)+1)),.slice Ao49 x306001_2.length co49,.int .i64 a0_2,.int .i64 a0_3,.int .i64 a0_4,.int .i64 a0_5,.int .i64 a0_6,.int .i64 0,.slice none 0 0,.int .u16 0,.slice none 0 0]) ?_ 7 _ rfl;(with_reducible repeat(first|refine k0a ?_ _|refine k0c ?_|refine k09 ?_ _));refine k0A (cs:=#[.int .i64 (wrap64 ((l1.length:Int)+1)),.slice Ao49 x306001_2.length co49,.int .i64 a0_2,.int .i64 a0_3,.int .i64 a0_4,.int .i64 a0_5,.int .i64 0,.int .i64 0,.slice none 0 0,.int .u16 0,.slice none 0 0]) ?_ 6 _ rfl;(with_reducible repeat(first|refine k0a ?_ _|refine k0c ?_|refine k09 ?_ _));refine k0A (cs:=#[.int .i64 (wrap64 ((l1.length:Int)+1)),.slice Ao49 x306001_2.length co49,.int .i64 a0_2,.int .i64 a0_3,.int .i64 a0_4,.int .i64 0,.int .i64 0,.int .i64 0,.slice none 0 0,.int .u16 0,.slice none 0 0]) ?_ 5 _ rfl;(with_reducible repeat(first|refine k0a ?_ _|refine k0c ?_|refine k09 ?_ _));refine k0A (cs:=#[.int .i64 (wrap64 ((l1.length:Int)+1)),.slice Ao49 x306001_2.length co49,.int .i64 a0_2,.int .i64 a0_3,.int .i64 0,.int .i64 0,.int .i64 0,.int .i64 0,.slice none 0 0,.int .u16 0,.slice none 0 0]) ?_ 4 _ rfl;(with_reducible repeat(first|refine k0a ?_ _|refine k0c ?_|refine k09 ?_ _));refine k0A (cs:=#[.int .i64 (wrap64 ((l1.length:Int)+1)),.slice Ao49 x306001_2.length co49,.int .i64 a0_2,.int .i64 0,.int .i64 0,.int .i64 0,.int .i64 0,.int .i64 0,.slice none 0 0,.int .u16 0,.slice none 0 0]) ?_ 3 _ rfl;(with_reducible repeat(first|refine k0a ?_ _|refine k0c ?_|refine k09 ?_ _));refine k0A (cs:=#[.int .i64 (wrap64 ((l1.length:Int)+1)),.slice Ao49 x306001_2.length co49,.int .i64 0,.int .i64 0,.int .i64 0,.int .i64 0,.int .i64 0,.int .i64 0,.slice none 0 0,.int .u16 0,.slice none 0 0]) ?_ 2 _ rfl;(with_reducible repeat(first|refine k0a ?_ _|refine k0c ?_|refine k09 ?_ _));refine k0A (cs:=#[.int .i64 (wrap64 ((l1.length:Int)+1)),.slice none 0 0,.int .i64 0,.int .i64 0,.int .i64 0,.int .i64 0,.int .i64 0,.int .i64 0,.slice none 0 0,.int .u16 0,.slice none 0 0]) ?_ 1 _ rfl;(with_reducible repeat(first|refine k0a ?_ _|refine k0c ?_|refine k09 ?_ _));refine k0A (cs:=#[.int .i64 0,.slice none 0 0,.int .i64 0,.int .i64 0,.int .i64 0,.int .i64 0,.int .i64 0,.int .i64 0,.slice none 0 0,.int .u16 0,.slice none 0 0]) ?_ 0 _ rfl;(with_reducible repeat(first|refine k0a ?_ _|refine k0c ?_|refine k09 ?_ _));exact BK306.1) Tryz.underlying32 rfl zz2) rfl ?_;exact⟨_,_,_,zz10,by(with_reducible repeat(first|apply Kd.R_alloc|apply Kd.R_drewN|apply Kd.R_drew));exact Kd.R_mono (Kd.R_far (p:=⟨gb306,10,none⟩) (Kd.R_far (p:=⟨gb306,9,none⟩) (Kd.R_far (p:=⟨gb306,8,none⟩) (Kd.R_far (p:=⟨gb306,7,none⟩) (Kd.R_far (p:=⟨gb306,6,none⟩) (Kd.R_far (p:=⟨gb306,5,none⟩) (Kd.R_far (p:=⟨gb306,4,none⟩) (Kd.R_far (p:=⟨gb306,3,none⟩) (Kd.R_far (p:=⟨gb306,2,none⟩) (Kd.R_far (p:=⟨gb306,1,none⟩) (Kd.R_far (p:=⟨gb306,0,none⟩) (Kd.R_types HO_306001.1 BK306.1 zz7) (fun _ hk=>hk.2) (.int .i64 (wrap64 ((l1.length:Int)+1)))) (fun _ hk=>hk.2) (.slice Ao49 x306001_2.length co49)) (fun _ hk=>hk.2) (.int .i64 a0_2)) (fun _ hk=>hk.2) (.int .i64 a0_3)) (fun _ hk=>hk.2) (.int .i64 a0_4)) (fun _ hk=>hk.2) (.int .i64 a0_5)) (fun _ hk=>hk.2) (.int .i64 a0_6)) (fun _ hk=>hk.2) (.int .i64 a0_7)) (fun _ hk=>hk.2) (.slice Ao26 y312.length co26)) (fun _ hk=>hk.2) (.int .u16 a0_9)) (fun _ hk=>hk.2) (.slice Ao50 x306010_3.length co50)) (fun _ hk=>trivial),by(with_reducible repeat(first|apply Kd.R_alloc|apply Kd.R_drewN|apply Kd.R_drew));exact Kd.R_mono (Kd.R_far (p:=⟨gb306,10,none⟩) (Kd.R_far (p:=⟨gb306,9,none⟩) (Kd.R_far (p:=⟨gb306,8,none⟩) (Kd.R_far (p:=⟨gb306,7,none⟩) (Kd.R_far (p:=⟨gb306,6,none⟩) (Kd.R_far (p:=⟨gb306,5,none⟩) (Kd.R_far (p:=⟨gb306,4,none⟩) (Kd.R_far (p:=⟨gb306,3,none⟩) (Kd.R_far (p:=⟨gb306,2,none⟩) (Kd.R_far (p:=⟨gb306,1,none⟩) (Kd.R_far (p:=⟨gb306,0,none⟩) (Kd.R_types HO_306008.1 BK306.1 zz7) (fun _ hk=>hk.2) (.int .i64 (wrap64 ((l1.length:Int)+1)))) (fun _ hk=>hk.2) (.slice Ao49 x306001_2.length co49)) (fun _ hk=>hk.2) (.int .i64 a0_2)) (fun _ hk=>hk.2) (.int .i64 a0_3)) (fun _ hk=>hk.2) (.int .i64 a0_4)) (fun _ hk=>hk.2) (.int .i64 a0_5)) (fun _ hk=>hk.2) (.int .i64 a0_6)) (fun _ hk=>hk.2) (.int .i64 a0_7)) (fun _ hk=>hk.2) (.slice Ao26 y312.length co26)) (fun _ hk=>hk.2) (.int .u16 a0_9)) (fun _ hk=>hk.2) (.slice Ao50 x306010_3.length co50)) (fun _ hk=>trivial),by(with_reducible repeat(first|apply Kd.S_alloc|apply Kd.S_drewN|apply Kd.S_drew));exact Kd.S_mono (Kd.S_far (p:=⟨gb306,10,none⟩) (Kd.S_far (p:=⟨gb306,9,none⟩) (Kd.S_far (p:=⟨gb306,8,none⟩) (Kd.S_far (p:=⟨gb306,7,none⟩) (Kd.S_far (p:=⟨gb306,6,none⟩) (Kd.S_far (p:=⟨gb306,5,none⟩) (Kd.S_far (p:=⟨gb306,4,none⟩) (Kd.S_far (p:=⟨gb306,3,none⟩) (Kd.S_far (p:=⟨gb306,2,none⟩) (Kd.S_far (p:=⟨gb306,1,none⟩) (Kd.S_far (p:=⟨gb306,0,none⟩) (Kd.S_types HO_306010.1 BK306.1 zz7) (fun _ hk=>hk.2) (.int .i64 (wrap64 ((l1.length:Int)+1)))) (fun _ hk=>hk.2) (.slice Ao49 x306001_2.length co49)) (fun _ hk=>hk.2) (.int .i64 a0_2)) (fun _ hk=>hk.2) (.int .i64 a0_3)) (fun _ hk=>hk.2) (.int .i64 a0_4)) (fun _ hk=>hk.2) (.int .i64 a0_5)) (fun _ hk=>hk.2) (.int .i64 a0_6)) (fun _ hk=>hk.2) (.int .i64 a0_7)) (fun _ hk=>hk.2) (.slice Ao26 y312.length co26)) (fun _ hk=>hk.2) (.int .u16 a0_9)) (fun _ hk=>hk.2) (.slice Ao50 x306010_3.length co50)) (fun _ hk=>hk.1),zz3⟩
       ·rw[if_neg c22]at H
        exact absurd H zz6
end Go.Proofs.YtdopmlopafgonaaGreatDoor.PTopQuick
