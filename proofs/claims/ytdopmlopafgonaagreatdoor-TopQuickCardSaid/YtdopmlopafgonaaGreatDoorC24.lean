/- TopQuick: one packet alone is brought from host to host (a part of the walks and of the plain laws). -/
import Derived.Test.YtdopmlopafgonaaGreatDoorC0
import Derived.Test.YtdopmlopafgonaaGreatDoorC23
set_option linter.unusedVariables false
set_option linter.unusedSimpArgs false
set_option maxHeartbeats 4000000
set_option maxRecDepth 100000
namespace Go.Proofs.YtdopmlopafgonaaGreatDoor.PTopQuick
open Go.RowKit Go.Proofs.YtdopmlopafgonaaGreatDoorW.PrintWords Go.Proofs.YtdopmlopafgonaaGreatDoorW.PrintLast Go.Proofs.YtdopmlopafgonaaGreatDoorW.PrintMore
open Go.Proofs.YtdopmlopafgonaaGreatDoor.Own
attribute [local go_sem] k17 k1e k1q k1I k15
set_option linter.unusedVariables false
set_option linter.unusedSimpArgs false
attribute [local go_sem high] kb1
def wire_Sound.f (a0_0:Int) (a0_1:Int) (a0_2:Int) (a0_3:Int) (a0_4:Int) (a0_5:Int):Option (Bool):=if a0_0=1 then (if a0_1<3 then (if (mx a0_3 a0_4)<6 then (some (a0_3 != a0_4)) else (some false)) else (some false)) else (if a0_0=2 then (if a0_1<3 then (some (a0_3 == 0 && (a0_4 == 0 && (a0_5 == 0)))) else (some false)) else (if a0_0=3 then (if a0_1<3 then (some (a0_3 == 0 && (a0_4 == 0 && (a0_5 == 0)))) else (some false)) else (some false)))
theorem wire_Sound.calls (a0_0:Int) (a0_1:Int) (a0_2:Int) (a0_3:Int) (a0_4:Int) (a0_5:Int) (r:Bool) (w:World) (h:wire_Sound.f a0_0 a0_1 a0_2 a0_3 a0_4 a0_5=some r) :
 Calls Tryz.prog 116 #[.agg #[.int .u8 a0_0,.int .u8 a0_1,.int .u16 a0_2,.int .u8 a0_3,.int .u8 a0_4,.int .u32 a0_5]] w fun e w'=>e = .returned (.bool r)/\Below w.heap.size w w':=by
 have hu163:=Tryz.underlying163;have HB:=Ab (Below.refl w.heap.size w);have H:(if a0_0=1 then (if a0_1<3 then (if (mx a0_3 a0_4)<6 then (some (a0_3 != a0_4)) else (some false)) else (some false)) else (if a0_0=2 then (if a0_1<3 then (some (a0_3 == 0 && (a0_4 == 0 && (a0_5 == 0)))) else (some false)) else (if a0_0=3 then (if a0_1<3 then (some (a0_3 == 0 && (a0_4 == 0 && (a0_5 == 0)))) else (some false)) else (some false))))=some r:=h;clear h;by_cases c2:a0_0=1
 · rw [if_pos c2] at H
   have c2b0:(a0_0 == 1)=true:=beq_iff_eq.mpr c2;have c2b1:(a0_0 != 1)=false:=bne_eq_false_iff_eq.mpr c2;clear c2;by_cases c3:a0_1<3
   · rw [if_pos c3] at H
     have c3b0:decide (a0_1<3)=true:=decide_eq_true c3;clear c3;obtain ⟨ji4,hji4⟩:∃ j_:Int,(mx a0_3 a0_4)=j_:=⟨_,rfl⟩;replace H:(if (ji4)<6 then (some (a0_3 != a0_4)) else (some false))=some r:=by first | (rw [hji4] at H;exact H) | (simp only [hji4] at H ⊢;exact H)
     have hji4_:(if a0_3<a0_4 then a0_4 else a0_3)=ji4:=hji4;by_cases c5:(ji4)<6
     · rw [if_pos c5] at H
       have c5b0:decide ((ji4)<6)=true:=decide_eq_true c5;clear c5;obtain rfl:=Option.some.inj H;go_enter Tryz.func116,Tryz.ntmps116
       go_wp2_with (first | ((with_reducible refine k1c (N:=1) rfl ?_);(try (refine k0o (by rfl) ?_;dsimp only));refine k14 ?hg (N:=1) ?hd (cs:=#[.int .u8 a0_0,.int .u8 a0_1,.int .u16 a0_2,.int .u8 a0_3,.int .u8 a0_4,.int .u32 a0_5]) (t:=163) ?hr ?_;(case hd=>rfl);(case hg=>rfl);(case hr=>first | (go_simp;done) | (go_simp;rfl));intro gb402 hg w6 hbox hb;have n0_:=Ab (k0t zz0 hb);have n1_:=Ab (hbox);have n2_:=Ab ((by rw [hg];exact (k0b zz0):w.heap.size<=gb402));have n3_:=Ab ((by rw [hg];exact (k0b zz0):w.heap.size<=gb402));clear HB;have HB:=n0_;have BK402:=n1_;have GW402:=n2_;have GE402:=n3_;clear n0_ n1_ n2_ n3_;clear hb hbox hg;have hcz7_0:w6.cell? ⟨gb402,0,none⟩=some (.int .u8 a0_0):=(k00 BK402.out 0).trans rfl;have hcz7_1:w6.cell? ⟨gb402,1,none⟩=some (.int .u8 a0_1):=(k00 BK402.out 1).trans rfl;have hcz7_2:w6.cell? ⟨gb402,2,none⟩=some (.int .u16 a0_2):=(k00 BK402.out 2).trans rfl;have hcz7_3:w6.cell? ⟨gb402,3,none⟩=some (.int .u8 a0_3):=(k00 BK402.out 3).trans rfl;have hcz7_4:w6.cell? ⟨gb402,4,none⟩=some (.int .u8 a0_4):=(k00 BK402.out 4).trans rfl;have hcz7_5:w6.cell? ⟨gb402,5,none⟩=some (.int .u32 a0_5):=(k00 BK402.out 5).trans rfl;have hfz7_0:=k02 BK402.out 0;have hfz7_1:=k02 BK402.out 1;have hfz7_2:=k02 BK402.out 2;have hfz7_3:=k02 BK402.out 3;have hfz7_4:=k02 BK402.out 4;have hfz7_5:=k02 BK402.out 5))
       go_ret;exact ⟨zz42,zz7⟩
     · rw [if_neg c5] at H
       have c5b0:decide ((ji4)<6)=false:=decide_eq_false c5;clear c5;obtain rfl:=Option.some.inj H;go_enter Tryz.func116,Tryz.ntmps116
       go_wp2_with (first | ((with_reducible refine k1c (N:=1) rfl ?_);(try (refine k0o (by rfl) ?_;dsimp only));refine k14 ?hg (N:=1) ?hd (cs:=#[.int .u8 a0_0,.int .u8 a0_1,.int .u16 a0_2,.int .u8 a0_3,.int .u8 a0_4,.int .u32 a0_5]) (t:=163) ?hr ?_;(case hd=>rfl);(case hg=>rfl);(case hr=>first | (go_simp;done) | (go_simp;rfl));intro gb402 hg w8 hbox hb;have n0_:=Ab (k0t zz0 hb);have n1_:=Ab (hbox);have n2_:=Ab ((by rw [hg];exact (k0b zz0):w.heap.size<=gb402));have n3_:=Ab ((by rw [hg];exact (k0b zz0):w.heap.size<=gb402));clear HB;have HB:=n0_;have BK402:=n1_;have GW402:=n2_;have GE402:=n3_;clear n0_ n1_ n2_ n3_;clear hb hbox hg;have hcz9_0:w8.cell? ⟨gb402,0,none⟩=some (.int .u8 a0_0):=(k00 BK402.out 0).trans rfl;have hcz9_1:w8.cell? ⟨gb402,1,none⟩=some (.int .u8 a0_1):=(k00 BK402.out 1).trans rfl;have hcz9_2:w8.cell? ⟨gb402,2,none⟩=some (.int .u16 a0_2):=(k00 BK402.out 2).trans rfl;have hcz9_3:w8.cell? ⟨gb402,3,none⟩=some (.int .u8 a0_3):=(k00 BK402.out 3).trans rfl;have hcz9_4:w8.cell? ⟨gb402,4,none⟩=some (.int .u8 a0_4):=(k00 BK402.out 4).trans rfl;have hcz9_5:w8.cell? ⟨gb402,5,none⟩=some (.int .u32 a0_5):=(k00 BK402.out 5).trans rfl;have hfz9_0:=k02 BK402.out 0;have hfz9_1:=k02 BK402.out 1;have hfz9_2:=k02 BK402.out 2;have hfz9_3:=k02 BK402.out 3;have hfz9_4:=k02 BK402.out 4;have hfz9_5:=k02 BK402.out 5))
       go_ret;exact ⟨zz42,zz7⟩
   · rw [if_neg c3] at H
     have c3b0:decide (a0_1<3)=false:=decide_eq_false c3;clear c3;obtain rfl:=Option.some.inj H;go_enter Tryz.func116,Tryz.ntmps116
     go_wp2_with (first | ((with_reducible refine k1c (N:=1) rfl ?_);(try (refine k0o (by rfl) ?_;dsimp only));refine k14 ?hg (N:=1) ?hd (cs:=#[.int .u8 a0_0,.int .u8 a0_1,.int .u16 a0_2,.int .u8 a0_3,.int .u8 a0_4,.int .u32 a0_5]) (t:=163) ?hr ?_;(case hd=>rfl);(case hg=>rfl);(case hr=>first | (go_simp;done) | (go_simp;rfl));intro gb402 hg w10 hbox hb;have n0_:=Ab (k0t zz0 hb);have n1_:=Ab (hbox);have n2_:=Ab ((by rw [hg];exact (k0b zz0):w.heap.size<=gb402));have n3_:=Ab ((by rw [hg];exact (k0b zz0):w.heap.size<=gb402));clear HB;have HB:=n0_;have BK402:=n1_;have GW402:=n2_;have GE402:=n3_;clear n0_ n1_ n2_ n3_;clear hb hbox hg;have hcz11_0:w10.cell? ⟨gb402,0,none⟩=some (.int .u8 a0_0):=(k00 BK402.out 0).trans rfl;have hcz11_1:w10.cell? ⟨gb402,1,none⟩=some (.int .u8 a0_1):=(k00 BK402.out 1).trans rfl;have hcz11_2:w10.cell? ⟨gb402,2,none⟩=some (.int .u16 a0_2):=(k00 BK402.out 2).trans rfl;have hcz11_3:w10.cell? ⟨gb402,3,none⟩=some (.int .u8 a0_3):=(k00 BK402.out 3).trans rfl;have hcz11_4:w10.cell? ⟨gb402,4,none⟩=some (.int .u8 a0_4):=(k00 BK402.out 4).trans rfl;have hcz11_5:w10.cell? ⟨gb402,5,none⟩=some (.int .u32 a0_5):=(k00 BK402.out 5).trans rfl;have hfz11_0:=k02 BK402.out 0;have hfz11_1:=k02 BK402.out 1;have hfz11_2:=k02 BK402.out 2;have hfz11_3:=k02 BK402.out 3;have hfz11_4:=k02 BK402.out 4;have hfz11_5:=k02 BK402.out 5))
     go_ret;exact ⟨zz5,zz7⟩
 · rw [if_neg c2] at H
   have c2b0:(a0_0 == 1)=false:=beq_eq_false_iff_ne.mpr c2;have c2b1:(a0_0 != 1)=true:=bne_iff_ne.mpr c2;by_cases c12:a0_0=2
   · rw [if_pos c12] at H
     have c12b0:(a0_0 == 2)=true:=beq_iff_eq.mpr c12;have c12b1:(a0_0 != 2)=false:=bne_eq_false_iff_eq.mpr c12;clear c12;by_cases c13:a0_1<3
     · rw [if_pos c13] at H
       have c13b0:decide (a0_1<3)=true:=decide_eq_true c13;clear c13;obtain rfl:=Option.some.inj H;go_enter Tryz.func116,Tryz.ntmps116
       go_wp2_with (first | ((with_reducible refine k1c (N:=1) rfl ?_);(try (refine k0o (by rfl) ?_;dsimp only));refine k14 ?hg (N:=1) ?hd (cs:=#[.int .u8 a0_0,.int .u8 a0_1,.int .u16 a0_2,.int .u8 a0_3,.int .u8 a0_4,.int .u32 a0_5]) (t:=163) ?hr ?_;(case hd=>rfl);(case hg=>rfl);(case hr=>first | (go_simp;done) | (go_simp;rfl));intro gb402 hg w14 hbox hb;have n0_:=Ab (k0t zz0 hb);have n1_:=Ab (hbox);have n2_:=Ab ((by rw [hg];exact (k0b zz0):w.heap.size<=gb402));have n3_:=Ab ((by rw [hg];exact (k0b zz0):w.heap.size<=gb402));clear HB;have HB:=n0_;have BK402:=n1_;have GW402:=n2_;have GE402:=n3_;clear n0_ n1_ n2_ n3_;clear hb hbox hg;have hcz15_0:w14.cell? ⟨gb402,0,none⟩=some (.int .u8 a0_0):=(k00 BK402.out 0).trans rfl;have hcz15_1:w14.cell? ⟨gb402,1,none⟩=some (.int .u8 a0_1):=(k00 BK402.out 1).trans rfl;have hcz15_2:w14.cell? ⟨gb402,2,none⟩=some (.int .u16 a0_2):=(k00 BK402.out 2).trans rfl;have hcz15_3:w14.cell? ⟨gb402,3,none⟩=some (.int .u8 a0_3):=(k00 BK402.out 3).trans rfl;have hcz15_4:w14.cell? ⟨gb402,4,none⟩=some (.int .u8 a0_4):=(k00 BK402.out 4).trans rfl;have hcz15_5:w14.cell? ⟨gb402,5,none⟩=some (.int .u32 a0_5):=(k00 BK402.out 5).trans rfl;have hfz15_0:=k02 BK402.out 0;have hfz15_1:=k02 BK402.out 1;have hfz15_2:=k02 BK402.out 2;have hfz15_3:=k02 BK402.out 3;have hfz15_4:=k02 BK402.out 4;have hfz15_5:=k02 BK402.out 5))
       go_ret;exact ⟨zz5,zz7⟩
     · rw [if_neg c13] at H
       have c13b0:decide (a0_1<3)=false:=decide_eq_false c13;clear c13;obtain rfl:=Option.some.inj H;go_enter Tryz.func116,Tryz.ntmps116
       go_wp2_with (first | ((with_reducible refine k1c (N:=1) rfl ?_);(try (refine k0o (by rfl) ?_;dsimp only));refine k14 ?hg (N:=1) ?hd (cs:=#[.int .u8 a0_0,.int .u8 a0_1,.int .u16 a0_2,.int .u8 a0_3,.int .u8 a0_4,.int .u32 a0_5]) (t:=163) ?hr ?_;(case hd=>rfl);(case hg=>rfl);(case hr=>first | (go_simp;done) | (go_simp;rfl));intro gb402 hg w16 hbox hb;have n0_:=Ab (k0t zz0 hb);have n1_:=Ab (hbox);have n2_:=Ab ((by rw [hg];exact (k0b zz0):w.heap.size<=gb402));have n3_:=Ab ((by rw [hg];exact (k0b zz0):w.heap.size<=gb402));clear HB;have HB:=n0_;have BK402:=n1_;have GW402:=n2_;have GE402:=n3_;clear n0_ n1_ n2_ n3_;clear hb hbox hg;have hcz17_0:w16.cell? ⟨gb402,0,none⟩=some (.int .u8 a0_0):=(k00 BK402.out 0).trans rfl;have hcz17_1:w16.cell? ⟨gb402,1,none⟩=some (.int .u8 a0_1):=(k00 BK402.out 1).trans rfl;have hcz17_2:w16.cell? ⟨gb402,2,none⟩=some (.int .u16 a0_2):=(k00 BK402.out 2).trans rfl;have hcz17_3:w16.cell? ⟨gb402,3,none⟩=some (.int .u8 a0_3):=(k00 BK402.out 3).trans rfl;have hcz17_4:w16.cell? ⟨gb402,4,none⟩=some (.int .u8 a0_4):=(k00 BK402.out 4).trans rfl;have hcz17_5:w16.cell? ⟨gb402,5,none⟩=some (.int .u32 a0_5):=(k00 BK402.out 5).trans rfl;have hfz17_0:=k02 BK402.out 0;have hfz17_1:=k02 BK402.out 1;have hfz17_2:=k02 BK402.out 2;have hfz17_3:=k02 BK402.out 3;have hfz17_4:=k02 BK402.out 4;have hfz17_5:=k02 BK402.out 5))
       go_ret;exact ⟨zz5,zz7⟩
   · rw [if_neg c12] at H
     have c12b0:(a0_0 == 2)=false:=beq_eq_false_iff_ne.mpr c12;have c12b1:(a0_0 != 2)=true:=bne_iff_ne.mpr c12;by_cases c18:a0_0=3
     · rw [if_pos c18] at H
       have c18b0:(a0_0 == 3)=true:=beq_iff_eq.mpr c18;have c18b1:(a0_0 != 3)=false:=bne_eq_false_iff_eq.mpr c18;clear c18;by_cases c19:a0_1<3
       · rw [if_pos c19] at H
         have c19b0:decide (a0_1<3)=true:=decide_eq_true c19;clear c19;obtain rfl:=Option.some.inj H;go_enter Tryz.func116,Tryz.ntmps116
         go_wp2_with (first | ((with_reducible refine k1c (N:=1) rfl ?_);(try (refine k0o (by rfl) ?_;dsimp only));refine k14 ?hg (N:=1) ?hd (cs:=#[.int .u8 a0_0,.int .u8 a0_1,.int .u16 a0_2,.int .u8 a0_3,.int .u8 a0_4,.int .u32 a0_5]) (t:=163) ?hr ?_;(case hd=>rfl);(case hg=>rfl);(case hr=>first | (go_simp;done) | (go_simp;rfl));intro gb402 hg w20 hbox hb;have n0_:=Ab (k0t zz0 hb);have n1_:=Ab (hbox);have n2_:=Ab ((by rw [hg];exact (k0b zz0):w.heap.size<=gb402));have n3_:=Ab ((by rw [hg];exact (k0b zz0):w.heap.size<=gb402));clear HB;have HB:=n0_;have BK402:=n1_;have GW402:=n2_;have GE402:=n3_;clear n0_ n1_ n2_ n3_;clear hb hbox hg;have hcz21_0:w20.cell? ⟨gb402,0,none⟩=some (.int .u8 a0_0):=(k00 BK402.out 0).trans rfl;have hcz21_1:w20.cell? ⟨gb402,1,none⟩=some (.int .u8 a0_1):=(k00 BK402.out 1).trans rfl;have hcz21_2:w20.cell? ⟨gb402,2,none⟩=some (.int .u16 a0_2):=(k00 BK402.out 2).trans rfl;have hcz21_3:w20.cell? ⟨gb402,3,none⟩=some (.int .u8 a0_3):=(k00 BK402.out 3).trans rfl;have hcz21_4:w20.cell? ⟨gb402,4,none⟩=some (.int .u8 a0_4):=(k00 BK402.out 4).trans rfl;have hcz21_5:w20.cell? ⟨gb402,5,none⟩=some (.int .u32 a0_5):=(k00 BK402.out 5).trans rfl;have hfz21_0:=k02 BK402.out 0;have hfz21_1:=k02 BK402.out 1;have hfz21_2:=k02 BK402.out 2;have hfz21_3:=k02 BK402.out 3;have hfz21_4:=k02 BK402.out 4;have hfz21_5:=k02 BK402.out 5))
         go_ret;exact ⟨zz5,zz7⟩
       · rw [if_neg c19] at H
         have c19b0:decide (a0_1<3)=false:=decide_eq_false c19;clear c19;obtain rfl:=Option.some.inj H;go_enter Tryz.func116,Tryz.ntmps116
         go_wp2_with (first | ((with_reducible refine k1c (N:=1) rfl ?_);(try (refine k0o (by rfl) ?_;dsimp only));refine k14 ?hg (N:=1) ?hd (cs:=#[.int .u8 a0_0,.int .u8 a0_1,.int .u16 a0_2,.int .u8 a0_3,.int .u8 a0_4,.int .u32 a0_5]) (t:=163) ?hr ?_;(case hd=>rfl);(case hg=>rfl);(case hr=>first | (go_simp;done) | (go_simp;rfl));intro gb402 hg w22 hbox hb;have n0_:=Ab (k0t zz0 hb);have n1_:=Ab (hbox);have n2_:=Ab ((by rw [hg];exact (k0b zz0):w.heap.size<=gb402));have n3_:=Ab ((by rw [hg];exact (k0b zz0):w.heap.size<=gb402));clear HB;have HB:=n0_;have BK402:=n1_;have GW402:=n2_;have GE402:=n3_;clear n0_ n1_ n2_ n3_;clear hb hbox hg;have hcz23_0:w22.cell? ⟨gb402,0,none⟩=some (.int .u8 a0_0):=(k00 BK402.out 0).trans rfl;have hcz23_1:w22.cell? ⟨gb402,1,none⟩=some (.int .u8 a0_1):=(k00 BK402.out 1).trans rfl;have hcz23_2:w22.cell? ⟨gb402,2,none⟩=some (.int .u16 a0_2):=(k00 BK402.out 2).trans rfl;have hcz23_3:w22.cell? ⟨gb402,3,none⟩=some (.int .u8 a0_3):=(k00 BK402.out 3).trans rfl;have hcz23_4:w22.cell? ⟨gb402,4,none⟩=some (.int .u8 a0_4):=(k00 BK402.out 4).trans rfl;have hcz23_5:w22.cell? ⟨gb402,5,none⟩=some (.int .u32 a0_5):=(k00 BK402.out 5).trans rfl;have hfz23_0:=k02 BK402.out 0;have hfz23_1:=k02 BK402.out 1;have hfz23_2:=k02 BK402.out 2;have hfz23_3:=k02 BK402.out 3;have hfz23_4:=k02 BK402.out 4;have hfz23_5:=k02 BK402.out 5))
         go_ret;exact ⟨zz5,zz7⟩
     · rw [if_neg c18] at H
       have c18b0:(a0_0 == 3)=false:=beq_eq_false_iff_ne.mpr c18;have c18b1:(a0_0 != 3)=true:=bne_iff_ne.mpr c18;obtain rfl:=Option.some.inj H;go_enter Tryz.func116,Tryz.ntmps116
       go_wp2_with (first | ((with_reducible refine k1c (N:=1) rfl ?_);(try (refine k0o (by rfl) ?_;dsimp only));refine k14 ?hg (N:=1) ?hd (cs:=#[.int .u8 a0_0,.int .u8 a0_1,.int .u16 a0_2,.int .u8 a0_3,.int .u8 a0_4,.int .u32 a0_5]) (t:=163) ?hr ?_;(case hd=>rfl);(case hg=>rfl);(case hr=>first | (go_simp;done) | (go_simp;rfl));intro gb402 hg w24 hbox hb;have n0_:=Ab (k0t zz0 hb);have n1_:=Ab (hbox);have n2_:=Ab ((by rw [hg];exact (k0b zz0):w.heap.size<=gb402));have n3_:=Ab ((by rw [hg];exact (k0b zz0):w.heap.size<=gb402));clear HB;have HB:=n0_;have BK402:=n1_;have GW402:=n2_;have GE402:=n3_;clear n0_ n1_ n2_ n3_;clear hb hbox hg;have hcz25_0:w24.cell? ⟨gb402,0,none⟩=some (.int .u8 a0_0):=(k00 BK402.out 0).trans rfl;have hcz25_1:w24.cell? ⟨gb402,1,none⟩=some (.int .u8 a0_1):=(k00 BK402.out 1).trans rfl;have hcz25_2:w24.cell? ⟨gb402,2,none⟩=some (.int .u16 a0_2):=(k00 BK402.out 2).trans rfl;have hcz25_3:w24.cell? ⟨gb402,3,none⟩=some (.int .u8 a0_3):=(k00 BK402.out 3).trans rfl;have hcz25_4:w24.cell? ⟨gb402,4,none⟩=some (.int .u8 a0_4):=(k00 BK402.out 4).trans rfl;have hcz25_5:w24.cell? ⟨gb402,5,none⟩=some (.int .u32 a0_5):=(k00 BK402.out 5).trans rfl;have hfz25_0:=k02 BK402.out 0;have hfz25_1:=k02 BK402.out 1;have hfz25_2:=k02 BK402.out 2;have hfz25_3:=k02 BK402.out 3;have hfz25_4:=k02 BK402.out 4;have hfz25_5:=k02 BK402.out 5))
       go_ret;exact ⟨zz5,zz7⟩
def wire_read.l0:Nat->Int->List Int->Int->Int->Option (Int)
 | 0,_,_,_,_=>none
 | k+1,x3,x6,x7,x8=>if x8<x7 then (if 0<=x8 then (if x8<(x6.length:Int) then (wire_read.l0 k (Go.bits .or .u32 ((x3*256) % 4294967296) ((rd x6 x8) % 4294967296)) x6 x7 (wrap64 (x8+1))) else (none)) else (none)) else (some x3)
def wire_read.f (k:Nat) (l0:List Int):Option (Int):=wire_read.l0 k 0 l0 (l0.length:Int) 0
theorem wire_read.calls (k:Nat) (A0:Option Addr) (c0:Nat) (l0:List Int) (r:Int) (w:World) (hr0:Kd.C (Kd.int .u8) w A0 l0.length l0) (hc0:l0.length<=c0) (h:wire_read.f k l0=some r) :
 Calls Tryz.prog 133 #[.slice A0 l0.length c0] w fun e w'=>e = .returned (.int .u32 r)/\Drawn0 w w':=by
 have HR0:=Ab hr0;have HC0:=Ab hc0;clear hr0 hc0;have H:(wire_read.l0 k 0 l0 (l0.length:Int) 0)=some r:=h;clear h;have H':=Ab H;clear H;go_enter Tryz.func133,Tryz.ntmps133;go_wp2
 go_loopg [3,8] k (fun kq v3 v8 w'=>∃ (x3_1:Int) (x8_1:Int),v3 = .int .u32 x3_1/\v8 = .int .i64 x8_1/\k08 (wire_read.l0 kq x3_1 l0 (l0.length:Int) x8_1=some r)/\k08 (kq<=k)/\Drawn0 w w')
 case atStart=>exact ⟨(0),(0),zz6,zz6,H',⟨Nat.le_refl _⟩,zz11⟩
 case round=>
  clear H'
  try clear c1
  obtain ⟨x3_1,x8_1,rfl,rfl,HA,HK1,⟨m1,rfl⟩⟩:=hrel
  cases gk with
  | zero=>exact absurd HA.out (by simp [wire_read.l0])
  | succ k1=>
    have H:=HA.out;clear HA;simp only [wire_read.l0] at H;by_cases c2:x8_1<(l0.length:Int)
    · rw [if_pos c2] at H
      have c2b0:decide (x8_1<(l0.length:Int))=true:=decide_eq_true c2;clear c2;by_cases c3:0<=x8_1
      · rw [if_pos c3] at H
        have c3b0:decide (0<=x8_1)=true:=decide_eq_true c3;clear c3;by_cases c4:x8_1<(l0.length:Int)
        · rw [if_pos c4] at H
          have c4b0:decide (x8_1<(l0.length:Int))=true:=decide_eq_true c4;clear c4;have H':=Ab H;clear H;have p403:0<=(x8_1:Int):=of_decide_eq_true zz4;have q403:x8_1<(l0.length:Int):=of_decide_eq_true zz4;obtain ⟨ad403,e403,hx403_0⟩:=Kd.at_int HR0.out x8_1 p403 q403;cases e403;replace p403:=eq_true p403;replace q403:=eq_true q403;go_wp2
          go_roundg k1
          case measure=>have:=HK1.out;omega
          case rel=>exact ⟨(Go.bits .or .u32 ((x3_1*256) % 4294967296) ((rd l0 x8_1) % 4294967296)),(wrap64 (x8_1+1)),zz6,zz6,H',⟨by have:=HK1.out;omega⟩,zz11⟩
        · rw [if_neg c4] at H
          exact absurd H zz17
      · rw [if_neg c3] at H
        exact absurd H zz17
    · rw [if_neg c2] at H
      have c2b0:decide (x8_1<(l0.length:Int))=false:=decide_eq_false c2;clear c2;obtain rfl:=Option.some.inj H;exact zz65
end Go.Proofs.YtdopmlopafgonaaGreatDoor.PTopQuick
