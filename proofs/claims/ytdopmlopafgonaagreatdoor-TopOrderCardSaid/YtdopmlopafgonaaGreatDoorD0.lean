/- What the walks' texts have in common: tactic texts that close a goal, as default arguments. -/

import Derived.Test.YtdopmlopafgonaaGreatDoorD1
set_option linter.unusedVariables false
namespace Go.Proofs.YtdopmlopafgonaaGreatDoor.Own
open Go.RowKit Go.Proofs.YtdopmlopafgonaaGreatDoorW.PrintWords
theorem Ab {p : Prop} (h : p) : k07 p := ⟨h⟩
theorem Ac (p : Prop) (h : p) : k07 p := ⟨h⟩
/-- What a world is said to meet. -/
structure Sat (S : World -> Prop) (w : World) : Prop where
 out : S w
theorem Sat.to {S : World -> Prop} {w : World} (h : Sat S w) (w' : World) (k : S w') : Sat S w' := ⟨k⟩
theorem zR {p q : Prop} (x : q) (h : q → p := by intro hzz; (with_reducible repeat (first | apply Kd.R_alloc | apply Kd.R_drewN | apply Kd.R_drew)); exact hzz) : p := h x
theorem zS {p q : Prop} (x : q) (h : q → p := by intro hzz; (with_reducible repeat (first | apply Kd.S_alloc | apply Kd.S_drewN | apply Kd.S_drew)); exact hzz) : p := h x
theorem zB {p q : Prop} (x : q) (h : q → p := by intro hzz; (with_reducible repeat (first | refine k0a ?_ _ | refine k0c ?_ | refine k09 ?_ _)); exact hzz) : p := h x
theorem zz0 {p : Prop} (h : p := by repeat(first|(with_reducible first|exact HB.1|apply k0f|apply k0e|apply k1B)|exact HB.1)) : p := h
theorem zz1 {p : Prop} (h : p := by omega) : p := h
theorem zz2 {p : Prop} (h : p := by kernel_rfl) : p := h
theorem zz3 {p : Prop} (h : p := by repeat(first|(with_reducible first|exact HB.1|apply k0f|apply k0e|apply k1B|refine k0x ?_ GE305.1|refine k0x ?_ GE306.1)|exact HB.1)) : p := h
theorem zz4 {p : Prop} (h : p := by repeat(first|exact(Kd.C_below HR0.1 HB.1)|(with_reducible refine Kd.C_alloc ?_ _)|(with_reducible refine Kd.C_drewN ?_ _)|(with_reducible refine Kd.C_drew ?_))) : p := h
theorem zz5 {p : Prop} (h : p := by first|(with_reducible assumption)|assumption) : p := h
theorem zz6 {p : Prop} (h : p := by simp) : p := h
theorem zz7 {p : Prop} (h : p := by decide) : p := h
theorem zz8 {p : Prop} (h : p := by repeat(first|(with_reducible first|exact HB.1|apply k0f|apply k0e|apply k1B|refine k0x ?_ GE402.1)|exact HB.1)) : p := h
theorem zz9 {p : Prop} (h : p := by simp only[ixOf];exact zz1) : p := h
theorem zz10 {p : Prop} (h : p := by first|rfl|(simp[k2l,k2r]<;>rfl)|(simp[*,k2l,k2r]<;>rfl)) : p := h
theorem zz11 {p : Prop} (h : p := by first|rfl|(simp;done)|(simp[*];done)) : p := h
theorem zz12 {p : Prop} (h : p := by first|(refine Or.inr ⟨?_,?_⟩;rfl;rfl)|(refine Or.inl ⟨?_,?_⟩;rfl;intro w hSw;(try dsimp only at hSw);go_simp;try with_reducible rfl)) : p := h
theorem zz13 {p : Prop} (h : p := by first|exact Kd.R_nil _ _ _ _ _|exact Kd.N_nil _ _ _ _ _|exact Kd.V_nil _ _ _ _ _|exact Kd.Q_nil _ _ _ _ _|exact Kd.S_nil _ _ _ _ _) : p := h
theorem zz14 {p : Prop} (h : p := by rw[w32];exact Int.emod_eq_of_lt (k0y HM.1).1 (by have:=(k0y HM.1).2;omega)) : p := h
theorem zz15 {p : Prop} (h : p := by first|(refine Or.inr ⟨?_,?_⟩;rfl;rfl)|(refine Or.inl ⟨?_,?_⟩;rfl;intro w hSw;go_simp;try with_reducible rfl)) : p := h
theorem zz16 {p : Prop} (h : p := by go_wp2;go_ret;exact⟨rfl,rfl⟩) : p := h
theorem zz17 {p : Prop} (h : p := by have:=k1E D G D.nodes (Nat.le_refl _);have:=G.n1;unfold PlanD.hops;omega) : p := h
theorem zz18 {p : Prop} (h : p := by repeat(first|exact Drawn0.refl _|apply Drawn0.step)) : p := h
theorem zz19 {p : Prop} (h : p := by show D.lanes-ixOf (.int .i64 ((k:Int)+1))<D.lanes-ixOf (.int .i64 (k:Int));exact zz9) : p := h
theorem zz20 {p : Prop} (h : p := by simp;omega) : p := h
theorem zz21 {p : Prop} (h : p := by show D.nodes-ixOf (.int .i64 ((k:Int)+1))<D.nodes-ixOf (.int .i64 (k:Int));exact zz9) : p := h
theorem zz22 {p : Prop} (h : p := by show w.heap.size<=w.heap.size+1;omega) : p := h
theorem zz23 {p : Prop} (h : p := by show n-ixOf (.int .i64 ((i:Int)+1))<n-ixOf (.int .i64 (i:Int));exact zz9) : p := h
theorem zz24 {p : Prop} (h : p := by first|(go_simp;done)|(go_simp;rfl)) : p := h
theorem zz25 {p : Prop} (h : p := by repeat(first|exact(Kd.R_reads' HO_7.1).2.2|(with_reducible refine Kd.C_alloc ?_ _)|(with_reducible refine Kd.C_drewN ?_ _)|(with_reducible refine Kd.C_drew ?_))) : p := h
theorem zz26 {p : Prop} (h : p := by repeat(first|exact(Kd.C_below HR1.1 HB.1)|(with_reducible refine Kd.C_alloc ?_ _)|(with_reducible refine Kd.C_drewN ?_ _)|(with_reducible refine Kd.C_drew ?_))) : p := h
theorem zz27 {p : Prop} (h : p := by go_wp2;go_ret;exact⟨_,none,rfl,Row.nil _ _ _,Below.refl _ _,zz6,fun _=>rfl⟩) : p := h
theorem zz28 {p : Prop} (h : p := by rw[k06 _ _ e]) : p := h
theorem zz29 {p : Prop} (h : p := by refine k3d (by rfl) (by go_simp;rfl) (by go_simp;rfl) (by go_simp) ?_;exact kbv (by rfl) (by go_simp;rfl) (by go_simp;rfl) (by go_simp)) : p := h
theorem zz30 {p : Prop} (h : p := by repeat(first|(with_reducible first|exact HB.1|apply k0f|apply k0e|apply k1B|refine k0x ?_ GE305.1)|exact HB.1)) : p := h
theorem zz31 {p : Prop} (h : p := by obtain⟨o',st',hh',pp,tt⟩:=K7.1;exact⟨rfl,o',st',S,sv,gs,ov,hh'.mono zz1 zz1,pp,T6.1.trans (tt.mono (fun c h=>.inl h)),zz1,fun h=>h⟩) : p := h
theorem zz32 {p : Prop} (h : p := by have:=HN.1;omega) : p := h
theorem zz33 {p : Prop} (h : p := by intro u hu;simp at hu;rcases hu with rfl|rfl|rfl<;>rfl) : p := h
theorem zz34 {p : Prop} (h : p := by intro u hu;simp at hu;subst hu;rfl) : p := h
theorem zz35 {p : Prop} (h : p := by (with_reducible repeat(first|apply Kd.R_alloc|apply Kd.R_drewN|apply Kd.R_drew));exact Kd.R_mono HO_8.1 (fun _ hk=>⟨trivial,hk⟩)) : p := h
theorem zz36 {p : Prop} (h : p := by obtain⟨k0,k1,k2,k3⟩:=HS.1;exact⟨k01 B3.1 k0,k01 B3.1 k1,k01 B3.1 k2,k01 B3.1 k3⟩) : p := h
theorem zz37 {p : Prop} (h : p := by (try simp only[List.map_toArray,List.map_cons,List.map_nil]);first|done|rfl|(simp only[List.length_drop,List.length_take];rfl)) : p := h
theorem zz38 {p : Prop} (h : p := by go_wp2;refine⟨⟨k+1,c,A5,g5,zz1,rfl,by rw[HL.1],⟨⟨by rw[HL.1];exact R.1.1.alloc _,R.1.2.1.alloc R.1.2.1.size _,R.1.2.2⟩⟩⟩,?_⟩;show D.edges.length-ixOf (.int .i64 ((k:Int)+1))<D.edges.length-ixOf (.int .i64 (k:Int));exact zz9) : p := h
theorem zz39 {p : Prop} (h : p := by simpa using this) : p := h
theorem zz40 {p : Prop} (h : p := by assumption) : p := h
theorem zz41 {p : Prop} (h : p := by have h:=heap_alloc_new (w1.alloc (.cells #[.int .i64 x.src,.int .i64 x.dst,.int .i64 x.lane,.int .u32 x.body] 40)) (.cells #[.int .i64 i,.int .i64 j,.int .i64 m] 203);rw[World.size_alloc]at h;exact h) : p := h
theorem zz42 {p : Prop} (h : p := by have h:=heap_alloc_new (w.alloc (.cells #[.int .i64 x.src,.int .i64 x.dst,.int .i64 x.lane,.int .u32 x.body] 40)) (.cells #[.int .i64 i,.int .i64 j,.int .i64 m] 203);rw[World.size_alloc]at h;exact h) : p := h
theorem zz43 {p : Prop} (h : p := by have:=HC.1;omega) : p := h
theorem zz44 {p : Prop} (h : p := by rw[k06 _ _ e2]) : p := h
theorem zz45 {p : Prop} (h : p := by obtain⟨j,hj⟩:=List.mem_iff_getElem?.1 h;exact HN.1 j (List.getElem?_eq_some_iff.1 hj).1 hj) : p := h
theorem zz46 {p : Prop} (h : p := by clear H;go_enter Tryz.func97,Tryz.ntmps97;go_wp2;exact bodyPost_ret (k0E rfl _ _ _ _ rfl (kcy (heap_alloc_new w _))) rfl ⟨rfl,(Below.refl _ w).alloc (Nat.le_refl _) _⟩) : p := h
theorem zz47 {p : Prop} (h : p := by go_ret;refine⟨-1,eset _ _ rfl,.inr ⟨rfl,fun h=>?_⟩,R.1⟩;obtain⟨j,hj⟩:=List.mem_iff_getElem?.1 h;exact HN.1 j (by have:=(List.getElem?_eq_some_iff.1 hj).1;have:=HL.1;omega) hj) : p := h
theorem zz48 {p : Prop} (h : p := by go_ret;exact⟨rfl,by first|exact HS2.1.drewN _|exact HS2.1⟩) : p := h
theorem zz49 {p : Prop} (h : p := by unfold Oper.wp execOp;simp only[ho,resolve,invoke,builtin,Sem.run_bind,Sem.run_pure,Result.andThen_ok,List.map_toArray,List.map_cons,List.map_nil,hs,hx,hrun];exact h v1 w1 g1 r1 r2 r3) : p := h
theorem zz50 {p : Prop} (h : p := by first|omega|exact Nat.le_refl _) : p := h
theorem zz51 {p : Prop} (h : p := by rw[List.length_take];omega) : p := h
theorem zz52 {p : Prop} (h : p := by cases h) : p := h
theorem zz53 {p : Prop} (h : p := by rw[hz1]at this;exact zz39) : p := h
theorem zz54 {p : Prop} (h : p := by obtain⟨⟨rfl,rfl⟩,rfl⟩:=hA;obtain⟨g0,g1⟩:=k0M D.hops i a ha;have hl:=k18 D.hops;exact⟨(hc _ zz1).trans g0,(hc (i*2+1) zz1).trans g1⟩) : p := h
theorem zz55 {p : Prop} (h : p := by simp[i64s];omega) : p := h
theorem zz56 {p : Prop} (h : p := by rw[k18];omega) : p := h
theorem zz57 {p : Prop} (h : p := by with_reducible rfl) : p := h
theorem zz58 {p : Prop} (h : p := by refine bodyPost_ret (results_cell_row rfl _ _ w2.heap.size 46 _ (0,0) _ rfl (heap_alloc_new w2 _) Tryz.underlying46 rfl zz2) rfl ⟨rfl,hB.alloc zz1 _⟩) : p := h
theorem zz59 {p : Prop} (h : p := by intro u hu;simp at hu;rcases hu with rfl|rfl<;>rfl) : p := h
theorem zz60 {p : Prop} (h : p := by show n2-ixOf (.int .i64 ((j:Int)+1))<n2-ixOf (.int .i64 (j:Int));exact zz9) : p := h
theorem zz61 {p : Prop} (h : p := by first|rfl|(simp[k2l,k2r]<;>rfl)|(simp only[<- hji4];first|rfl|(simp[k2l,k2r]<;>rfl))|(simp[*,k2l,k2r]<;>rfl)) : p := h
theorem zz62 {p : Prop} (h : p := by simp[Builtin.delete_,run_underlying M.ht,MapKept.run_getObj_map hb,M.law.check w _ hl,f1,MapKept.run_setObj_map _ hb,Result.andThen,setBlock]) : p := h
theorem zz63 {p : Prop} (h : p := by go_ret;exact⟨rfl,Below.refl _ _⟩) : p := h
theorem zz64 {p : Prop} (h : p := by subst hji;exact hy.wpOp hi hS ⟨fun _=>hS,H⟩) : p := h
theorem zz65 {p : Prop} (h : p := by obtain⟨b,off,cap,hg,hA,_,_,hc⟩:=h.hops.open zz1;simp only[Value.slice.injEq,Option.some.injEq,Addr.mk.injEq,and_true,true_and]at hA;exact zz54) : p := h
theorem zz66 {p : Prop} (h : p := by go_wp2;go_ret;exact⟨rfl,(Below.refl _ w).alloc (Nat.le_refl _) _⟩) : p := h
theorem zz67 {p : Prop} (h : p := by rw[e];simp only[Prod.mk.injEq]at e3;obtain⟨rfl,rfl,rfl⟩:=e3;rfl) : p := h
theorem zz68 {p : Prop} (h : p := by (refine Or.inl ⟨?_,?_⟩;rfl;intro w hSw;(try dsimp only at hSw);have hLk:=LKA.1 w hSw.2.2.2.2.2.1;go_simp;try with_reducible rfl)) : p := h
theorem zz69 {p : Prop} (h : p := by go_wp2;go_ret;exact⟨_,zz10,by(with_reducible repeat(first|apply Kd.R_alloc|apply Kd.R_drewN|apply Kd.R_drew));exact HO_3.1,zz0⟩) : p := h
theorem zz70 {p : Prop} (h : p := by first|exact Kd.S_nil _ _ _ _ _|exact Kd.N_nil _ _ _ _ _|exact Kd.V_nil _ _ _ _ _|exact Kd.Q_nil _ _ _ _ _|exact Kd.R_nil _ _ _ _ _) : p := h
theorem zz71 {p : Prop} (h : p := by (refine Or.inl ⟨?_,?_⟩;rfl;intro w hSw;(try dsimp only at hSw);have hLk:=LKB.1 w hSw.2.2.2.2;go_simp;try with_reducible rfl)) : p := h
theorem zz72 {p : Prop} (h : p := by (refine Or.inl ⟨?_,?_⟩;rfl;intro w hSw;(try dsimp only at hSw);have hLk:=LKA.1 w hSw.2.2.2.2;go_simp;try with_reducible rfl)) : p := h
theorem zz73 {p : Prop} (h : p := by rw[e]at e2;cases e2;exact Nat.lt_of_lt_of_le (k03 h.res) hb) : p := h
theorem zz74 {p : Prop} (h : p := by simpa using h) : p := h
theorem zz75 {p : Prop} (h : p := by have:=BN.1;omega) : p := h
theorem zz76 {p : Prop} (h : p := by unfold Oper.wp;simp[execOp,ho,resolve,invoke,builtin,hs,hx,hrun,Result.andThen];exact hK' _ _ (h v1 w1 g1 r1 r2 r3)) : p := h
theorem zz77 {p : Prop} (h : p := by cases e4;rw[<- e,KH3.1]at hh4;cases hh4) : p := h
theorem zz78 {p : Prop} (h : p := by simpa[World.setCell] using hb) : p := h
theorem zz79 {p : Prop} (h : p := by simp only[maxLen];omega) : p := h
theorem zz80 {p : Prop} (h : p := by simp[h']at h0 h1;rw[h0]at h1;cases h1) : p := h
theorem zz81 {p : Prop} (h : p := by simp[Array.getElem?_eq_none h']at h1) : p := h
theorem zz82 {p : Prop} (h : p := by have:=HL.1;omega) : p := h
theorem zz83 {p : Prop} (h : p := by simpa using hj) : p := h
theorem zz84 {p : Prop} (h : p := by simp;exact zz1) : p := h
theorem zz85 {p : Prop} (h : p := by have:=HJ2.1;have:=HK2.1;have:=HK3.1;have:=HK4.1;omega) : p := h
theorem zz86 {p : Prop} (h : p := by first|exact k1H _ _|(simpa using k05 (k1H w (.cells #[.int .u16 0] 244)) 0 (.int .u16 65535))) : p := h
theorem zz87 {p : Prop} (h : p := by rw[if_neg hc,if_neg hc,Option.map_some,Addr.add_lit]) : p := h
theorem zz88 {p : Prop} (h : p := by refine Or.inl ⟨?_,?_⟩;rfl;intro w hSw;have b0:=fun i=>k00 hSw i;go_simp;try with_reducible rfl) : p := h
theorem zz89 {p : Prop} (h : p := by intro x hx hq;simp at hq;exact zz1) : p := h
theorem zz90 {p : Prop} (h : p := by go_wp2;go_ret;exact⟨zz11,zz18⟩) : p := h
theorem zz91 {p : Prop} (h : p := by rw[hz2];omega) : p := h
theorem zz92 {p : Prop} (h : p := by unfold k08;omega) : p := h
theorem zz93 {p : Prop} (h : p := by rw[List.length_append,List.length_take];omega) : p := h
theorem zz94 {p : Prop} (h : p := by rw[Array.getElem?_map,Array.getElem?_range,if_pos (by simpa using hk)];simp[Nat.mod_one]) : p := h
theorem zz95 {p : Prop} (h : p := by have:=k1E D G D.nodes (Nat.le_refl _);have:=G.n1;unfold PlanD.hops at hn;omega) : p := h
theorem zz96 {p : Prop} (h : p := by go_ret;exact⟨(k:Nat),eset _ _ rfl,.inl ⟨k,rfl,HX.1⟩,k0e HB.1.1 _⟩) : p := h
theorem zz97 {p : Prop} (h : p := by unfold mayB at h;rw[show(tt == 0)=false from by simp;omega]at h;simp at h;exact h.2) : p := h
theorem zz98 {p : Prop} (h : p := by show np D v-ixOf (.int .i64 ((i:Int)+1))<np D v-ixOf (.int .i64 (i:Int));exact zz9) : p := h
theorem zz99 {p : Prop} (h : p := by obtain⟨b0,b1,b2,b3⟩:=box4 (w:=w) N01.1;exact⟨k00 HH1.1 0,b0,b1,b2,b3⟩) : p := h
theorem zz100 {p : Prop} (h : p := by have:=R.1.row.1;omega) : p := h
theorem zz101 {p : Prop} (h : p := by have:=H0.1.2.1.r3 i k hi1 hi hk;have:=H0.1.2.2.2.1.r1;show(st.rcv i k).2<=8;omega) : p := h
theorem zz102 {p : Prop} (h : p := by show(match D.edges[k]? with|some (a,b)=>_|none=>_)=_;rw[hab];simp[hab',hax,hbx]) : p := h
theorem zz103 {p : Prop} (h : p := by rw[List.length_range,hX.len,HQ.1,List.length_cons]at h1;have:=hp.len;exact zz1) : p := h
theorem zz104 {p : Prop} (h : p := by intro h;simp at h;exact hab (by obtain⟨h1,h2⟩:=h;rw[Prod.mk.injEq];omega)) : p := h
theorem zz105 {p : Prop} (h : p := by go_ret;refine⟨-1,eset _ _ rfl,.inr ⟨rfl,fun h=>?_⟩,HB.1.1⟩;exact zz45) : p := h
theorem zz106 {p : Prop} (h : p := by rw[if_pos rfl]at H;exact H) : p := h
theorem zz107 {p : Prop} (h : p := by have:=h.g0;show w0.heap.size≠g;omega) : p := h
theorem zz108 {p : Prop} (h : p := by simp[World.setCell]) : p := h
theorem zz109 {p : Prop} (h : p := by rw[if_neg e3]at h;cases h) : p := h
theorem zz110 {p : Prop} (h : p := by rw[Nat.add_zero,hs]at this;exact this) : p := h
end Go.Proofs.YtdopmlopafgonaaGreatDoor.Own
