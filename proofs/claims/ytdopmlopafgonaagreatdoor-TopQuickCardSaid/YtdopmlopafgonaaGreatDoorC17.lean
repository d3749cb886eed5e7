/- TopQuick: one packet alone is brought from host to host (a part of the walks and of the plain laws). -/
import Derived.Test.YtdopmlopafgonaaGreatDoorC0
import Derived.Test.YtdopmlopafgonaaGreatDoorC16
set_option linter.unusedVariables false
set_option linter.unusedSimpArgs false
set_option maxHeartbeats 4000000
set_option maxRecDepth 100000
namespace Go.Proofs.YtdopmlopafgonaaGreatDoor.Own
open Go.RowKit Go.Proofs.YtdopmlopafgonaaGreatDoorW.PrintWords Go.Proofs.YtdopmlopafgonaaGreatDoorW.PrintLast Go.Proofs.YtdopmlopafgonaaGreatDoorW.PrintMore
theorem kaT:∃ i,Tryz.prog.info? 3=some i/\i.size=1:=by
 have h:(Tryz.prog.info? 3).map (fun i=>i.size)=some 1:=by kernel_rfl
 obtain ⟨i,hi,hx⟩:=Option.map_eq_some_iff.1 h;exact ⟨i,hi,hx⟩
theorem k3Y {w W:World} {b:Nat} {m:Way->Option Value} (h:MapAt mapQ w b m) (a:Way) (ha:mapQ.good a) {V:Value} (hl:(Instr.lookup 198 (.map (some b)) (way a) false).run Tryz.prog w = .ok V w) (hW:W.heap[b]? = w.heap[b]?):(Instr.lookup 198 (.map (some b)) (way a) false).run Tryz.prog W = .ok V W:=by
 have h1:=h.look a ha;have h2:=(h.of_blk hW).look a ha;have h3:=h1.symm.trans hl;injection h3 with h3
 subst h3;exact h2
theorem k2V {S:Col->Prop} {o o':Nat->Col} {w w':World} (h:Tr S o w.drew o' w'):Tr S o w o' w':=⟨Only.undrew h.only,h.own,h.fresh⟩
section
variable {w:World} {o:Nat->Col} {c d:Col} {g n:Nat} {p k:Int} {q:Way->List Pk}
theorem k9d {w6:World} {X:RingsIn} {a:Way} {r:List Pk} {s:Nat} {ss:List Nat} {V5:Value} (hf:Fresh o w) (hcd:c≠d) (hg:o g=c) (hX:X.ok w o c n q) (P:PoolAt w o d X.gp n (upd X.f s none) (s :: X.l)) (hpk:p<=16/\k<=3)
 (hh:w.heap[g]? = some (.cells #[.pointer (some ⟨X.gp,0,none⟩),.map (some X.mb),.int .i64 p,.int .i64 k] 200 (0,0))) (hs:X.qs a=s :: ss) (hss:ss.map X.f=r.map some)
 (M6:MapAt mapQ w6 X.mb (fun y=>if updw X.qs a ss y=[] then none else some (updw X.v a V5 y))) (R:Row w V5 3 1 ss.length (i64s ss) (some (X.gq a))) (O6:Only (fun b=>b=X.mb) w w6) :
 Tr (fun y=>y=c) o w o w6/\RingsAt w6 o c d g p k n (updw q a r):=by
 have T:Tr (fun y=>y=c) o w o w6:=⟨O6.mono (fun b _ e=>by rw [e];exact hX.om),fun _ _=>rfl,fun b hb=>hf b (Nat.le_trans O6.size hb)⟩;have hnil:X.qs a≠[]:=by rw [hs];simp
 have hn:=hX.nodup a;rw [hs,List.nodup_cons] at hn;have sub:∀ y i,i∈updw X.qs a ss y->i∈X.qs y/\i≠s:=fun y i hi=>by
  by_cases e:y=a
  · subst e
    rw [k0n] at hi;exact ⟨by rw [hs];simp [hi],fun e=>hn.1 (e ▸ hi)⟩
  · rw [k0i _ _ e] at hi
    exact ⟨hi,fun h=>e (hX.once y a i hi (by rw [h,hs];simp))⟩
 have ne:∀ y,updw X.qs a ss y≠[]->X.qs y≠[]:=fun y h=>by
  by_cases e:y=a
  · subst e;exact hnil
  · rw [k0i _ _ e] at h;exact h
 have bne:∀ y,X.qs y≠[]->X.gq y≠X.mb:=fun y h=>by
  obtain ⟨cur,hc⟩:=(hX.row y h).blk_ty;exact k0z hX.map hc
 refine ⟨T,hg,⟨X.gp,X.mb,upd X.f s none,s :: X.l,updw X.qs a ss,updw X.v a V5,X.gq⟩,?_,P.tr T (Ne.symm hcd),?_,hpk⟩
 · exact (O6.keep g (k03 hh) (k0z hX.map hh)).trans hh
 · refine ⟨hX.om,M6,fun y hy=>?_,fun y hy=>hX.og y (ne y hy),fun y z hy hz e=>hX.apart y z (ne y hy) (ne z hz) e,fun y=>?_,fun y i hi=>hX.lt y i (sub y i hi).1,fun y=>?_,fun y z i hy hz=>hX.once y z i (sub y i hy).1 (sub z i hz).1,fun i hi hfi=>?_⟩
   · show Row w6 (updw X.v a V5 y) 3 1 (updw X.qs a ss y).length (i64s (updw X.qs a ss y)) (some (X.gq y))
     by_cases e:y=a
     · subst e
       rw [k0n,k0n];exact R.only O6 (fun b e=>by cases e;exact bne y hnil)
     · rw [k0i _ _ e,k0i _ _ e]
       have hy':=ne y hy;exact (hX.row y hy').only O6 (fun b e'=>by cases e';exact bne y hy')
   · show (updw X.qs a ss y).map (upd X.f s none)=(updw q a r y).map some
     rw [List.map_congr_left (g:=X.f) (fun i hi=>k06 _ _ (sub y i hi).2)];by_cases e:y=a
     · subst e
       rw [k0n,k0n];exact hss
     · rw [k0i _ _ e,k0i _ _ e];exact hX.hold y
   · by_cases e:y=a
     · subst e;simp only [k0n];exact hn.2
     · simp only [k0i _ _ e];exact hX.nodup y
   · by_cases e:i=s
     · subst e;exact absurd (k04 _ _ _) hfi
     · have hf':X.f i≠none:=by simpa [upd,e] using hfi
       obtain ⟨y,hy⟩:=hX.all i hi hf';refine ⟨y,?_⟩;by_cases ey:y=a
       · subst ey
         simp only [k0n];rw [hs] at hy;exact (List.mem_cons.1 hy).resolve_left e
       · simp only [k0i _ _ ey];exact hy
theorem k4D (i j m:Nat) (x:Pk) (r:List Pk) (hf:Fresh o w) (hcd:c≠d) (hcj:c ≠ .junk) (hdj:d ≠ .junk) (H:RingsAt w o c d g p k n q) (hi:i<16) (hj:j<16) (hm:m<3) (hq:q (i,j,m)=x :: r) (hz:r≠[]) :
 Calls Tryz.prog 129 #[.pointer (some ⟨g,0,none⟩),.int .i64 i,.int .i64 j,.int .i64 m] w fun e w'=>e = .returned (.tuple #[x.agg,.bool true])/\Tr (fun y=>y=c\/y=d) o w o w'/\RingsAt w' o c d g p k n (updw q (i,j,m) r):=by
 have B0:=Ab ((Below.refl w.heap.size w).alloc (Nat.le_refl _) (.cells #[.int .i64 0,.int .i64 0,.int .i64 0,.int .u32 0] 40));have HD:=Ab (k59 i j m x r (H.blw B0.out) hi hj hm hq);have H0:=Ab H;have HF:=Ab hf;have HC:=Ab (And.intro hcd (And.intro hcj hdj));have HN:=Ab (And.intro hi (And.intro hj hm));have HQ:=Ab hq;have HZ:=Ab hz;have Z0:=Ab (heap_alloc_new w (.cells #[.int .i64 0,.int .i64 0,.int .i64 0,.int .u32 0] 40));have LT:=Ab (show g<w.heap.size from by obtain ⟨_,X,hh,_⟩:=H;exact k03 hh);clear H hf hcd hcj hdj hz hq;go_enter Tryz.func129,Tryz.ntmps129
 go_wp2_with (go_at_call 152;refine HD.out.mono ?_;rintro e w1 ⟨rfl,hb⟩;have B1:=Ab (k0B B0.out B0.out.size hb);have Z1:=Ab ((hb.block w.heap.size zz17).trans Z0.out);clear hb)
 have B2:=Ab (show Below w.heap.size w ((w1.alloc (.cells #[.int .i64 x.src,.int .i64 x.dst,.int .i64 x.lane,.int .u32 x.body] 40)).alloc (.cells #[.int .i64 i,.int .i64 j,.int .i64 m] 203)) from (B1.out.alloc B1.out.size _).alloc (Nat.le_trans B1.out.size zz17) _);have X2:=Ab (show ((w1.alloc (.cells #[.int .i64 x.src,.int .i64 x.dst,.int .i64 x.lane,.int .u32 x.body] 40)).alloc (.cells #[.int .i64 i,.int .i64 j,.int .i64 m] 203)).heap[w1.heap.size]? = some (.cells #[.int .i64 x.src,.int .i64 x.dst,.int .i64 x.lane,.int .u32 x.body] 40) from (Below.heap_alloc _ _ _ zz17).trans (heap_alloc_new w1 _));have K2:=Ab (show ((w1.alloc (.cells #[.int .i64 x.src,.int .i64 x.dst,.int .i64 x.lane,.int .u32 x.body] 40)).alloc (.cells #[.int .i64 i,.int .i64 j,.int .i64 m] 203)).heap[w1.heap.size+1]? = some (.cells #[.int .i64 i,.int .i64 j,.int .i64 m] 203) from by have h:=heap_alloc_new (w1.alloc (.cells #[.int .i64 x.src,.int .i64 x.dst,.int .i64 x.lane,.int .u32 x.body] 40)) (.cells #[.int .i64 i,.int .i64 j,.int .i64 m] 203);rw [World.size_alloc] at h;exact h);have Z2:=Ab (show ((w1.alloc (.cells #[.int .i64 x.src,.int .i64 x.dst,.int .i64 x.lane,.int .u32 x.body] 40)).alloc (.cells #[.int .i64 i,.int .i64 j,.int .i64 m] 203)).heap[w.heap.size]? = some (.cells #[.int .i64 0,.int .i64 0,.int .i64 0,.int .u32 0] 40) from (Below.heap_alloc _ _ _ (by have:=k03 Z1.out;simp;omega)).trans ((Below.heap_alloc _ _ _ (k03 Z1.out)).trans Z1.out));obtain ⟨w2,hw2⟩:∃ w2,w2=(w1.alloc (.cells #[.int .i64 x.src,.int .i64 x.dst,.int .i64 x.lane,.int .u32 x.body] 40)).alloc (.cells #[.int .i64 i,.int .i64 j,.int .i64 m] 203):=⟨_,rfl⟩;rw [<- hw2] at B2 X2 K2 Z2;obtain ⟨hg,X,hh,hp,hX,hpk⟩:=H0.out.blw B2.out;obtain ⟨A,cap,hl,hv⟩:=hX.look i j m HN.out.1 HN.out.2.1 HN.out.2.2;obtain ⟨s,ss,hs,hfs,hsn,hss⟩:=hX.head HQ.out;rw [HQ.out,List.length_cons] at hl hv;have hR:Row w2 (.slice A (r.length+1) cap) 3 1 (r.length+1) (i64s (X.qs (i,j,m))) (some (X.gq (i,j,m))):=by
  rcases hv with ⟨h,_⟩ | ⟨_,_,h⟩
  · exact zz45
  · exact h
 obtain ⟨b,off,cap',hb,hv2,hcap,hfz,hrd⟩:=hR.open zz1;simp only [Value.slice.injEq,true_and] at hv2;obtain ⟨rfl,rfl⟩:=hv2;have h0:w2.cell? ⟨b,off,none⟩=some (.int .i64 s):=by
  have:=hrd 0 (by rw [hs];simp [i64s]);exact zz80
 have hlen:ss.length=r.length:=by have:=congrArg List.length hss;simpa using this
 obtain ⟨o1,ho1⟩:∃ o1,o1=if cap=1 then off else off+1:=⟨_,rfl⟩
 have HT:=Ab (show Row w2 (.slice (some ⟨b,o1,none⟩) r.length (cap-1)) 3 1 ss.length (i64s ss) (some (X.gq (i,j,m))) by
  have:=Row.tail hR;rw [<- ho1,hs] at this;rw [hlen];exact this)
 obtain ⟨i3,hi3,hs3⟩:=kaT;have CT:∀ W:World,(Instr.slice 29 (.slice (some ⟨b,off,none⟩) (r.length+1) cap) (some (.int .i64 1)) none none).run Tryz.prog W = .ok (.slice (some ⟨b,o1,none⟩) r.length (cap-1)) W:=fun W=>by
  have h:=k12 29 3 .i64 Tryz.underlying29 hi3 1 hs3 (some ⟨b,off,none⟩) (r.length+1) cap 1 zz1 zz1 W;have e:(if cap=1 then some (⟨b,off,none⟩:Addr) else (some (⟨b,off,none⟩:Addr)).map (·.add (1*1)))=some ⟨b,o1,none⟩:=by
   rw [ho1];by_cases hc:cap=1
   · rw [if_pos hc,if_pos hc]
   · exact zz61
  rw [<- e];exact h
 have hrl:(r.length:Int)+1<=1000:=by
  have h1:=k1Q (X.qs (i,j,m)) (List.range n) (hX.nodup _) (fun y hy=>List.mem_range.2 (hX.lt _ y hy));exact zz75
 have HS:=Ab (show (fun (W:World)=>W.cell? ⟨g,0,none⟩=some (.pointer (some ⟨X.gp,0,none⟩))/\W.cell? ⟨g,1,none⟩=some (.map (some X.mb))/\W.cell? ⟨w1.heap.size+1,0,none⟩=some (.int .i64 i)/\W.cell? ⟨w1.heap.size+1,1,none⟩=some (.int .i64 j)/\W.cell? ⟨w1.heap.size+1,2,none⟩=some (.int .i64 m)/\W.heap[X.mb]? = w2.heap[X.mb]? /\ W.cell? ⟨b,off,none⟩=some (.int .i64 s)) w2 from ⟨k00 hh 0,k00 hh 1,k00 K2.out 0,k00 K2.out 1,k00 K2.out 2,rfl,h0⟩);have LKA:=Ab (show ∀ W:World,W.heap[X.mb]? = w2.heap[X.mb]? -> (Instr.lookup 198 (.map (some X.mb)) (.agg #[.int .i64 i,.int .i64 j,.int .i64 m]) false).run Tryz.prog W = .ok (.slice (some ⟨b,off,none⟩) (r.length+1) cap) W from fun W hW=>k3Y hX.map (i,j,m) ⟨by show i<_;have:=HN.out;omega,by show j<_;have:=HN.out;omega,by show m<_;have:=HN.out;omega⟩ hl hW);have HP:=Ab hp;have HX:=Ab hX;have HFS:=Ab (And.intro hfs hsn);have HSS:=Ab (And.intro hs hss);have HH:=Ab hh;have HG:=Ab (And.intro hg hpk);have F2:=Ab (HF.out.blw B2.out);have JK:=Ab (show ∀ b,w.heap.size<=b->o b≠c/\o b≠d from fun b hb=>by rw [HF.out b hb];exact ⟨Ne.symm HC.out.2.1,Ne.symm HC.out.2.2⟩);have S1:=Ab B1.out.size;have hl0:=hl;clear hl0 hX hp hR hrd hfz hv h0 hfs hsn hs hss hh hb ho1 hi3 hs3 hg hpk hlen hl;rw [<- hw2];clear hw2;refine WpL.region (fun (W:World)=>W.cell? ⟨g,0,none⟩=some (.pointer (some ⟨X.gp,0,none⟩))/\W.cell? ⟨g,1,none⟩=some (.map (some X.mb))/\W.cell? ⟨w1.heap.size+1,0,none⟩=some (.int .i64 i)/\W.cell? ⟨w1.heap.size+1,1,none⟩=some (.int .i64 j)/\W.cell? ⟨w1.heap.size+1,2,none⟩=some (.int .i64 m)/\W.heap[X.mb]? = w2.heap[X.mb]? /\ W.cell? ⟨b,off,none⟩=some (.int .i64 s)) 12 zz3 ?_;refine WpL.T 0 [3,2,1] HS.out ?_;refine WpL.T 1 [3,2] HS.out ?_;refine WpL.T 2 [3] HS.out ?_;refine WpL.T 3 [] HS.out ?_;refine WpL.T 4 [11,10,9,7,6,5] HS.out ?_;refine WpL.T 5 [11,10,9,7,6] HS.out ?_;refine WpL.T 6 [11,10,9,7] HS.out ?_;refine WpL.T 7 [11,10,9] HS.out ?_;refine WpL.T 8 [11,10,9] HS.out ?_;refine WpL.take (i:=9) (v:=?vq1_9) (rfl) zz3 zz3 zz3 [11,10] zz3 zz3 (fun _ _ _ h=>h) ?yq1_9 (HS.out) ?rq1_9
 case yq1_9=>(refine Or.inl ⟨?_,?_⟩;rfl;intro w hSw;(try dsimp only at hSw);have hLk:=LKA.out w hSw.2.2.2.2.2.1;go_simp;try with_reducible rfl)
 refine Sm ?_;refine WpL.T 10 [11] HS.out ?_;refine WpL.T 11 [] HS.out ?_;refine WpL.one (i:=12) zz3 rfl (fun K hK=>?_);go_simp;refine (k61 s x (F2.out.blw (Below.refl _ _).drew) (HP.out.blw (Below.refl _ _).drew) HFS.out.2 HFS.out.1).mono ?_;rintro e w3 ⟨rfl,T3',P3⟩;have T3:=Ab (k2V T3');have PP:=Ab P3;have K3:=Ab (T3.out.blk (g:=w1.heap.size+1) K2.out (JK.out _ (by have:=S1.out;omega)).2);have X3:=Ab (T3.out.blk (g:=w1.heap.size) X2.out (JK.out _ S1.out).2);have Z3:=Ab (T3.out.blk (g:=w.heap.size) Z2.out (JK.out _ (Nat.le_refl _)).2);have HH3:=Ab (T3.out.blk (g:=g) HH.out (by rw [HG.out.1];exact HC.out.1));have XX:=Ab (HX.out.tr T3.out HC.out.1);clear T3' P3;simp only [];refine hK.out _ _ (fun h=>absurd rfl h) ?_;clear hK K
 try refine Sm ?_
 refine WpL.done zz3 ?_ _;go_wp2;have R3:=Ab (HT.out.only T3.out.only (fun b e=>by cases e;rw [HX.out.og _ (by rw [HSS.out.1];simp)];exact HC.out.1));have HS5:=Ab (show (fun (W:World)=>W.cell? ⟨g,1,none⟩=some (.map (some X.mb))/\W.cell? ⟨w1.heap.size+1,0,none⟩=some (.int .i64 i)/\W.cell? ⟨w1.heap.size+1,1,none⟩=some (.int .i64 j)/\W.cell? ⟨w1.heap.size+1,2,none⟩=some (.int .i64 m)/\W.heap[X.mb]? = w2.heap[X.mb]?) w3 from ⟨k00 HH3.out 1,k00 K3.out 0,k00 K3.out 1,k00 K3.out 2,T3.out.only.same HX.out.map.lt (by rw [HX.out.om];exact HC.out.1)⟩);have GO:=Ab (show mapQ.good (i,j,m) from ⟨by show i<_;have:=HN.out;omega,by show j<_;have:=HN.out;omega,by show m<_;have:=HN.out;omega⟩);refine WpL.region (fun (W:World)=>W.cell? ⟨g,1,none⟩=some (.map (some X.mb))/\W.cell? ⟨w1.heap.size+1,0,none⟩=some (.int .i64 i)/\W.cell? ⟨w1.heap.size+1,1,none⟩=some (.int .i64 j)/\W.cell? ⟨w1.heap.size+1,2,none⟩=some (.int .i64 m)/\W.heap[X.mb]? = w2.heap[X.mb]?) 12 zz3 ?_;refine WpL.T 0 [] HS5.out ?_;refine WpL.T 1 [] HS5.out ?_;refine WpL.T 2 [] HS5.out ?_;refine WpL.T 3 [] HS5.out ?_;refine WpL.T 4 [] HS5.out ?_;refine WpL.T 5 [] HS5.out ?_;refine WpL.T 6 [] HS5.out ?_;refine WpL.T 7 [] HS5.out ?_;refine WpL.T 8 [] HS5.out ?_;refine WpL.T 9 [] HS5.out ?_;refine WpL.take (i:=10) (v:=?vq2_10) (rfl) zz3 zz3 zz3 [] zz3 zz3 (fun _ _ _ h=>h) ?yq2_10 (HS5.out) ?rq2_10
 case yq2_10=>(refine Or.inl ⟨?_,?_⟩;rfl;intro w hSw;(try dsimp only at hSw);have hLk:=LKA.out w hSw.2.2.2.2;go_simp;try with_reducible rfl)
 refine Sm ?_;refine WpL.T 11 [] HS5.out ?_;refine WpL.one (i:=12) zz3 rfl (fun K hK=>?_);refine k2Q (M:=mapQ) (b:=X.mb) rfl _ _ _ (i,j,m) (.slice (some ⟨b,o1,none⟩) r.length (cap-1)) rfl (XX.out.map.of_blk rfl) rfl rfl rfl GO.out ?_;intro w4 M4' O4';have M4:=Ab M4';have O4:=Ab (Only.undrew O4');clear M4' O4';refine hK.out _ _ (fun h=>absurd rfl h) ?_;clear hK K
 try refine Sm ?_
 refine WpL.done zz3 ?_ _;go_wp2;have K4:=Ab (O4.out.blk K3.out (k0z XX.out.map K3.out));have X4:=Ab (O4.out.blk X3.out (k0z XX.out.map X3.out));have Z4:=Ab (O4.out.blk Z3.out (k0z XX.out.map Z3.out));have HH4:=Ab (O4.out.blk HH3.out (k0z XX.out.map HH3.out));have LK4:=Ab (show (Instr.lookup 198 (.map (some X.mb)) (.agg #[.int .i64 i,.int .i64 j,.int .i64 m]) false).run Tryz.prog w4 = .ok (.slice (some ⟨b,o1,none⟩) r.length (cap-1)) w4 from by
  have h1:=M4.out.look (i,j,m) GO.out;rw [if_pos rfl] at h1;exact h1)
 have LKB:=Ab (show ∀ W:World,W.heap[X.mb]? = w4.heap[X.mb]? -> (Instr.lookup 198 (.map (some X.mb)) (.agg #[.int .i64 i,.int .i64 j,.int .i64 m]) false).run Tryz.prog W = .ok (.slice (some ⟨b,o1,none⟩) r.length (cap-1)) W from fun W hW=>k3Y M4.out (i,j,m) GO.out LK4.out hW);have HS6:=Ab (show (fun (W:World)=>W.cell? ⟨g,1,none⟩=some (.map (some X.mb))/\W.cell? ⟨w1.heap.size+1,0,none⟩=some (.int .i64 i)/\W.cell? ⟨w1.heap.size+1,1,none⟩=some (.int .i64 j)/\W.cell? ⟨w1.heap.size+1,2,none⟩=some (.int .i64 m)/\W.heap[X.mb]? = w4.heap[X.mb]?) w4 from ⟨k00 HH4.out 1,k00 K4.out 0,k00 K4.out 1,k00 K4.out 2,rfl⟩);have ez:((r.length:Int) == 0)=false:=by exact beq_eq_false_iff_ne.mpr (fun h=>HZ.out (List.eq_nil_of_length_eq_zero zz1))
 refine WpL.region (fun (W:World)=>W.cell? ⟨g,1,none⟩=some (.map (some X.mb))/\W.cell? ⟨w1.heap.size+1,0,none⟩=some (.int .i64 i)/\W.cell? ⟨w1.heap.size+1,1,none⟩=some (.int .i64 j)/\W.cell? ⟨w1.heap.size+1,2,none⟩=some (.int .i64 m)/\W.heap[X.mb]? = w4.heap[X.mb]?) 7 zz3 ?_;refine WpL.T 0 [6,5,3,2,1] HS6.out ?_;refine WpL.T 1 [6,5,3,2] HS6.out ?_;refine WpL.T 2 [6,5,3] HS6.out ?_;refine WpL.T 3 [6,5] HS6.out ?_;refine WpL.T 4 [6,5] HS6.out ?_;refine WpL.take (i:=5) (v:=?vq3_5) (rfl) zz3 zz3 zz3 [6] zz3 zz3 (fun _ _ _ h=>h) ?yq3_5 (HS6.out) ?rq3_5
 case yq3_5=>(refine Or.inl ⟨?_,?_⟩;rfl;intro w hSw;(try dsimp only at hSw);have hLk:=LKB.out w hSw.2.2.2.2;go_simp;try with_reducible rfl)
 refine Sm ?_;refine WpL.T 6 [] HS6.out ?_;refine WpL.one (i:=7) zz3 rfl (fun K hK=>?_);go_simp;refine hK.out _ _ (fun h=>absurd rfl h) ?_;clear hK K
 try refine Sm ?_
 refine WpL.done zz3 ?_ _;have X5:=X4;have Z5:=Z4;have O35:=O4;have M6:=Ab (show MapAt mapQ w4 X.mb (fun y=>if updw X.qs (i,j,m) ss y=[] then none else some (updw X.v (i,j,m) (.slice (some ⟨b,o1,none⟩) r.length (cap-1)) y)) from by
  have hss0:ss≠[]:=fun h=>HZ.out (List.eq_nil_of_length_eq_zero (by have:=congrArg List.length HSS.out.2;rw [h] at this;simpa using this.symm))
  have e:(fun y=>if y=(i,j,m) then some (.slice (some ⟨b,o1,none⟩) r.length (cap-1)) else if X.qs y=[] then none else some (X.v y))=(fun y=>if updw X.qs (i,j,m) ss y=[] then none else some (updw X.v (i,j,m) (.slice (some ⟨b,o1,none⟩) r.length (cap-1)) y)):=by
   funext y;by_cases ey:y=(i,j,m)
   · simp [ey,updw,hss0]
   · simp [ey,updw]
  rw [<- e];exact M4.out)
 obtain ⟨b0,b1,b2,b3⟩:=box4 (w:=w) X5.out;have z0:=k00 Z5.out 0;have z1:=k00 Z5.out 1;have z2:=k00 Z5.out 2;have z3:=k00 Z5.out 3;have zf:=fun k=>k02 Z5.out k
 clear CT ez;go_wp2;obtain ⟨wz,hwz⟩:∃ wz,wz=w4:=⟨_,rfl⟩;rw [<- hwz] at Z5 O35 M6 ⊢;have O4s:=set4 wz w.heap.size (.int .i64 x.src) (.int .i64 x.dst) (.int .i64 x.lane) (.int .u32 x.body);have Z6:=Ab (show ((((wz.setCell ⟨w.heap.size,0,none⟩ (.int .i64 x.src)).setCell ⟨w.heap.size,1,none⟩ (.int .i64 x.dst)).setCell ⟨w.heap.size,2,none⟩ (.int .i64 x.lane)).setCell ⟨w.heap.size,3,none⟩ (.int .u32 x.body)).heap[w.heap.size]? = some (.cells #[.int .i64 x.src,.int .i64 x.dst,.int .i64 x.lane,.int .u32 x.body] 40 (0,0)) from k05 (k05 (k05 (k05 Z5.out 0 _) 1 _) 2 _) 3 _);obtain ⟨t1,t2⟩:=k9d T3.out.fresh HC.out.1 (show o g=c from HG.out.1) XX.out PP.out HG.out.2 HH3.out HSS.out.1 HSS.out.2 M6.out R3.out O35.out;have t3:Tr (fun y=>y = .junk) o wz o ((((wz.setCell ⟨w.heap.size,0,none⟩ (.int .i64 x.src)).setCell ⟨w.heap.size,1,none⟩ (.int .i64 x.dst)).setCell ⟨w.heap.size,2,none⟩ (.int .i64 x.lane)).setCell ⟨w.heap.size,3,none⟩ (.int .u32 x.body)):=
  ⟨O4s.mono (fun b hb e=>by rw [e];exact HF.out _ (Nat.le_refl _)),fun _ _=>rfl,fun b hb=>t1.fresh b (Nat.le_trans O4s.size hb)⟩
 have O:=Ab ((((Only.of_below (P:=fun b=>o b=c\/o b=d) B2.out).then T3.out.only (fun b _ e=>.inr e)).then t1.only (fun b _ e=>.inl e)).then O4s (fun b hb e=>absurd e zz1));have RF:=Ab (t2.tr t3 HC.out.2.1 HC.out.2.2);refine bodyPost_ret (k0C rfl _ _ ⟨w.heap.size,0,none⟩ x.agg rfl (k4O (T:=40) (fr:=(0,0)) ?_)) rfl ⟨rfl,⟨(by first | exact O.out.drew | exact O.out),fun _ _=>rfl,?_⟩,?_⟩
 · exact Z6.out
 · exact t3.fresh
 · first | exact RF.out | exact RF.out.blw (Below.refl _ _).drew
theorem k4y (i j m:Nat) (x:Pk) (r:List Pk) (hf:Fresh o w) (hcd:c≠d) (hcj:c ≠ .junk) (hdj:d ≠ .junk) (H:RingsAt w o c d g p k n q) (hi:i<16) (hj:j<16) (hm:m<3) (hq:q (i,j,m)=x :: r) (hz:r=[]) :
 Calls Tryz.prog 129 #[.pointer (some ⟨g,0,none⟩),.int .i64 i,.int .i64 j,.int .i64 m] w fun e w'=>e = .returned (.tuple #[x.agg,.bool true])/\Tr (fun y=>y=c\/y=d) o w o w'/\RingsAt w' o c d g p k n (updw q (i,j,m) r):=by
 have B0:=Ab ((Below.refl w.heap.size w).alloc (Nat.le_refl _) (.cells #[.int .i64 0,.int .i64 0,.int .i64 0,.int .u32 0] 40));have HD:=Ab (k59 i j m x r (H.blw B0.out) hi hj hm hq);have H0:=Ab H;have HF:=Ab hf;have HC:=Ab (And.intro hcd (And.intro hcj hdj));have HN:=Ab (And.intro hi (And.intro hj hm));have HQ:=Ab hq;have HZ:=Ab hz;have Z0:=Ab (heap_alloc_new w (.cells #[.int .i64 0,.int .i64 0,.int .i64 0,.int .u32 0] 40));have LT:=Ab (show g<w.heap.size from by obtain ⟨_,X,hh,_⟩:=H;exact k03 hh);clear H hf hcd hcj hdj hz hq;go_enter Tryz.func129,Tryz.ntmps129
 go_wp2_with (go_at_call 152;refine HD.out.mono ?_;rintro e w1 ⟨rfl,hb⟩;have B1:=Ab (k0B B0.out B0.out.size hb);have Z1:=Ab ((hb.block w.heap.size zz17).trans Z0.out);clear hb)
 have B2:=Ab (show Below w.heap.size w ((w1.alloc (.cells #[.int .i64 x.src,.int .i64 x.dst,.int .i64 x.lane,.int .u32 x.body] 40)).alloc (.cells #[.int .i64 i,.int .i64 j,.int .i64 m] 203)) from (B1.out.alloc B1.out.size _).alloc (Nat.le_trans B1.out.size zz17) _);have X2:=Ab (show ((w1.alloc (.cells #[.int .i64 x.src,.int .i64 x.dst,.int .i64 x.lane,.int .u32 x.body] 40)).alloc (.cells #[.int .i64 i,.int .i64 j,.int .i64 m] 203)).heap[w1.heap.size]? = some (.cells #[.int .i64 x.src,.int .i64 x.dst,.int .i64 x.lane,.int .u32 x.body] 40) from (Below.heap_alloc _ _ _ zz17).trans (heap_alloc_new w1 _));have K2:=Ab (show ((w1.alloc (.cells #[.int .i64 x.src,.int .i64 x.dst,.int .i64 x.lane,.int .u32 x.body] 40)).alloc (.cells #[.int .i64 i,.int .i64 j,.int .i64 m] 203)).heap[w1.heap.size+1]? = some (.cells #[.int .i64 i,.int .i64 j,.int .i64 m] 203) from by have h:=heap_alloc_new (w1.alloc (.cells #[.int .i64 x.src,.int .i64 x.dst,.int .i64 x.lane,.int .u32 x.body] 40)) (.cells #[.int .i64 i,.int .i64 j,.int .i64 m] 203);rw [World.size_alloc] at h;exact h);have Z2:=Ab (show ((w1.alloc (.cells #[.int .i64 x.src,.int .i64 x.dst,.int .i64 x.lane,.int .u32 x.body] 40)).alloc (.cells #[.int .i64 i,.int .i64 j,.int .i64 m] 203)).heap[w.heap.size]? = some (.cells #[.int .i64 0,.int .i64 0,.int .i64 0,.int .u32 0] 40) from (Below.heap_alloc _ _ _ (by have:=k03 Z1.out;simp;omega)).trans ((Below.heap_alloc _ _ _ (k03 Z1.out)).trans Z1.out));obtain ⟨w2,hw2⟩:∃ w2,w2=(w1.alloc (.cells #[.int .i64 x.src,.int .i64 x.dst,.int .i64 x.lane,.int .u32 x.body] 40)).alloc (.cells #[.int .i64 i,.int .i64 j,.int .i64 m] 203):=⟨_,rfl⟩;rw [<- hw2] at B2 X2 K2 Z2;obtain ⟨hg,X,hh,hp,hX,hpk⟩:=H0.out.blw B2.out;obtain ⟨A,cap,hl,hv⟩:=hX.look i j m HN.out.1 HN.out.2.1 HN.out.2.2;obtain ⟨s,ss,hs,hfs,hsn,hss⟩:=hX.head HQ.out;rw [HQ.out,List.length_cons] at hl hv;have hR:Row w2 (.slice A (r.length+1) cap) 3 1 (r.length+1) (i64s (X.qs (i,j,m))) (some (X.gq (i,j,m))):=by
  rcases hv with ⟨h,_⟩ | ⟨_,_,h⟩
  · exact zz45
  · exact h
 obtain ⟨b,off,cap',hb,hv2,hcap,hfz,hrd⟩:=hR.open zz1;simp only [Value.slice.injEq,true_and] at hv2;obtain ⟨rfl,rfl⟩:=hv2;have h0:w2.cell? ⟨b,off,none⟩=some (.int .i64 s):=by
  have:=hrd 0 (by rw [hs];simp [i64s]);exact zz80
 have hlen:ss.length=r.length:=by have:=congrArg List.length hss;simpa using this
 obtain ⟨o1,ho1⟩:∃ o1,o1=if cap=1 then off else off+1:=⟨_,rfl⟩
 have HT:=Ab (show Row w2 (.slice (some ⟨b,o1,none⟩) r.length (cap-1)) 3 1 ss.length (i64s ss) (some (X.gq (i,j,m))) by
  have:=Row.tail hR;rw [<- ho1,hs] at this;rw [hlen];exact this)
 obtain ⟨i3,hi3,hs3⟩:=kaT;have CT:∀ W:World,(Instr.slice 29 (.slice (some ⟨b,off,none⟩) (r.length+1) cap) (some (.int .i64 1)) none none).run Tryz.prog W = .ok (.slice (some ⟨b,o1,none⟩) r.length (cap-1)) W:=fun W=>by
  have h:=k12 29 3 .i64 Tryz.underlying29 hi3 1 hs3 (some ⟨b,off,none⟩) (r.length+1) cap 1 zz1 zz1 W;have e:(if cap=1 then some (⟨b,off,none⟩:Addr) else (some (⟨b,off,none⟩:Addr)).map (·.add (1*1)))=some ⟨b,o1,none⟩:=by
   rw [ho1];by_cases hc:cap=1
   · rw [if_pos hc,if_pos hc]
   · exact zz61
  rw [<- e];exact h
 have hrl:(r.length:Int)+1<=1000:=by
  have h1:=k1Q (X.qs (i,j,m)) (List.range n) (hX.nodup _) (fun y hy=>List.mem_range.2 (hX.lt _ y hy));exact zz75
 have HS:=Ab (show (fun (W:World)=>W.cell? ⟨g,0,none⟩=some (.pointer (some ⟨X.gp,0,none⟩))/\W.cell? ⟨g,1,none⟩=some (.map (some X.mb))/\W.cell? ⟨w1.heap.size+1,0,none⟩=some (.int .i64 i)/\W.cell? ⟨w1.heap.size+1,1,none⟩=some (.int .i64 j)/\W.cell? ⟨w1.heap.size+1,2,none⟩=some (.int .i64 m)/\W.heap[X.mb]? = w2.heap[X.mb]? /\ W.cell? ⟨b,off,none⟩=some (.int .i64 s)) w2 from ⟨k00 hh 0,k00 hh 1,k00 K2.out 0,k00 K2.out 1,k00 K2.out 2,rfl,h0⟩);have LKA:=Ab (show ∀ W:World,W.heap[X.mb]? = w2.heap[X.mb]? -> (Instr.lookup 198 (.map (some X.mb)) (.agg #[.int .i64 i,.int .i64 j,.int .i64 m]) false).run Tryz.prog W = .ok (.slice (some ⟨b,off,none⟩) (r.length+1) cap) W from fun W hW=>k3Y hX.map (i,j,m) ⟨by show i<_;have:=HN.out;omega,by show j<_;have:=HN.out;omega,by show m<_;have:=HN.out;omega⟩ hl hW);have HP:=Ab hp;have HX:=Ab hX;have HFS:=Ab (And.intro hfs hsn);have HSS:=Ab (And.intro hs hss);have HH:=Ab hh;have HG:=Ab (And.intro hg hpk);have F2:=Ab (HF.out.blw B2.out);have JK:=Ab (show ∀ b,w.heap.size<=b->o b≠c/\o b≠d from fun b hb=>by rw [HF.out b hb];exact ⟨Ne.symm HC.out.2.1,Ne.symm HC.out.2.2⟩);have S1:=Ab B1.out.size;have hl0:=hl;clear hl0 hX hp hR hrd hfz hv h0 hfs hsn hs hss hh hb ho1 hi3 hs3 hg hpk hlen hl;rw [<- hw2];clear hw2;refine WpL.region (fun (W:World)=>W.cell? ⟨g,0,none⟩=some (.pointer (some ⟨X.gp,0,none⟩))/\W.cell? ⟨g,1,none⟩=some (.map (some X.mb))/\W.cell? ⟨w1.heap.size+1,0,none⟩=some (.int .i64 i)/\W.cell? ⟨w1.heap.size+1,1,none⟩=some (.int .i64 j)/\W.cell? ⟨w1.heap.size+1,2,none⟩=some (.int .i64 m)/\W.heap[X.mb]? = w2.heap[X.mb]? /\ W.cell? ⟨b,off,none⟩=some (.int .i64 s)) 12 zz3 ?_;refine WpL.T 0 [3,2,1] HS.out ?_;refine WpL.T 1 [3,2] HS.out ?_;refine WpL.T 2 [3] HS.out ?_;refine WpL.T 3 [] HS.out ?_;refine WpL.T 4 [11,10,9,7,6,5] HS.out ?_;refine WpL.T 5 [11,10,9,7,6] HS.out ?_;refine WpL.T 6 [11,10,9,7] HS.out ?_;refine WpL.T 7 [11,10,9] HS.out ?_;refine WpL.T 8 [11,10,9] HS.out ?_;refine WpL.take (i:=9) (v:=?vq4_9) (rfl) zz3 zz3 zz3 [11,10] zz3 zz3 (fun _ _ _ h=>h) ?yq4_9 (HS.out) ?rq4_9
 case yq4_9=>(refine Or.inl ⟨?_,?_⟩;rfl;intro w hSw;(try dsimp only at hSw);have hLk:=LKA.out w hSw.2.2.2.2.2.1;go_simp;try with_reducible rfl)
 refine Sm ?_;refine WpL.T 10 [11] HS.out ?_;refine WpL.T 11 [] HS.out ?_;refine WpL.one (i:=12) zz3 rfl (fun K hK=>?_);go_simp;refine (k61 s x (F2.out.blw (Below.refl _ _).drew) (HP.out.blw (Below.refl _ _).drew) HFS.out.2 HFS.out.1).mono ?_;rintro e w3 ⟨rfl,T3',P3⟩;have T3:=Ab (k2V T3');have PP:=Ab P3;have K3:=Ab (T3.out.blk (g:=w1.heap.size+1) K2.out (JK.out _ (by have:=S1.out;omega)).2);have X3:=Ab (T3.out.blk (g:=w1.heap.size) X2.out (JK.out _ S1.out).2);have Z3:=Ab (T3.out.blk (g:=w.heap.size) Z2.out (JK.out _ (Nat.le_refl _)).2);have HH3:=Ab (T3.out.blk (g:=g) HH.out (by rw [HG.out.1];exact HC.out.1));have XX:=Ab (HX.out.tr T3.out HC.out.1);clear T3' P3;simp only [];refine hK.out _ _ (fun h=>absurd rfl h) ?_;clear hK K
 try refine Sm ?_
 refine WpL.done zz3 ?_ _;go_wp2;have R3:=Ab (HT.out.only T3.out.only (fun b e=>by cases e;rw [HX.out.og _ (by rw [HSS.out.1];simp)];exact HC.out.1));have HS5:=Ab (show (fun (W:World)=>W.cell? ⟨g,1,none⟩=some (.map (some X.mb))/\W.cell? ⟨w1.heap.size+1,0,none⟩=some (.int .i64 i)/\W.cell? ⟨w1.heap.size+1,1,none⟩=some (.int .i64 j)/\W.cell? ⟨w1.heap.size+1,2,none⟩=some (.int .i64 m)/\W.heap[X.mb]? = w2.heap[X.mb]?) w3 from ⟨k00 HH3.out 1,k00 K3.out 0,k00 K3.out 1,k00 K3.out 2,T3.out.only.same HX.out.map.lt (by rw [HX.out.om];exact HC.out.1)⟩);have GO:=Ab (show mapQ.good (i,j,m) from ⟨by show i<_;have:=HN.out;omega,by show j<_;have:=HN.out;omega,by show m<_;have:=HN.out;omega⟩);refine WpL.region (fun (W:World)=>W.cell? ⟨g,1,none⟩=some (.map (some X.mb))/\W.cell? ⟨w1.heap.size+1,0,none⟩=some (.int .i64 i)/\W.cell? ⟨w1.heap.size+1,1,none⟩=some (.int .i64 j)/\W.cell? ⟨w1.heap.size+1,2,none⟩=some (.int .i64 m)/\W.heap[X.mb]? = w2.heap[X.mb]?) 12 zz3 ?_;refine WpL.T 0 [] HS5.out ?_;refine WpL.T 1 [] HS5.out ?_;refine WpL.T 2 [] HS5.out ?_;refine WpL.T 3 [] HS5.out ?_;refine WpL.T 4 [] HS5.out ?_;refine WpL.T 5 [] HS5.out ?_;refine WpL.T 6 [] HS5.out ?_;refine WpL.T 7 [] HS5.out ?_;refine WpL.T 8 [] HS5.out ?_;refine WpL.T 9 [] HS5.out ?_;refine WpL.take (i:=10) (v:=?vq5_10) (rfl) zz3 zz3 zz3 [] zz3 zz3 (fun _ _ _ h=>h) ?yq5_10 (HS5.out) ?rq5_10
 case yq5_10=>(refine Or.inl ⟨?_,?_⟩;rfl;intro w hSw;(try dsimp only at hSw);have hLk:=LKA.out w hSw.2.2.2.2;go_simp;try with_reducible rfl)
 refine Sm ?_;refine WpL.T 11 [] HS5.out ?_;refine WpL.one (i:=12) zz3 rfl (fun K hK=>?_);refine k2Q (M:=mapQ) (b:=X.mb) rfl _ _ _ (i,j,m) (.slice (some ⟨b,o1,none⟩) r.length (cap-1)) rfl (XX.out.map.of_blk rfl) rfl rfl rfl GO.out ?_;intro w4 M4' O4';have M4:=Ab M4';have O4:=Ab (Only.undrew O4');clear M4' O4';refine hK.out _ _ (fun h=>absurd rfl h) ?_;clear hK K
 try refine Sm ?_
 refine WpL.done zz3 ?_ _;go_wp2;have K4:=Ab (O4.out.blk K3.out (k0z XX.out.map K3.out));have X4:=Ab (O4.out.blk X3.out (k0z XX.out.map X3.out));have Z4:=Ab (O4.out.blk Z3.out (k0z XX.out.map Z3.out));have HH4:=Ab (O4.out.blk HH3.out (k0z XX.out.map HH3.out));have LK4:=Ab (show (Instr.lookup 198 (.map (some X.mb)) (.agg #[.int .i64 i,.int .i64 j,.int .i64 m]) false).run Tryz.prog w4 = .ok (.slice (some ⟨b,o1,none⟩) r.length (cap-1)) w4 from by
  have h1:=M4.out.look (i,j,m) GO.out;rw [if_pos rfl] at h1;exact h1)
 have LKB:=Ab (show ∀ W:World,W.heap[X.mb]? = w4.heap[X.mb]? -> (Instr.lookup 198 (.map (some X.mb)) (.agg #[.int .i64 i,.int .i64 j,.int .i64 m]) false).run Tryz.prog W = .ok (.slice (some ⟨b,o1,none⟩) r.length (cap-1)) W from fun W hW=>k3Y M4.out (i,j,m) GO.out LK4.out hW);have HS6:=Ab (show (fun (W:World)=>W.cell? ⟨g,1,none⟩=some (.map (some X.mb))/\W.cell? ⟨w1.heap.size+1,0,none⟩=some (.int .i64 i)/\W.cell? ⟨w1.heap.size+1,1,none⟩=some (.int .i64 j)/\W.cell? ⟨w1.heap.size+1,2,none⟩=some (.int .i64 m)/\W.heap[X.mb]? = w4.heap[X.mb]?) w4 from ⟨k00 HH4.out 1,k00 K4.out 0,k00 K4.out 1,k00 K4.out 2,rfl⟩);have ez:((r.length:Int) == 0)=true:=by rw [HZ.out];rfl
 refine WpL.region (fun (W:World)=>W.cell? ⟨g,1,none⟩=some (.map (some X.mb))/\W.cell? ⟨w1.heap.size+1,0,none⟩=some (.int .i64 i)/\W.cell? ⟨w1.heap.size+1,1,none⟩=some (.int .i64 j)/\W.cell? ⟨w1.heap.size+1,2,none⟩=some (.int .i64 m)/\W.heap[X.mb]? = w4.heap[X.mb]?) 7 zz3 ?_;refine WpL.T 0 [6,5,3,2,1] HS6.out ?_;refine WpL.T 1 [6,5,3,2] HS6.out ?_;refine WpL.T 2 [6,5,3] HS6.out ?_;refine WpL.T 3 [6,5] HS6.out ?_;refine WpL.T 4 [6,5] HS6.out ?_;refine WpL.take (i:=5) (v:=?vq6_5) (rfl) zz3 zz3 zz3 [6] zz3 zz3 (fun _ _ _ h=>h) ?yq6_5 (HS6.out) ?rq6_5
 case yq6_5=>(refine Or.inl ⟨?_,?_⟩;rfl;intro w hSw;(try dsimp only at hSw);have hLk:=LKB.out w hSw.2.2.2.2;go_simp;try with_reducible rfl)
 refine Sm ?_;refine WpL.T 6 [] HS6.out ?_;refine WpL.one (i:=7) zz3 rfl (fun K hK=>?_);go_simp;refine hK.out _ _ (fun h=>absurd rfl h) ?_;clear hK K
 try refine Sm ?_
 refine WpL.done zz3 ?_ _;go_wp2;have HS7:=Ab (show (fun (W:World)=>W.cell? ⟨g,1,none⟩=some (.map (some X.mb))/\W.cell? ⟨w1.heap.size+1,0,none⟩=some (.int .i64 i)/\W.cell? ⟨w1.heap.size+1,1,none⟩=some (.int .i64 j)/\W.cell? ⟨w1.heap.size+1,2,none⟩=some (.int .i64 m)) w4 from ⟨k00 HH4.out 1,k00 K4.out 0,k00 K4.out 1,k00 K4.out 2⟩);refine WpL.region (fun (W:World)=>W.cell? ⟨g,1,none⟩=some (.map (some X.mb))/\W.cell? ⟨w1.heap.size+1,0,none⟩=some (.int .i64 i)/\W.cell? ⟨w1.heap.size+1,1,none⟩=some (.int .i64 j)/\W.cell? ⟨w1.heap.size+1,2,none⟩=some (.int .i64 m)) 5 zz3 ?_;refine WpL.T 0 [3,2,1] HS7.out ?_;refine WpL.T 1 [3,2] HS7.out ?_;refine WpL.T 2 [3] HS7.out ?_;refine WpL.T 3 [] HS7.out ?_;refine WpL.T 4 [] HS7.out ?_;refine WpL.one (i:=5) zz3 rfl (fun K hK=>?_);refine k6Y (M:=mapQ) (b:=X.mb) rfl _ _ (i,j,m) rfl (M4.out.of_blk rfl) rfl rfl GO.out ?_;intro w5 M5' O5';have M5:=Ab M5';have O5:=Ab (Only.undrew (Only.undrew O5'));clear M5' O5';refine hK.out _ _ (fun h=>absurd rfl h) ?_;clear hK K
 try refine Sm ?_
 refine WpL.done zz3 ?_ _;have X5:=Ab (O5.out.blk X4.out (k0z XX.out.map X3.out));have Z5:=Ab (O5.out.blk Z4.out (k0z XX.out.map Z3.out));have O35:=Ab (O4.out.trans O5.out);have M6:=Ab (show MapAt mapQ w5 X.mb (fun y=>if updw X.qs (i,j,m) ss y=[] then none else some (updw X.v (i,j,m) (.slice (some ⟨b,o1,none⟩) r.length (cap-1)) y)) from by
  have hss0:ss=[]:=List.eq_nil_of_length_eq_zero (by have:=congrArg List.length HSS.out.2;rw [HZ.out] at this;simpa using this);have e:(fun y=>if y=(i,j,m) then none else if y=(i,j,m) then some (.slice (some ⟨b,o1,none⟩) r.length (cap-1)) else if X.qs y=[] then none else some (X.v y))=(fun y=>if updw X.qs (i,j,m) ss y=[] then none else some (updw X.v (i,j,m) (.slice (some ⟨b,o1,none⟩) r.length (cap-1)) y)):=by
   funext y;by_cases ey:y=(i,j,m)
   · simp [ey,updw,hss0]
   · simp [ey,updw]
  rw [<- e];exact M5.out)
 obtain ⟨b0,b1,b2,b3⟩:=box4 (w:=w) X5.out;have z0:=k00 Z5.out 0;have z1:=k00 Z5.out 1;have z2:=k00 Z5.out 2;have z3:=k00 Z5.out 3;have zf:=fun k=>k02 Z5.out k
 clear CT ez;go_wp2;obtain ⟨wz,hwz⟩:∃ wz,wz=w5:=⟨_,rfl⟩;rw [<- hwz] at Z5 O35 M6 ⊢;have O4s:=set4 wz w.heap.size (.int .i64 x.src) (.int .i64 x.dst) (.int .i64 x.lane) (.int .u32 x.body);have Z6:=Ab (show ((((wz.setCell ⟨w.heap.size,0,none⟩ (.int .i64 x.src)).setCell ⟨w.heap.size,1,none⟩ (.int .i64 x.dst)).setCell ⟨w.heap.size,2,none⟩ (.int .i64 x.lane)).setCell ⟨w.heap.size,3,none⟩ (.int .u32 x.body)).heap[w.heap.size]? = some (.cells #[.int .i64 x.src,.int .i64 x.dst,.int .i64 x.lane,.int .u32 x.body] 40 (0,0)) from k05 (k05 (k05 (k05 Z5.out 0 _) 1 _) 2 _) 3 _);obtain ⟨t1,t2⟩:=k9d T3.out.fresh HC.out.1 (show o g=c from HG.out.1) XX.out PP.out HG.out.2 HH3.out HSS.out.1 HSS.out.2 M6.out R3.out O35.out;have t3:Tr (fun y=>y = .junk) o wz o ((((wz.setCell ⟨w.heap.size,0,none⟩ (.int .i64 x.src)).setCell ⟨w.heap.size,1,none⟩ (.int .i64 x.dst)).setCell ⟨w.heap.size,2,none⟩ (.int .i64 x.lane)).setCell ⟨w.heap.size,3,none⟩ (.int .u32 x.body)):=
  ⟨O4s.mono (fun b hb e=>by rw [e];exact HF.out _ (Nat.le_refl _)),fun _ _=>rfl,fun b hb=>t1.fresh b (Nat.le_trans O4s.size hb)⟩
 have O:=Ab ((((Only.of_below (P:=fun b=>o b=c\/o b=d) B2.out).then T3.out.only (fun b _ e=>.inr e)).then t1.only (fun b _ e=>.inl e)).then O4s (fun b hb e=>absurd e zz1));have RF:=Ab (t2.tr t3 HC.out.2.1 HC.out.2.2);refine bodyPost_ret (k0C rfl _ _ ⟨w.heap.size,0,none⟩ x.agg rfl (k4O (T:=40) (fr:=(0,0)) ?_)) rfl ⟨rfl,⟨(by first | exact O.out.drew | exact O.out),fun _ _=>rfl,?_⟩,?_⟩
 · exact Z6.out
 · exact t3.fresh
 · first | exact RF.out | exact RF.out.blw (Below.refl _ _).drew
end
theorem kbg:(Tryz.prog.info? 242).map (fun i=>(i.zero,i.size,i.bytes))=some (some (.agg #[.pointer none,.int .i64 0]),2,16):=by kernel_rfl
def k1g (n k:Nat) (last:Bool):Nat->Value:=fun j=>if j % 2=0 then .pointer none else if last && j / 2+1 == n then .int .i64 (-1) else if j / 2<k then .int .i64 ((j / 2+1:Nat):Int) else .int .i64 0
def k1R (w:World) (b n:Nat) (f:Nat->Value):Prop:=∃ cur,w.heap[b]? = some (.cells cur 242 (0,0))/\cur.size=2*n/\∀ j,j<2*n->cur[j]? = some (f j)
theorem k7N (n:Nat):∀ j,j<2*n->(madeCells (Value.agg #[.pointer none,.int .i64 0]).cells (n*2))[j]? = some (k1g n 0 false j):=by
 intro j hj;unfold madeCells k1g;rw [Array.getElem?_map,Array.getElem?_range,if_pos zz1];simp only [Option.map_some,Value.cells,Bool.false_and,Bool.false_eq_true,if_false,Nat.not_lt_zero];rcases Nat.mod_two_eq_zero_or_one j with h | h
 · simp [h]
 · simp [h]
theorem kaH (n:Nat) (w:World) (h0:1<=n) (h1:n<=200) :
 Calls Tryz.prog 111 #[.int .i64 n] w fun e w'=>e = .returned (.pointer (some ⟨w.heap.size+1,0,none⟩))/\Below w.heap.size w w'/\w'.heap.size=w.heap.size+2/\w'.heap[w.heap.size+1]? = some (.cells #[.slice (some ⟨w.heap.size,0,none⟩) n n,.int .i64 0,.int .i64 n] 239 (0,0))/\k1R w' w.heap.size n (k1g n n true):=by
 obtain ⟨i0,hi,hz0,hz1,hz2⟩:=info_parts kbg;have hmk:∀ W:World,(Instr.makeSlice 237 (.int .i64 n) (.int .i64 n)).run Tryz.prog W = .ok (.slice (some ⟨W.heap.size,0,none⟩) n n) (W.alloc (.cells (madeCells (Value.agg #[.pointer none,.int .i64 0]).cells (n*2)) 242)):=fun W=>by
  have:=run_make (P:=Tryz.prog) W 237 242 i0 _ Tryz.underlying237 hi hz0 .i64 .i64 n n zz1 zz1 zz62 zz1;rw [hz1,Int.toNat_natCast] at this;exact this
 have SM:=Ab (k7N n);go_enter Tryz.func111,Tryz.ntmps111;go_wp2;have G0:=Ab (heap_alloc_new (w.alloc (.cells (madeCells (Value.agg #[.pointer none,.int .i64 0]).cells (n*2)) 242)) (.cells #[.slice (some ⟨w.heap.size,0,none⟩) n n,.int .i64 0,.int .i64 n] 239));have S0:=Ab (show k1R ((w.alloc (.cells (madeCells (Value.agg #[.pointer none,.int .i64 0]).cells (n*2)) 242)).alloc (.cells #[.slice (some ⟨w.heap.size,0,none⟩) n n,.int .i64 0,.int .i64 n] 239)) w.heap.size n (k1g n 0 false) from ⟨_,(Below.heap_alloc _ _ _ zz17).trans (heap_alloc_new w _),by rw [size_madeCells];omega,SM.out⟩);have B0:=Ab (show Below w.heap.size w ((w.alloc (.cells (madeCells (Value.agg #[.pointer none,.int .i64 0]).cells (n*2)) 242)).alloc (.cells #[.slice (some ⟨w.heap.size,0,none⟩) n n,.int .i64 0,.int .i64 n] 239)) from ((Below.refl _ w).alloc (Nat.le_refl _) _).alloc zz17 _);rw [World.size_alloc] at G0;clear hmk SM hi hz0 hz1 hz2
 go_loopg [21] n (fun m s21 wr=>∃ k:Nat,k+m=n/\s21 = .int .i64 k/\k08 (wr.heap[w.heap.size+1]? = some (.cells #[.slice (some ⟨w.heap.size,0,none⟩) n n,.int .i64 0,.int .i64 n] 239 (0,0))/\k1R wr w.heap.size n (k1g n k false)/\Below w.heap.size w wr/\wr.heap.size=w.heap.size+2))
 case atStart=>exact ⟨0,zz1,rfl,⟨⟨G0.out,S0.out,B0.out,zz17⟩⟩⟩
 case round=>
  obtain ⟨k,hk,rfl,R⟩:=hrel;have c0:=k00 R.out.1 0;obtain ⟨cur,hc,hz,hs⟩:=R.out.2.1;have fz:=k02 R.out.1;by_cases hlt:k<n
  · have e1:(k:Int)<(n:Int):=by omega
    have c1:wr.cell? ⟨w.heap.size,k*2+1,none⟩=some (.int .i64 0):=by
     rw [k00 hc,hs _ zz1];simp [k1g];exact zz1
    have f1:=k02 hc (k*2+1);have K:=Ab (show (wr.setCell ⟨w.heap.size,k*2+1,none⟩ (.int .i64 ((k:Int)+1))).heap[w.heap.size+1]? = some (.cells #[.slice (some ⟨w.heap.size,0,none⟩) n n,.int .i64 0,.int .i64 n] 239 (0,0))/\k1R (wr.setCell ⟨w.heap.size,k*2+1,none⟩ (.int .i64 ((k:Int)+1))) w.heap.size n (k1g n (k+1) false)/\Below w.heap.size w (wr.setCell ⟨w.heap.size,k*2+1,none⟩ (.int .i64 ((k:Int)+1)))/\(wr.setCell ⟨w.heap.size,k*2+1,none⟩ (.int .i64 ((k:Int)+1))).heap.size=w.heap.size+2 from
     ⟨(Below.heap_setCell _ _ _ _ (by show w.heap.size+1≠w.heap.size;omega)).trans R.out.1,⟨_,k05 hc _ _,by simpa using hz,fun j hj=>by
       by_cases e:k*2+1=j
       · subst e
         rw [k2E _ _ zz1];have e2:(k*2+1) / 2=k:=by omega
         have e3:(k*2+1) % 2=1:=by omega
         simp [k1g,e2,e3]
       · rw [k1r _ _ e,hs j hj]
         unfold k1g;rcases Nat.mod_two_eq_zero_or_one j with h | h
         · simp [h]
         · have:(j / 2<k) ↔ (j / 2<k+1):=by omega
           simp [h,this]⟩,R.out.2.2.1.setCell (p:=⟨w.heap.size,_,none⟩) (Nat.le_refl _) _,by simpa [World.setCell] using R.out.2.2.2⟩)
    clear hc hz hs R;go_wp2
    go_roundg (n-(k+1))
    case measure=>omega
    case rel=>exact ⟨k+1,zz1,by go_num,K⟩
  · have e1:¬ (k:Int)<(n:Int):=by omega
    have hkn:k=n:=by omega
    subst hkn;obtain ⟨m,rfl⟩:∃ m,k=m+1:=⟨k-1,zz1⟩;have c1:wr.cell? ⟨w.heap.size,m*2+1,none⟩=some (.int .i64 ((m:Int)+1)):=by
     rw [k00 hc,hs _ zz1];have e2:(m*2+1) / 2=m:=by omega
     have e3:(m*2+1) % 2=1:=by omega
     simp [k1g,e2,e3]
    have f1:=k02 hc (m*2+1);have K:=Ab (show Below w.heap.size w (wr.setCell ⟨w.heap.size,m*2+1,none⟩ (.int .i64 (-1)))/\(wr.setCell ⟨w.heap.size,m*2+1,none⟩ (.int .i64 (-1))).heap.size=w.heap.size+2/\(wr.setCell ⟨w.heap.size,m*2+1,none⟩ (.int .i64 (-1))).heap[w.heap.size+1]? = some (.cells #[.slice (some ⟨w.heap.size,0,none⟩) (m+1) (m+1),.int .i64 0,.int .i64 (m+1:Nat)] 239 (0,0))/\k1R (wr.setCell ⟨w.heap.size,m*2+1,none⟩ (.int .i64 (-1))) w.heap.size (m+1) (k1g (m+1) (m+1) true) from
     ⟨R.out.2.2.1.setCell (p:=⟨w.heap.size,_,none⟩) (Nat.le_refl _) _,by simpa [World.setCell] using R.out.2.2.2,(Below.heap_setCell _ _ _ _ (by show w.heap.size+1≠w.heap.size;omega)).trans R.out.1,⟨_,k05 hc _ _,by simpa using hz,fun j hj=>by
      by_cases e:m*2+1=j
      · subst e
        rw [k2E _ _ zz1];have e2:(m*2+1) / 2=m:=by omega
        have e3:(m*2+1) % 2=1:=by omega
        simp [k1g,e2,e3]
      · rw [k1r _ _ e,hs j hj]
        unfold k1g;rcases Nat.mod_two_eq_zero_or_one j with h | h
        · simp [h]
        · have:¬ j / 2=m:=by omega
          simp [h,this]⟩⟩)
    clear hc hz hs R;go_wp2;go_ret;exact ⟨rfl,K.out⟩
theorem k9W (n k:Nat) (h:k<n):hd ((List.range n).drop (k+1))=if k+1=n then -1 else ((k+1:Nat):Int):=by
 by_cases e:k+1=n
 · rw [if_pos e,List.drop_eq_nil_of_le (by rw [List.length_range];omega)]
   rfl
 · rw [if_neg e,List.drop_eq_getElem_cons (by rw [List.length_range];omega)]
   simp [hd]
theorem PoolAt.new {w:World} {o:Nat->Col} {d:Col} {g b n:Nat} (h0:1<=n) (h1:n<=200) (hg:w.heap[g]? = some (.cells #[.slice (some ⟨b,0,none⟩) n n,.int .i64 0,.int .i64 n] 239 (0,0))) (hs:k1R w b n (k1g n n true)) (og:o g=d) (ob:o b=d):PoolAt w o d g n (fun _=>none) (List.range n):=by
 obtain ⟨cur,hc,hz,hf⟩:=hs;have odd:∀ i,i<n->cur[i*2+1]? = some (.int .i64 (if i+1=n then -1 else ((i+1:Nat):Int))):=fun i hi=>by
  rw [hf _ zz1];have e2:(i*2+1) / 2=i:=by omega
  have e3:(i*2+1) % 2=1:=by omega
  unfold k1g;by_cases e:i+1=n
  · simp [e2,e3,e]
  · simp [e2,e3,e,hi]
 refine ⟨og,b,fun _=>0,cur,ob,?_,hc,hz,h1,fun i hi=>?_,fun i x hi hx=>(by cases hx),fun k i hk=>?_,List.nodup_range,fun i=>by simp,fun i hi=>⟨_,odd i hi⟩⟩
 · have e:hd (List.range n)=0:=by
    obtain ⟨m,rfl⟩:∃ m,n=m+1:=⟨n-1,zz1⟩;rw [List.range_succ_eq_map];rfl
   rw [e,List.length_range];exact hg
 · rw [hf _ zz1]
   have e3:(i*2) % 2=0:=by omega
   simp [k1g,e3]
 · obtain ⟨hk1,hk2⟩:=List.getElem?_eq_some_iff.1 hk
   rw [List.length_range] at hk1;rw [List.getElem_range] at hk2;subst hk2;rw [odd k hk1,k9W n k hk1]
theorem k9J (p l n:Nat) (w:World) (h0:1<=n) (h1:n<=200) (h2:1<=p) (h3:p<=16) (h4:1<=l) (h5:l<=3) :
 Calls Tryz.prog 70 #[.int .i64 p,.int .i64 l,.int .i64 n] w fun e w'=>e = .returned (.pointer (some ⟨w.heap.size+3,0,none⟩))/\Below w.heap.size w w'/\w'.heap.size=w.heap.size+4/\w'.heap[w.heap.size+1]? = some (.cells #[.slice (some ⟨w.heap.size,0,none⟩) n n,.int .i64 0,.int .i64 n] 239 (0,0))/\k1R w' w.heap.size n (k1g n n true)/\w'.heap[w.heap.size+2]? = some (.map #[] 0)/\w'.heap[w.heap.size+3]? = some (.cells #[.pointer (some ⟨w.heap.size+1,0,none⟩),.map (some (w.heap.size+2)),.int .i64 p,.int .i64 l] 200 (0,0)):=by
 have hmm:=@run_makeMap Tryz.prog;go_enter Tryz.func70,Tryz.ntmps70
 go_wp2_with (go_at_call 111;refine (kaH n _ h0 h1).mono ?_;rintro e w1 ⟨rfl,hb,hs,hg,hsl⟩;have K:=Ab (And.intro hb (And.intro hs (And.intro hg hsl)));clear hb hs hg hsl)
 go_ret;have hs:=K.out.2.1;have e1:w1.heap.size=w.heap.size+2:=hs;rw [e1];have hb:=(K.out.1.alloc K.out.1.size (.map #[] 0)).alloc (Nat.le_trans K.out.1.size zz17) (.cells #[.pointer (some ⟨w.heap.size+1,0,none⟩),.map (some (w.heap.size+2)),.int .i64 p,.int .i64 l] 200);have old:∀ (b:Nat) (q:Obj),w1.heap[b]? = some q->((w1.alloc (.map #[] 0)).alloc (.cells #[.pointer (some ⟨w.heap.size+1,0,none⟩),.map (some (w.heap.size+2)),.int .i64 p,.int .i64 l] 200)).heap[b]? = some q:=fun b q h=>
  (Below.heap_alloc _ _ _ (by have:=k03 h;simp;omega)).trans ((Below.heap_alloc _ _ _ (k03 h)).trans h)
 refine ⟨rfl,hb,by simp [e1],old _ _ K.out.2.2.1,?_,?_,?_⟩
 · obtain ⟨cur,h1,h2,h3⟩:=K.out.2.2.2
   exact ⟨cur,old _ _ h1,h2,h3⟩
 · have h:=heap_alloc_new w1 (.map #[] 0)
   rw [e1] at h;exact (Below.heap_alloc _ _ _ (by simp [e1])).trans h
 · have h:=heap_alloc_new (w1.alloc (.map #[] 0)) (.cells #[.pointer (some ⟨w.heap.size+1,0,none⟩),.map (some (w.heap.size+2)),.int .i64 p,.int .i64 l] 200)
   rw [World.size_alloc,e1] at h;exact h
theorem RingsAt.new {w:World} {o:Nat->Col} {c d:Col} {b p l n:Nat} (h0:1<=n) (h1:n<=200) (hp:p<=16) (hl:l<=3) (g1:w.heap[b+1]? = some (.cells #[.slice (some ⟨b,0,none⟩) n n,.int .i64 0,.int .i64 n] 239 (0,0))) (g2:k1R w b n (k1g n n true)) (g3:w.heap[b+2]? = some (.map #[] 0))
 (g4:w.heap[b+3]? = some (.cells #[.pointer (some ⟨b+1,0,none⟩),.map (some (b+2)),.int .i64 p,.int .i64 l] 200 (0,0))) (o0:o b=d) (o1:o (b+1)=d) (o2:o (b+2)=c) (o3:o (b+3)=c):RingsAt w o c d (b+3) p l n (fun _=>[]):=
 ⟨o3,⟨b+1,b+2,fun _=>none,List.range n,fun _=>[],fun _=>.slice none 0 0,fun _=>0⟩,g4,PoolAt.new h0 h1 g1 g2 o1 o0,
  { om:=o2
    map:=⟨#[],0,g3,zz17,zz17,zz17,zz17,zz17⟩
    row:=fun a h=>absurd rfl h
    og:=fun a h=>absurd rfl h
    apart:=fun a b h=>absurd rfl h
    hold:=fun a=>rfl
    lt:=fun a i h=>zz45
    nodup:=fun a=>List.nodup_nil
    once:=fun a b i h=>zz45
    all:=fun i hi h=>absurd rfl h },zz1,zz1⟩
end Go.Proofs.YtdopmlopafgonaaGreatDoor.Own
