/- TopQuick: one packet alone is brought from host to host (a part of the walks and of the plain laws). -/
import Derived.Test.YtdopmlopafgonaaGreatDoorC0
import Derived.Test.YtdopmlopafgonaaGreatDoorC33
set_option linter.unusedVariables false
set_option linter.unusedSimpArgs false
set_option maxHeartbeats 4000000
set_option maxRecDepth 100000
namespace Go.Proofs.YtdopmlopafgonaaGreatDoor.Own
open Go.RowKit Go.Proofs.YtdopmlopafgonaaGreatDoorW.PrintWords Go.Proofs.YtdopmlopafgonaaGreatDoorW.PrintLast Go.Proofs.YtdopmlopafgonaaGreatDoorW.PrintMore
theorem kbj {w:World} {g:Nat} {T:TypeId} {fr:Nat × Nat} {a b:Value} (hg:w.heap[g]? = some (.cells #[a,b] T fr)):(loadVar 148 ⟨g,0,none⟩).run Tryz.prog w = .ok (.agg #[a,b]) w:=
 run_loadVar_row w g T 148 _ fr _ hg Tryz.underlying148 rfl zz3
theorem k6J {D:PlanD} (G:Good D) {v:Nat} (hv:v<D.nodes):2<=np D v:=by
 have:=List.length_pos_iff.2 (G.bn v hv);unfold np;exact zz1
theorem k2k {D:PlanD} (G:Good D) {v:Nat} (hv:v<D.nodes):np D v<=6:=by
 have:=G.bl v hv;unfold np;exact zz1
section
variable {w:World} {o:Nat->Col} {v:Nat} {D:PlanD} {T:NTab} {st:NSt}
theorem k1L (i k:Nat) (H:NodeAt w o v D T st) (G:Good D) (hv:v<D.nodes) (hf:Fresh o w) (h1:1<=i) (hi:i<np D v) (hk:k<D.lanes) :
 Calls Tryz.prog 97 #[.pointer (some ⟨T.g,0,none⟩),.int .i64 i,.int .i64 k] w fun e w'=>e = .returned (.tuple #[.agg #[.pointer (some ⟨T.snd i k,0,none⟩),.pointer (some ⟨T.rcv i k,0,none⟩)],.bool true])/\Below w.heap.size w w':=by
 have b0:=fun j=>k00 H.blk j
 obtain ⟨p0,p1,p2⟩:=H.port i hi;obtain ⟨l0,l1⟩:=H.lane i k h1 hi hk;rw [show k1s D T i = .slice (some ⟨T.lb i,T.lo i,none⟩) D.lanes (T.lc i) from if_neg zz1] at p1;have n1:=k03 H.blk;have n2:=H.ports.lt rfl;have n3:=(H.lanes i h1 hi).1.lt rfl;have i1:(1:Int)<=(i:Int):=by omega
 have i2:(i:Int)<(np D v:Nat):=by omega
 have i3:(k:Int)<(D.lanes:Nat):=by omega
 have e1:=decide_eq_false (show ¬ (i:Int)<1 by omega);have e2:=decide_eq_false (show ¬ (np D v:Nat)<=i by omega);have e3:=decide_eq_false (show ¬ (D.lanes:Nat)<=k by omega);exact zz37
theorem kbK (i k:Nat) (H:NodeAt w o v D T st) (hf:Fresh o w) (h1:1<=i) (hi:i<np D v) (hk:D.lanes<=k) :
 Calls Tryz.prog 97 #[.pointer (some ⟨T.g,0,none⟩),.int .i64 i,.int .i64 k] w fun e w'=>e = .returned (.tuple #[.agg #[.pointer none,.pointer none],.bool false])/\Below w.heap.size w w':=by
 have b0:=fun j=>k00 H.blk j
 have n1:=k03 H.blk;have i1:(1:Int)<=(i:Int):=by omega
 have i2:(i:Int)<(np D v:Nat):=by omega
 have i3:(D.lanes:Int)<=(k:Nat):=by omega
 have e1:=decide_eq_false (show ¬ (i:Int)<1 by omega);have e2:=decide_eq_false (show ¬ (np D v:Nat)<=i by omega);have e3:=decide_eq_true (show (D.lanes:Nat)<=k by omega);have e4:=decide_eq_false (show ¬ (k:Int)<0 by omega);exact zz37
theorem kb2 (y x:Nat) (A:Option Addr) (n c p b:Nat) (w:World) (h:w.cell? ⟨b,0,none⟩=some (.int .i64 x)) (hb:b<w.heap.size) :
 Calls Tryz.prog 95 #[.agg #[.int .i64 y,.slice A n c,.pointer (some ⟨p,0,none⟩)],.pointer (some ⟨b,0,none⟩)] w fun e w'=>e = .returned (.bool (decide (y=x)))/\Below w.heap.size w w':=by
 have q:((y:Int) == (x:Int))=decide (y=x):=by
  by_cases e:y=x
  · subst e;simp
  · rw [decide_eq_false e];exact beq_eq_false_iff_ne.mpr zz1
 go_enter Tryz.func95,Tryz.ntmps95;exact zz52
theorem kbo (x b:Nat) (H:NodeAt w o v D T st) (G:Good D) (hv:v<D.nodes) (hf:Fresh o w) (h:w.cell? ⟨b,0,none⟩=some (.int .i64 x)) :
 Calls Tryz.prog 94 #[.slice (some ⟨T.pb,T.po+3,none⟩) ((D.bs v).length:Nat) (T.pc-1),.func (.func 95) #[] #[.pointer (some ⟨b,0,none⟩)]] w (k5o (D.bs v) x w):=by
 have hlen:(D.bs v).length<=5:=G.bl v hv;have H0:=Ab H;have HF:=Ab hf;have HB:=Ab h;obtain ⟨L,hL⟩:∃ L,L=(D.bs v).length:=⟨_,rfl⟩;have HL:=Ab hL;rw [<- hL];rw [<- hL] at hlen;clear H hf h hL;go_enter Tryz.func94,Tryz.ntmps94;go_wp2
 go_loopw [8] (fun s8 wr=>∃ k:Nat,k<=L/\s8 = .int .i64 k/\k08 (∀ j:Nat,j<k->(D.bs v)[j]? ≠ some x)/\k08 (Below w.heap.size w wr)) (fun s8 _=>L-ixOf s8)
 case atStart=>exact ⟨0,zz1,rfl,⟨fun j h=>by omega⟩,⟨Below.refl _ w⟩⟩
 case round=>
  obtain ⟨k,hk,rfl,HN,R⟩:=hrel;by_cases hlt:k<L
  · have e1:(k:Int)<(L:Int):=by omega
    obtain ⟨y,hy⟩:∃ p,(D.bs v)[k]? = some p:=⟨_,List.getElem?_eq_getElem zz63⟩;have H1:=H0.out.blw HF.out R.out;obtain ⟨p0,p1,p2⟩:=H1.port (k+1) (by have:=HL.out;unfold np;omega);have hpn:k0E D v (k+1)=y:=by unfold k0E;simp [hy]
    rw [hpn] at p0;rw [show k1s D T (k+1) = .slice (some ⟨T.lb (k+1),T.lo (k+1),none⟩) D.lanes (T.lc (k+1)) from if_neg zz1] at p1;rw [show T.po+(k+1)*3=T.po+3+k*3 by omega] at p0 p1 p2;have hb:=k01 R.out HB.out;have hbl:=World.block_lt_of_cell? _ _ hb;have HY:=Ab hy;clear H1 hpn hy;by_cases hxy:y=x
    · subst hxy
      have e2:decide (y=y)=true:=decide_eq_true rfl
      go_wp2_with (go_at_call 95;refine (kb2 y y _ _ _ _ b _ hb hbl).mono ?_;rw [e2];rintro e w3 ⟨rfl,hb3⟩;have B3:=Ab hb3;clear hb3)
      go_ret;exact ⟨(k:Nat),eset _ _ rfl,.inl ⟨k,rfl,HY.out⟩,R.out.trans (B3.out.mono R.out.size)⟩
    · have e2:decide (y=x)=false:=decide_eq_false hxy
      have HX:=Ab hxy;clear hxy
      go_wp2_with (go_at_call 95;refine (kb2 y x _ _ _ _ b _ hb hbl).mono ?_;rw [e2];rintro e w3 ⟨rfl,hb3⟩;have B3:=Ab hb3;clear hb3)
      refine ⟨⟨k+1,zz1,rfl,⟨fun j hj=>?_⟩,⟨R.out.trans (B3.out.mono R.out.size)⟩⟩,?_⟩
      · rcases Nat.lt_or_ge j k with h | h
        · exact HN.out j h
        · obtain rfl:j=k:=by omega
          rw [HY.out];exact fun e=>HX.out (Option.some.inj e)
      · show L-ixOf (.int .i64 ((k:Int)+1))<L-ixOf (.int .i64 (k:Int))
        simp only [ixOf];exact zz1
  · have e1:¬ (k:Int)<(L:Int):=by omega
    obtain rfl:k=L:=by omega
    go_wp2;exact zz35
theorem k9A (y x:Nat) (A:Option Addr) (n c p b:Nat) (w:World) (h:w.cell? ⟨b,0,none⟩=some (.int .i64 x)) (hb:b<w.heap.size) :
 Calls Tryz.prog 146 #[.agg #[.int .i64 y,.slice A n c,.pointer (some ⟨p,0,none⟩)],.pointer (some ⟨b,0,none⟩)] w fun e w'=>e = .returned (.bool (decide (y=x)))/\Below w.heap.size w w':=by
 have q:((y:Int) == (x:Int))=decide (y=x):=by
  by_cases e:y=x
  · subst e;simp
  · rw [decide_eq_false e];exact beq_eq_false_iff_ne.mpr zz1
 go_enter Tryz.func146,Tryz.ntmps146;exact zz52
theorem kaC (x b:Nat) (H:NodeAt w o v D T st) (G:Good D) (hv:v<D.nodes) (hf:Fresh o w) (h:w.cell? ⟨b,0,none⟩=some (.int .i64 x)) :
 Calls Tryz.prog 94 #[.slice (some ⟨T.pb,T.po+3,none⟩) ((D.bs v).length:Nat) (T.pc-1),.func (.func 146) #[] #[.pointer (some ⟨b,0,none⟩)]] w (k5o (D.bs v) x w):=by
 have hlen:(D.bs v).length<=5:=G.bl v hv;have H0:=Ab H;have HF:=Ab hf;have HB:=Ab h;obtain ⟨L,hL⟩:∃ L,L=(D.bs v).length:=⟨_,rfl⟩;have HL:=Ab hL;rw [<- hL];rw [<- hL] at hlen;clear H hf h hL;go_enter Tryz.func94,Tryz.ntmps94;go_wp2
 go_loopw [8] (fun s8 wr=>∃ k:Nat,k<=L/\s8 = .int .i64 k/\k08 (∀ j:Nat,j<k->(D.bs v)[j]? ≠ some x)/\k08 (Below w.heap.size w wr)) (fun s8 _=>L-ixOf s8)
 case atStart=>exact ⟨0,zz1,rfl,⟨fun j h=>by omega⟩,⟨Below.refl _ w⟩⟩
 case round=>
  obtain ⟨k,hk,rfl,HN,R⟩:=hrel;by_cases hlt:k<L
  · have e1:(k:Int)<(L:Int):=by omega
    obtain ⟨y,hy⟩:∃ p,(D.bs v)[k]? = some p:=⟨_,List.getElem?_eq_getElem zz63⟩;have H1:=H0.out.blw HF.out R.out;obtain ⟨p0,p1,p2⟩:=H1.port (k+1) (by have:=HL.out;unfold np;omega);have hpn:k0E D v (k+1)=y:=by unfold k0E;simp [hy]
    rw [hpn] at p0;rw [show k1s D T (k+1) = .slice (some ⟨T.lb (k+1),T.lo (k+1),none⟩) D.lanes (T.lc (k+1)) from if_neg zz1] at p1;rw [show T.po+(k+1)*3=T.po+3+k*3 by omega] at p0 p1 p2;have hb:=k01 R.out HB.out;have hbl:=World.block_lt_of_cell? _ _ hb;have HY:=Ab hy;clear H1 hpn hy;by_cases hxy:y=x
    · subst hxy
      have e2:decide (y=y)=true:=decide_eq_true rfl
      go_wp2_with (go_at_call 146;refine (k9A y y _ _ _ _ b _ hb hbl).mono ?_;rw [e2];rintro e w3 ⟨rfl,hb3⟩;have B3:=Ab hb3;clear hb3)
      go_ret;exact ⟨(k:Nat),eset _ _ rfl,.inl ⟨k,rfl,HY.out⟩,R.out.trans (B3.out.mono R.out.size)⟩
    · have e2:decide (y=x)=false:=decide_eq_false hxy
      have HX:=Ab hxy;clear hxy
      go_wp2_with (go_at_call 146;refine (k9A y x _ _ _ _ b _ hb hbl).mono ?_;rw [e2];rintro e w3 ⟨rfl,hb3⟩;have B3:=Ab hb3;clear hb3)
      refine ⟨⟨k+1,zz1,rfl,⟨fun j hj=>?_⟩,⟨R.out.trans (B3.out.mono R.out.size)⟩⟩,?_⟩
      · rcases Nat.lt_or_ge j k with h | h
        · exact HN.out j h
        · obtain rfl:j=k:=by omega
          rw [HY.out];exact fun e=>HX.out (Option.some.inj e)
      · show L-ixOf (.int .i64 ((k:Int)+1))<L-ixOf (.int .i64 (k:Int))
        simp only [ixOf];exact zz1
  · have e1:¬ (k:Int)<(L:Int):=by omega
    obtain rfl:k=L:=by omega
    go_wp2;exact zz35
end
theorem k5U:(Tryz.prog.info? 141).map (fun i=>(i.zero,i.size,i.bytes))=some (some (.agg #[.int .i64 0,.slice none 0 0,.pointer none]),3,40):=by kernel_rfl
theorem kb8:(Tryz.prog.info? 148).map (fun i=>(i.zero,i.size,i.bytes))=some (some (.agg #[.pointer none,.pointer none]),2,16):=by kernel_rfl
def tw (D:PlanD) (v d:Nat):Nat:=if d=v then 0 else (D.bs v).idxOf (D.nxt v d)+1
theorem k2S {l:List Nat} (hn:l.Nodup) {x:Nat} (hx:x∈l) {r:Int} (h:IdxAt l x r):r=(l.idxOf x:Nat):=by
 rcases h with ⟨k,rfl,hk⟩ | ⟨_,h⟩
 · have h1:l[l.idxOf x]? = some x:=by rw [List.getElem?_eq_getElem (List.idxOf_lt_length_of_mem hx)];simp
   have:=k9z hn hk h1;exact zz1
 · exact absurd hx h
theorem kbU {D:PlanD} (G:Good D) {v d:Nat} (hv:v<D.nodes) (hd:d<D.nodes):tw D v d<np D v:=by
 unfold tw np;split
 · exact zz1
 · rename_i h
   have:=List.idxOf_lt_length_of_mem (G.nxt_bs hv hd (Ne.symm h));exact zz1
section
variable {w:World} {o:Nat->Col} {v:Nat} {D:PlanD} {T:NTab} {st:NSt}
theorem k3L (d:Nat) (H:NodeAt w o v D T st) (G:Good D) (hv:v<D.nodes) (hd:d<D.nodes) (hf:Fresh o w) :
 Calls Tryz.prog 122 #[.pointer (some ⟨T.g,0,none⟩),.int .i64 d] w fun e w'=>e = .returned (.int .i64 (tw D v d:Nat))/\Below w.heap.size w w':=by
 by_cases hdv:d=v
 · subst hdv
   rw [show tw D d d=0 from if_pos rfl];have b0:=fun j=>k00 H.blk j
   have e1:((d:Int) == (d:Int))=true:=beq_self_eq_true _;clear H;go_enter Tryz.func122,Tryz.ntmps122;go_wp2;go_ret;exact ⟨rfl,Below.refl _ _⟩
 · have htw:tw D v d=(D.bs v).idxOf (D.nxt v d)+1:=if_neg hdv
   have hm:=G.nxt_bs hv hd (Ne.symm hdv);obtain ⟨nb,no,rb,ro,rc,hA3,k1,k2⟩:=H.plan.way G v d hv hd;have b12:w.cell? ⟨T.g,12,none⟩=some (.int .i64 v):=(k00 H.blk 12).trans rfl;have HS:=Ab (show (fun (W:World)=>W.cell? ⟨T.g,11,none⟩=some (.slice (some ⟨nb,no,none⟩) D.next.length T.c3)/\W.cell? ⟨T.g,12,none⟩=some (.int .i64 v)/\W.cell? ⟨nb,no+v,none⟩=some (.slice (some ⟨rb,ro,none⟩) D.nodes rc)/\W.cell? ⟨rb,ro+d,none⟩=some (.int .i64 (D.nxt v d:Nat))) w from ⟨by rw [<- hA3];exact (k00 H.blk 11).trans rfl,b12,k1,k2⟩);have e1:((d:Int) == (v:Int))=false:=beq_eq_false_iff_ne.mpr zz1;have i1:(v:Int)<(D.next.length:Nat):=by have:=G.nl;omega
   have i2:(d:Int)<(D.nodes:Nat):=by omega
   have hnp:=k6J G hv;have hpc:=H.ports.size;obtain ⟨i97,hi97,_,hs97,_⟩:=info_parts k5U;have CT:∀ W:World,(Instr.slice 97 (.slice (some ⟨T.pb,T.po,none⟩) (np D v:Nat) T.pc) (some (.int .i64 1)) none none).run Tryz.prog W = .ok (.slice (some ⟨T.pb,T.po+3,none⟩) ((D.bs v).length:Nat) (T.pc-1)) W:=fun W=>by
    obtain ⟨_,cp,hcp,hle⟩:=hpc;cases hcp;have h:=k12 97 141 .i64 Tryz.underlying97 hi97 3 hs97 (some ⟨T.pb,T.po,none⟩) (np D v) T.pc 1 zz1 zz1 W;have e:(if T.pc=1 then some (⟨T.pb,T.po,none⟩:Addr) else (some (⟨T.pb,T.po,none⟩:Addr)).map (·.add (1*3)))=some ⟨T.pb,T.po+3,none⟩:=by
     rw [if_neg zz1,Option.map_some,Addr.add_lit]
    rw [<- e,show (D.bs v).length=np D v-1 from rfl];exact h
   have HH:=Ab (show _/\_/\_/\_/\_ from ⟨H,hf,hm,htw,G⟩);clear H hf k1 k2 hm htw hA3 hpc hi97 hs97 hdv;go_enter Tryz.func122,Tryz.ntmps122;go_wp2;refine WpL.region (fun (W:World)=>W.cell? ⟨T.g,11,none⟩=some (.slice (some ⟨nb,no,none⟩) D.next.length T.c3)/\W.cell? ⟨T.g,12,none⟩=some (.int .i64 v)/\W.cell? ⟨nb,no+v,none⟩=some (.slice (some ⟨rb,ro,none⟩) D.nodes rc)/\W.cell? ⟨rb,ro+d,none⟩=some (.int .i64 (D.nxt v d:Nat))) 15 zz3 ?_;refine WpL.T 0 [] HS.out ?_;refine WpL.T 1 [] HS.out ?_;refine WpL.T 2 [] HS.out ?_;refine WpL.T 3 [] HS.out ?_;refine WpL.T 4 [] HS.out ?_;refine WpL.T 5 [] HS.out ?_;refine WpL.T 6 [] HS.out ?_;refine WpL.T 7 [] HS.out ?_;refine WpL.T 8 [] HS.out ?_;refine WpL.T 9 [] HS.out ?_;refine WpL.T 10 [] HS.out ?_;refine WpL.T 11 [] HS.out ?_;refine WpL.T 12 [] HS.out ?_;refine WpL.T 13 [] HS.out ?_;refine WpL.one (i:=14) zz3 rfl (fun K hK=>?_);go_simp;have B3:=Ab (show Below w.heap.size w (w.drew.alloc (.cells #[.int .i64 0] 3)) from ((Below.refl _ w).drew).alloc (Nat.le_refl _) _);have HS3:=Ab (show (fun (W:World)=>W.cell? ⟨T.g,11,none⟩=some (.slice (some ⟨nb,no,none⟩) D.next.length T.c3)/\W.cell? ⟨T.g,12,none⟩=some (.int .i64 v)/\W.cell? ⟨nb,no+v,none⟩=some (.slice (some ⟨rb,ro,none⟩) D.nodes rc)/\W.cell? ⟨rb,ro+d,none⟩=some (.int .i64 (D.nxt v d:Nat))) (w.drew.alloc (.cells #[.int .i64 0] 3)) from by obtain ⟨k0,k1,k2,k3⟩:=HS.out;exact ⟨k01 B3.out k0,k01 B3.out k1,k01 B3.out k2,k01 B3.out k3⟩);refine hK.out _ _ (fun _=>HS3.out) ?_;clear hK K
   try refine Sm ?_
   refine WpL.one (i:=15) zz3 rfl (fun K hK=>?_);go_simp;refine hK.out _ _ (fun h=>absurd rfl h) ?_;clear hK K
   try refine Sm ?_
   refine WpL.done zz3 ?_ _;have B4:=Ab (show Below w.heap.size w (w.alloc (.cells #[.int .i64 (D.nxt v d:Nat)] 3)).drew from (((Below.refl _ w)).alloc (Nat.le_refl _) _).drew);have Z4:=Ab (show (w.alloc (.cells #[.int .i64 (D.nxt v d:Nat)] 3)).drew.cell? ⟨w.heap.size,0,none⟩=some (.int .i64 (D.nxt v d:Nat)) from (k00 (heap_alloc_new w _) 0).trans rfl);have H4:=Ab (HH.out.1.blw HH.out.2.1 B4.out);have b0:=fun j=>k00 H4.out.blk j
   have hx5:(D.bs v).idxOf (D.nxt v d)<6:=by have:=List.idxOf_lt_length_of_mem HH.out.2.2.1;have:=HH.out.2.2.2.2.bl v hv;omega
   go_wp2_with (go_at_call 94;refine (kaC (D.nxt v d) w.heap.size H4.out HH.out.2.2.2.2 hv (HH.out.2.1.blw B4.out) Z4.out).mono ?_;rintro e w5 ⟨r,rfl,hr,hb⟩;obtain rfl:=k2S (k3V D v) HH.out.2.2.1 hr;have B5:=Ab hb;clear hb hr)
   go_ret;refine ⟨eset _ _ ?_,B4.out.trans (B5.out.mono B4.out.size)⟩;rw [HH.out.2.2.2.1];rfl
end
theorem kbJ:(Tryz.prog.info? 115).map (fun i=>(i.zero,i.size,i.bytes))=some (some (.agg #[.int .i64 0,.slice none 0 0]),2,32):=by kernel_rfl
theorem Wire.Enc.row {w w':World} {l:List Int} {e:Ending} (h:Wire.Enc w l e w') (hl:l≠[]):∃ b c,e = .returned (.tuple #[.slice (some ⟨b,0,none⟩) l.length c,.int .u16 0])/\Own.Row w' (.slice (some ⟨b,0,none⟩) l.length c) 5 1 l.length (u8s l) (some b)/\w.heap.size<=b/\Below w.heap.size w w':=by
 obtain ⟨base,v,rfl,ho,hb,hs,_,_⟩:=h;have R:=Own.Row.of_owns ho;obtain ⟨_,⟨_,h0⟩ | ⟨b,cap,cur,rfl,hbb,_⟩⟩:=ho
 · exact absurd (List.eq_nil_of_length_eq_zero h0) hl
 · exact ⟨b,cap,rfl,R,Nat.le_trans hs hbb,hb⟩
abbrev OutP:=Nat × List Int
def k0R:List OutP->List Value->List Value
 | p :: l,u :: us=>.int .i64 (p.1:Nat) :: u :: k0R l us
 | _,_=>[]
theorem k3H:∀ (l:List OutP) (us:List Value),us.length=l.length->(k0R l us).length=l.length*2
 | [],_,_=>by simp [k0R]
 | p :: l,[],h=>by simp at h
 | p :: l,u :: us,h=>by
   have:=k3H l us (by simpa using h);simp [k0R,this];exact zz1
theorem k2i:∀ (l:List OutP) (us:List Value) (p:OutP) (u:Value),us.length=l.length->k0R (l++[p]) (us++[u])=k0R l us++[.int .i64 (p.1:Nat),u]
 | [],us,p,u,h=>by
   obtain rfl:us=[]:=List.eq_nil_of_length_eq_zero (by simpa using h);rfl
 | q :: l,[],p,u,h=>by simp at h
 | q :: l,x :: us,p,u,h=>by
   have:=k2i l us p u (by simpa using h);simp [k0R,this]
theorem k3F:∀ (l:List OutP) (us:List Value) (i:Nat) (p:OutP) (u:Value),l[i]? = some p->us[i]? = some u->(k0R l us)[i*2]? = some (.int .i64 (p.1:Nat))/\(k0R l us)[i*2+1]? = some u
 | [],_,i,p,u,h,_=>by simp at h
 | q :: l,[],i,p,u,_,h=>by simp at h
 | q :: l,x :: us,0,p,u,h1,h2=>by simp at h1 h2;subst h1;subst h2;exact ⟨rfl,rfl⟩
 | q :: l,x :: us,i+1,p,u,h1,h2=>by
   have:=k3F l us i p u (by simpa using h1) (by simpa using h2);rw [show (i+1)*2=i*2+1+1 by omega,show i*2+1+1+1=(i*2+1)+1+1 by omega];simpa [k0R] using this
def OutsAt (w:World) (o:Nat->Col) (lo:Nat) (V:Value) (outs:List OutP):Prop:=∃ us g,us.length=outs.length/\Row w V 115 2 outs.length (k0R outs us) g/\(∀ b,g=some b->lo<=b/\o b = .junk)/\∀ (i:Nat) (p:OutP) (u:Value),outs[i]? = some p->us[i]? = some u->∃ gb,Row w u 5 1 p.2.length (u8s p.2) (some gb)/\lo<=gb/\o gb = .junk
theorem OutsAt.nil (w:World) (o:Nat->Col) (lo:Nat):OutsAt w o lo (.slice none 0 0) []:=⟨[],none,rfl,Row.nil _ _ _,zz17,fun i p u h=>by simp at h⟩
theorem OutsAt.tr {S:Col->Prop} {w w':World} {o o':Nat->Col} {lo:Nat} {V:Value} {outs:List OutP} (h:OutsAt w o lo V outs) (t:Tr S o w o' w') (hS:¬ S .junk):OutsAt w' o' lo V outs:=by
 obtain ⟨us,g,hl,r,hg,hr⟩:=h;refine ⟨us,g,hl,r.only t.only (fun b e=>by rw [(hg b e).2];exact hS),fun b e=>⟨(hg b e).1,(t.own b (r.lt e)).trans (hg b e).2⟩,fun i p u hp hu=>?_⟩;obtain ⟨gb,rb,hb,ob⟩:=hr i p u hp hu;exact ⟨gb,rb.only t.only (fun b e=>by cases e;rw [ob];exact hS),hb,(t.own _ (rb.lt rfl)).trans ob⟩
theorem OutsAt.blw {w w':World} {o:Nat->Col} {lo:Nat} {V:Value} {outs:List OutP} (h:OutsAt w o lo V outs) (hf:Fresh o w) (b:Below w.heap.size w w'):OutsAt w' o lo V outs:=h.tr (Tr.below (S:=fun _=>False) hf b) (fun x=>x)
structure SayAt (w:World) (o:Nat->Col) (lo ob nb g:Nat) (outs:List OutP):Prop where
 out:∃ V,w.heap[ob]? = some (.cells #[V] 113 (0,0))/\OutsAt w o lo V outs
 node:w.heap[nb]? = some (.cells #[.pointer (some ⟨g,0,none⟩)] 58 (0,0))
 lo1:lo<=ob
 lo2:lo<=nb
 j1:o ob = .junk
 j2:o nb = .junk
theorem SayAt.tr {S:Col->Prop} {w w':World} {o o':Nat->Col} {lo ob nb g:Nat} {outs:List OutP} (h:SayAt w o lo ob nb g outs) (t:Tr S o w o' w') (hS:¬ S .junk):SayAt w' o' lo ob nb g outs:=by
 obtain ⟨⟨V,h1,h2⟩,h3,h4,h5,h6,h7⟩:=h;exact ⟨⟨V,t.blk h1 (by rw [h6];exact hS),h2.tr t hS⟩,t.blk h3 (by rw [h7];exact hS),h4,h5,(t.own _ (k03 h1)).trans h6,(t.own _ (k03 h3)).trans h7⟩
theorem SayAt.blw {w w':World} {o:Nat->Col} {lo ob nb g:Nat} {outs:List OutP} (h:SayAt w o lo ob nb g outs) (hf:Fresh o w) (b:Below w.heap.size w w'):SayAt w' o lo ob nb g outs:=h.tr (Tr.below (S:=fun _=>False) hf b) (fun x=>x)
def OutTy (w:World) (b:Nat):Prop:=∃ (cur:Array Value) (T:TypeId),w.heap[b]? = some (Obj.cells cur T (0,0))/\(T=113\/T=115)
def SayP (w:World) (o:Nat->Col) (lo b:Nat):Prop:=lo<=b/\o b = .junk/\OutTy w b
section
variable {w:World} {o:Nat->Col} {v:Nat} {D:PlanD} {T:NTab} {st:NSt} {lo ob nb:Nat} {outs:List OutP}
def Said (w:World) (o:Nat->Col) (lo ob nb g:Nat) (outs:List OutP) (e:Ending) (w':World):Prop:=e = .returned (.tuple #[])/\Only (SayP w o lo) w w'/\SayAt w' o lo ob nb g outs
theorem k33 (i:Nat) (F:Wire.Fr) (H:NodeAt w o v D T st) (hf:Fresh o w) (Y:SayAt w o lo ob nb T.g outs) (hlo:lo<=w.heap.size) (hi:i<np D v) (hw:F.wf) (hs:F.sound=true) (hlen:outs.length<=10000) :
 Calls Tryz.prog 87 #[.int .i64 i,.agg #[.int .u8 F.k,.int .u8 F.l,.int .u16 F.s,.int .u8 F.a,.int .u8 F.b,.int .u32 F.y],.pointer (some ⟨ob,0,none⟩),.pointer (some ⟨nb,0,none⟩)] w (Said w o lo ob nb T.g (outs++[(k0E D v i,F.bytes)])):=by
 have hbl:F.bytes≠[]:=fun h=>by
  have:=Wire.bytes_len F;rw [h] at this;simp at this;split at this <;> omega
 have BX:Below w.heap.size w (w.alloc (.cells #[.int .u8 F.k,.int .u8 F.l,.int .u16 F.s,.int .u8 F.a,.int .u8 F.b,.int .u32 F.y] 163)):=(Below.refl _ w).alloc (Nat.le_refl _) _;have HE:=Ab (Wire.enc_fr F (w.alloc (.cells #[.int .u8 F.k,.int .u8 F.l,.int .u16 F.s,.int .u8 F.a,.int .u8 F.b,.int .u32 F.y] 163)) hw hs);have HX:=Ab BX;have HH:=Ab (show _/\_/\_/\_ from ⟨H,hf,Y,hlo⟩);have HBL:=Ab hbl;have i1:(i:Int)<(np D v:Nat):=by omega
 clear H hf Y hlo hw hs hbl BX;go_enter Tryz.func87,Tryz.ntmps87
 go_wp2_with (go_at_call 88;refine HE.out.mono ?_;intro e w2 he;obtain ⟨bb,bc,rfl,hr,hb,hB⟩:=Wire.Enc.row he HBL.out;have K:=Ab (show _/\_/\_ from ⟨hr,hb,HX.out.trans (hB.mono HX.out.size)⟩);clear hr hb hB he)
 obtain ⟨H,hf,Y,hlo⟩:=HH.out;have H2:=H.blw hf K.out.2.2;have Y2:=Y.blw hf K.out.2.2;have F2:=Ab (hf.blw K.out.2.2);obtain ⟨⟨V,y1,us,g,y2,y3,y4,y5⟩,y6,y7,y8,y9,y10⟩:=id Y2;obtain ⟨n,hn⟩:∃ n,n=outs.length:=⟨_,rfl⟩;rw [<- hn] at y3;obtain ⟨A,c,rfl,_⟩:=y3.size;have HN:=Ab hn;have hn1:n<=10000:=by rw [hn];exact hlen
 have hob:=k03 y1;have HS:=Ab (show (fun (W:World)=>W.cell? ⟨ob,0,none⟩=some (.slice A n c)/\W.cell? ⟨nb,0,none⟩=some (.pointer (some ⟨T.g,0,none⟩))/\W.cell? ⟨T.g,13,none⟩=some (.slice (some ⟨T.pb,T.po,none⟩) (np D v:Nat) T.pc)/\W.cell? ⟨T.pb,T.po+i*3,none⟩=some (.int .i64 (k0E D v i:Nat))) w2 from ⟨(k00 y1 0).trans rfl,(k00 y6 0).trans rfl,(k00 H2.blk 13).trans rfl,(H2.port i hi).1⟩);have G:=Ab (show (∀ u∈[Value.int .i64 (k0E D v i:Nat),.slice (some ⟨bb,0,none⟩) F.bytes.length bc],u.oneCell'=true) from by intro u hu;simp at hu;rcases hu with rfl | rfl <;> rfl);have YY:=Ab (show _/\_/\_/\_/\_/\_/\_/\_/\_/\_ from ⟨y1,y2,y3,y4,y5,y6,y7,y8,y9,y10⟩);have H2:=Ab H2;have hgo:∀ b,g=some b->b≠ob/\b≠nb/\b≠T.g/\b≠T.pb:=fun b e=>by
  obtain ⟨cur,hc⟩:=(e ▸ y3:Row w2 (.slice A n c) 115 2 n (k0R outs us) (some b)).blk_ty;obtain ⟨cur4,hc4⟩:=H2.out.ports.blk_ty;exact ⟨k0v hc y1 zz8,k0v hc y6 zz8,k0v hc H2.out.blk zz8,k0v hc hc4 zz8⟩
 have HGO:=Ab hgo;clear H hf Y hlo y1 y2 y3 y4 y5 y6 y7 y8 y9 y10 hn Y2 hgo hlen;have S1:=Ab (show (fun (W:World)=>W.cell? ⟨ob,0,none⟩=some (.slice A n c)/\W.cell? ⟨nb,0,none⟩=some (.pointer (some ⟨T.g,0,none⟩))/\W.cell? ⟨T.g,13,none⟩=some (.slice (some ⟨T.pb,T.po,none⟩) (np D v:Nat) T.pc)/\W.cell? ⟨T.pb,T.po+i*3,none⟩=some (.int .i64 (k0E D v i:Nat))) (w2.alloc (.cells #[.int .i64 (k0E D v i:Nat),.slice (some ⟨bb,0,none⟩) F.bytes.length bc] 115)).drew from by
  have hb:Below w2.heap.size w2 (w2.alloc (.cells #[.int .i64 (k0E D v i:Nat),.slice (some ⟨bb,0,none⟩) F.bytes.length bc] 115)).drew:=((Below.refl _ w2).alloc (Nat.le_refl _) _).drew;obtain ⟨k0,k1,k2,k3⟩:=HS.out;exact ⟨k01 hb k0,k01 hb k1,k01 hb k2,k01 hb k3⟩)
 go_wp2;refine WpL.region (fun (W:World)=>W.cell? ⟨ob,0,none⟩=some (.slice A n c)/\W.cell? ⟨nb,0,none⟩=some (.pointer (some ⟨T.g,0,none⟩))/\W.cell? ⟨T.g,13,none⟩=some (.slice (some ⟨T.pb,T.po,none⟩) (np D v:Nat) T.pc)/\W.cell? ⟨T.pb,T.po+i*3,none⟩=some (.int .i64 (k0E D v i:Nat))) 13 zz3 ?_;refine WpL.T 0 [] HS.out ?_;refine WpL.T 1 [] HS.out ?_;refine WpL.T 2 [] HS.out ?_;refine WpL.T 3 [] HS.out ?_;refine WpL.T 4 [] HS.out ?_;refine WpL.T 5 [] HS.out ?_;refine WpL.T 6 [] HS.out ?_;refine WpL.T 7 [] HS.out ?_;refine WpL.T 8 [] HS.out ?_;refine WpL.T 9 [] HS.out ?_;refine WpL.T 10 [] HS.out ?_;refine WpL.one (i:=11) zz3 rfl (fun K hK=>?_);go_simp;refine hK.out _ _ (fun _=>S1.out) ?_;clear hK K
 try refine Sm ?_
 refine WpL.one (i:=12) zz3 rfl (fun K hK=>?_);refine k0D rfl _ _ 113 115 (.agg #[.int .i64 0,.slice none 0 0]) 2 32 rfl Tryz.underlying113 kbJ rfl zz8 zz8 (.slice A n c) n (k0R outs us) [.int .i64 (k0E D v i:Nat),.slice (some ⟨bb,0,none⟩) F.bytes.length bc] g YY.out.2.2.1.drew rfl rfl rfl rfl G.out zz1 ?_;intro v3 w3 g3 R3 O3' G3;obtain ⟨A3,c3,rfl,_⟩:=R3.size;have O3:=Ab (Only.undrew O3');have HS3:=Ab (show (fun (W:World)=>W.cell? ⟨ob,0,none⟩=some (.slice A n c)/\W.cell? ⟨nb,0,none⟩=some (.pointer (some ⟨T.g,0,none⟩))/\W.cell? ⟨T.g,13,none⟩=some (.slice (some ⟨T.pb,T.po,none⟩) (np D v:Nat) T.pc)/\W.cell? ⟨T.pb,T.po+i*3,none⟩=some (.int .i64 (k0E D v i:Nat))) w3 from by obtain ⟨k0,k1,k2,k3⟩:=HS.out;exact ⟨O3.out.cell k0 (fun h=>(HGO.out _ h).1 rfl),O3.out.cell k1 (fun h=>(HGO.out _ h).2.1 rfl),O3.out.cell k2 (fun h=>(HGO.out _ h).2.2.1 rfl),O3.out.cell k3 (fun h=>(HGO.out _ h).2.2.2 rfl)⟩);have Z3:=Ab (O3.out.blk YY.out.1 (fun h=>(HGO.out _ h).1 rfl));have f3:=k02 Z3.out 0;have c3':=HS3.out.1;have HR3:=Ab R3;have HG3:=Ab G3;clear R3 O3' G3;refine hK.out _ _ (fun _=>HS3.out) ?_;clear hK K
 try refine Sm ?_
 refine WpL.one (i:=13) zz3 rfl (fun K hK=>?_);go_simp;refine hK.out _ _ (fun h=>absurd rfl h) ?_;clear hK K
 try refine Sm ?_
 refine WpL.done zz3 ?_ _;go_wp2;go_end0;obtain ⟨z1,z2,z3,z4,z5,z6,z7,z8,z9,z10⟩:=YY.out;have hf0:Fresh o w:=HH.out.2.1;have OS:=k0k w3 ob 0 (.slice A3 (n+1) c3);have hob3:=k03 Z3.out;have hbb:=K.out.1.lt rfl;have hbl3:bb<w3.heap.size:=Nat.lt_of_lt_of_le hbb O3.out.size;obtain ⟨curb,hcb⟩:=K.out.1.blk_ty;have hbob:bb≠ob:=k0v hcb z1 zz8;have keep:∀ (b:Nat) (cur:Array Value),w2.heap[b]? = some (Obj.cells cur 5 (0,0))->(w3.setCell ⟨ob,0,none⟩ (.slice A3 (n+1) c3)).heap[b]? = w2.heap[b]?:=fun b cur hc=>by
  have h1:b≠ob:=k0v hc z1 zz8;refine (OS.keep b (Nat.lt_of_lt_of_le (k03 hc) O3.out.size) h1).trans (O3.out.keep b (k03 hc) (fun e=>?_));obtain ⟨cur',hc'⟩:=(e ▸ z3:Row w2 (.slice A n c) 115 2 n (k0R outs us) (some b)).blk_ty;exact k0v hc hc' zz8 rfl
 refine ⟨rfl,?_,⟨⟨_,(k05 Z3.out 0 (.slice A3 (n+1) c3)),us++[.slice (some ⟨bb,0,none⟩) F.bytes.length bc],g3,by simp [z2],?_,?_,?_⟩,?_,z7,z8,z9,z10⟩⟩
 · refine (((Only.of_below K.out.2.2).then O3.out (fun b hb h=>?_)).then OS (fun b hb e=>?_))
   · obtain ⟨cur',hc'⟩:=(h ▸ z3:Row w2 (.slice A n c) 115 2 n (k0R outs us) (some b)).blk_ty
     exact ⟨(z4 b h).1,(z4 b h).2,cur',115,(K.out.2.2.block b hb).symm.trans hc',.inr rfl⟩
   · rw [e] at hb ⊢
     exact ⟨z7,z9,_,113,(K.out.2.2.block ob hb).symm.trans z1,.inl rfl⟩
 · have h:=HR3.out.only OS (fun b e e2=>?_)
   · rw [k2i _ _ _ _ z2,List.length_append,List.length_singleton,<- HN.out]
     exact h
   · obtain ⟨cur,hc⟩:=(e ▸ HR3.out:Row w3 (.slice A3 (n+1) c3) 115 2 (n+1) _ (some b)).blk_ty
     exact k0v hc Z3.out zz8 e2
 · intro b hb
   rcases HG3.out with h | ⟨b2,h,hb2⟩
   · exact z4 b (h ▸ hb)
   · rw [h] at hb
     cases hb;have h1:=K.out.2.2.size;have h2:w2.heap.size<=b:=hb2;exact ⟨by have:=HH.out.2.2.2;omega,hf0 b zz1⟩
 · intro j p u hp hu
   by_cases e:j<outs.length
   · rw [List.getElem?_append_left e] at hp
     rw [List.getElem?_append_left zz1] at hu;obtain ⟨gb,rb,h1,h2⟩:=z5 j p u hp hu;obtain ⟨cur,hc⟩:=rb.blk_ty;exact ⟨gb,rb.of_blk (fun b e'=>by cases e';exact keep _ _ hc),h1,h2⟩
   · have hj:j=outs.length:=by have:=(List.getElem?_eq_some_iff.1 hp).1;simp at this;omega
     subst hj;rw [List.getElem?_append_right (Nat.le_refl _)] at hp;rw [<- z2,List.getElem?_append_right (Nat.le_refl _)] at hu;simp at hp hu;subst hp;subst hu;refine ⟨bb,K.out.1.of_blk (fun b e'=>by cases e';exact keep _ _ hcb),?_,hf0 bb ?_⟩
     · have:=K.out.2.1;have:=HX.out.size;have:=HH.out.2.2.2;omega
     · have:=K.out.2.1;have:=HX.out.size;omega
 · exact (OS.keep nb (Nat.lt_of_lt_of_le (k03 z6) O3.out.size) (k0v z6 z1 zz8)).trans ((O3.out.keep nb (k03 z6) (fun h=>(HGO.out _ h).2.1 rfl)).trans z6)
end
def k1a (f:Nat->Bool):Nat->Nat
 | 0=>0
 | k+1=>if f k then k1a f k ||| 2 ^ k else k1a f k
theorem k32 (f:Nat->Bool):∀ k,k<=6->k1a f k<64
 | 0,_=>by show 0<64;omega
 | k+1,h=>by
   have ih:=k32 f k zz1;unfold k1a;split
   · exact Nat.or_lt_two_pow (n:=6) ih (Nat.pow_lt_pow_right zz8 zz1)
   · exact ih
theorem k1M (f:Nat->Bool) (j:Nat):∀ k,(k1a f k).testBit j=(decide (j<k) && f j)
 | 0=>by simp [k1a]
 | k+1=>by
   have ih:=k1M f j k;unfold k1a;by_cases e:j=k
   · subst e
     split
     · rename_i h
       rw [Nat.testBit_or,ih,Nat.testBit_two_pow];simp [h]
     · rename_i h
       rw [ih];simp at h ⊢;simp [h]
   · have e1:decide (j<k+1)=decide (j<k):=by
      by_cases h:j<k
      · rw [decide_eq_true h,decide_eq_true zz1]
      · rw [decide_eq_false h,decide_eq_false zz1]
     split
     · rw [Nat.testBit_or,ih,Nat.testBit_two_pow,e1]
       have:decide (k=j)=false:=decide_eq_false (fun h=>e h.symm);simp [this]
     · rw [ih,e1]
def mayB (st:NSt) (i tt k:Nat):Bool:=!(st.q (i,tt,k)).isEmpty && (tt == 0 || decide ((st.snd tt k).1<(st.snd tt k).2))
def mayM (D:PlanD) (st:NSt) (i tt:Nat):Nat:=k1a (mayB st i tt) D.lanes
structure k9c (D:PlanD) (v:Nat) (st:NSt):Prop where
 s0:∀ i k,1<=i->i<np D v->k<D.lanes->0<=(st.snd i k).1
 s1:∀ i k,1<=i->i<np D v->k<D.lanes->(st.snd i k).1<=(st.snd i k).2
 s2:∀ i k,1<=i->i<np D v->k<D.lanes->(st.snd i k).2<=(st.snd i k).1+8
 s3:∀ i k,1<=i->i<np D v->k<D.lanes->(st.snd i k).1<=1000000
 r0:∀ i k,1<=i->i<np D v->k<D.lanes->0<=(st.rcv i k).1
 r1:∀ i k,1<=i->i<np D v->k<D.lanes->(st.rcv i k).1<=1000000
 r2:∀ i k,1<=i->i<np D v->k<D.lanes->0<=(st.rcv i k).2
 r3:∀ i k,1<=i->i<np D v->k<D.lanes->(st.rcv i k).2<=D.room
theorem SndSt.blw {w w':World} {g:Nat} {s l:Int} (h:SndSt w w g s l) (k:SndSt w w' g s l):Below w.heap.size w w':=⟨k.2.os,k.2.tape,k.2.output,k.2.size,fun b hb=>by
 by_cases e:b=g
 · subst e;rw [h.1,k.1]
 · exact k.2.keep b hb e⟩
theorem RcvSt.blw {w w':World} {g:Nat} {x h r:Int} (a:RcvSt w w g x h r) (k:RcvSt w w' g x h r):Below w.heap.size w w':=⟨k.2.os,k.2.tape,k.2.output,k.2.size,fun b hb=>by
 by_cases e:b=g
 · subst e;rw [a.1,k.1]
 · exact k.2.keep b hb e⟩
section
variable {w:World} {o:Nat->Col} {v:Nat} {D:PlanD} {T:NTab} {st:NSt}
theorem k6s (i tt:Nat) (H:NodeAt w o v D T st) (G:Good D) (hv:v<D.nodes) (hf:Fresh o w) (hi:i<np D v) (hto:tt<np D v) (N:k9c D v st) :
 Calls Tryz.prog 127 #[.pointer (some ⟨T.g,0,none⟩),.int .i64 i,.int .i64 tt] w fun e w'=>e = .returned (.int .u16 (mayM D st i tt:Nat))/\Below w.heap.size w w':=by
 have hl3:=G.l1;have hnp:=k2k G hv;have H0:=Ab (show _/\_/\_ from ⟨H,hf,N⟩);have b0:=fun j=>k00 H.blk j
 clear H hf N G;go_enter Tryz.func127,Tryz.ntmps127;go_wp2;clear b0
 go_loopw [7,14] (fun s7 s14 wr=>∃ k:Nat,k<=D.lanes/\s14 = .int .i64 k/\s7 = .int .u16 (k1a (mayB st i tt) k:Nat)/\k08 (Below w.heap.size w wr)) (fun _ s14 _=>D.lanes-ixOf s14)
 case atStart=>exact ⟨0,zz1,rfl,rfl,⟨Below.refl _ _⟩⟩
 case round=>
  obtain ⟨k,hk,rfl,rfl,R⟩:=hrel;by_cases hlt:k<D.lanes
  · have e1:(k:Int)<(D.lanes:Int):=by omega
    obtain ⟨H,hf,N⟩:=H0.out;have H1:=H.blw hf R.out;have b0:=fun j=>k00 H1.blk j
    have hlen:=Ab (k4k (k:=(D.lanes:Nat)) i tt k H1.rings zz1 zz1 zz1);have hor:=k8W ⟨k1a (mayB st i tt) k,k32 _ k zz1⟩ ⟨k,zz1⟩;simp only at hor;have hsucc:k1a (mayB st i tt) (k+1)=if mayB st i tt k then k1a (mayB st i tt) k ||| 2 ^ k else k1a (mayB st i tt) k:=rfl
    by_cases hq:st.q (i,tt,k)=[]
    · have hb:mayB st i tt k=false:=by unfold mayB;rw [hq];rfl
      have hs:k1a (mayB st i tt) k=k1a (mayB st i tt) (k+1):=by rw [hsucc,hb];rfl
      have hz:((st.q (i,tt,k)).length:Int)=0:=by rw [hq];rfl
      rw [hz] at hlen;have HS:=Ab hs;clear hs hsucc hb hz hq hor H hf N H1
      go_wp2_with (go_at_call 75;refine hlen.out.mono ?_;rintro e w2 ⟨rfl,rfl⟩)
      refine ⟨⟨k+1,zz1,rfl,by rw [<- HS.out],⟨R.out⟩⟩,?_⟩;exact zz18
    · have hz:(((st.q (i,tt,k)).length:Int) == 0)=false:=by
       have:(st.q (i,tt,k)).length≠0:=fun h=>hq (List.eq_nil_of_length_eq_zero h)
       simp;exact hq
      have hne:(!(st.q (i,tt,k)).isEmpty)=true:=by simpa using hq
      obtain ⟨L,hL⟩:∃ L,L=(st.q (i,tt,k)).length:=⟨_,rfl⟩;rw [<- hL] at hz hlen;clear hL;by_cases ht0:tt=0
      · have hb:mayB st i tt k=true:=by unfold mayB;rw [hne,show (tt == 0)=true from by simp [ht0]];rfl
        rw [hb,if_pos rfl] at hsucc;rw [<- hsucc] at hor;have e2:((tt:Int) == 0)=true:=by simp;omega
        clear ht0 hsucc hb hq hne H hf N H1
        go_wp2_with (go_at_call 75;refine hlen.out.mono ?_;rintro e w2 ⟨rfl,rfl⟩)
        refine ⟨⟨k+1,zz1,rfl,rfl,R⟩,?_⟩;exact zz18
      · have e2:((tt:Int) == 0)=false:=by simp;omega
        have h1t:1<=tt:=by omega
        obtain ⟨p0,p1,p2⟩:=H1.port tt hto;obtain ⟨l0,l1⟩:=H1.lane tt k h1t hto hlt;rw [show k1s D T tt = .slice (some ⟨T.lb tt,T.lo tt,none⟩) D.lanes (T.lc tt) from if_neg ht0] at p1;have i2:(tt:Int)<(np D v:Nat):=by omega
        obtain ⟨s,hs⟩:∃ s,s=(st.snd tt k).1:=⟨_,rfl⟩;obtain ⟨l,hl⟩:∃ l,l=(st.snd tt k).2:=⟨_,rfl⟩;have hsn:=H1.sndSt tt k h1t hto hlt;have x0:=N.s0 tt k h1t hto hlt;have x1:=N.s1 tt k h1t hto hlt;have x2:=N.s2 tt k h1t hto hlt;have x3:=N.s3 tt k h1t hto hlt;rw [<- hs,<- hl] at hsn;rw [<- hs] at x0 x1 x2 x3;rw [<- hl] at x1 x2;have HSN:=Ab hsn;have hb:mayB st i tt k=decide (s<l):=by
         unfold mayB;rw [hne,<- hs,<- hl,show (tt == 0)=false from by simp [ht0]];rfl
        clear hs hl hsn hq hne H hf N H1;by_cases hsl:s<l
        · have e3:decide (0<l-s)=true:=decide_eq_true zz1
          rw [hb,decide_eq_true hsl,if_pos rfl] at hsucc;rw [<- hsucc] at hor;clear hsucc hb
          go_wp2_with (first
           | (go_at_call 75;refine hlen.out.mono ?_;rintro e w2 ⟨rfl,rfl⟩)
           | (go_at_call 79;refine (k1p _ s l _ _ HSN.out x0 x1 x2 zz1).mono ?_;rintro e w3 ⟨rfl,h3⟩;have B3:=Ab (HSN.out.blw h3);clear h3))
          refine ⟨⟨k+1,zz1,rfl,rfl,⟨R.out.trans (B3.out.mono R.out.size)⟩⟩,?_⟩;exact zz18
        · have e3:decide (0<l-s)=false:=decide_eq_false zz1
          rw [hb,decide_eq_false hsl,if_neg zz17] at hsucc;have HS:=Ab hsucc.symm;clear hsucc hb hor
          go_wp2_with (first
           | (go_at_call 75;refine hlen.out.mono ?_;rintro e w2 ⟨rfl,rfl⟩)
           | (go_at_call 79;refine (k1p _ s l _ _ HSN.out x0 x1 x2 zz1).mono ?_;rintro e w3 ⟨rfl,h3⟩;have B3:=Ab (HSN.out.blw h3);clear h3))
          refine ⟨⟨k+1,zz1,rfl,by rw [<- HS.out],⟨R.out.trans (B3.out.mono R.out.size)⟩⟩,?_⟩;exact zz18
  · have e1:¬ (k:Int)<(D.lanes:Int):=by omega
    obtain rfl:k=D.lanes:=by omega
    go_wp2;go_ret;exact ⟨rfl,R.out⟩
end
section
variable {w:World} {o:Nat->Col} {c d:Col} {g n:Nat} {p k:Int} {q:Way->List Pk}
def kbW (w:World) (o:Nat->Col) (c d:Col) (g:Nat) (p k:Int) (n:Nat) (q:Way->List Pk) (a:Way) (x:Pk) (e:Ending) (w':World):Prop:=
 ∃ b o' q',e = .returned (.bool b)/\Tr (fun y=>y=c\/y=d) o w o' w'/\RingsAt w' o' c d g p k n q'/\(q'=updw q a (q a++[x])\/(q'=q/\∃ a,q a≠[]))
theorem k4Y (i j m:Nat) (x:Pk) (hf:Fresh o w) (hcd:c≠d) (hcj:c ≠ .junk) (hdj:d ≠ .junk) (H:RingsAt w o c d g p k n q) (hn:0<n) (hi:(i:Int)<p) (hj:(j:Int)<p) (hm:(m:Int)<k) :
 Calls Tryz.prog 121 #[.pointer (some ⟨g,0,none⟩),.int .i64 i,.int .i64 j,.int .i64 m,.agg #[.int .i64 x.src,.int .i64 x.dst,.int .i64 x.lane,.int .u32 x.body]] w (kbW w o c d g p k n q (i,j,m) x):=by
 obtain ⟨hg,X,hh,hp,hX,hpk⟩:=id H
 cases hl:X.l with
 | nil=>
   rw [hl] at hp;refine (k4d i j m x hf hh hp hX H hi hj hm).mono ?_;rintro e w' ⟨rfl,hb⟩;refine ⟨false,o,q,rfl,Tr.below hf hb,H.blw hb,.inr ⟨rfl,?_⟩⟩;obtain ⟨_,_,_,_,_,_,_,_,_,_,_,_,_,h5,_⟩:=hp;have h0:X.f 0≠none:=fun e=>by have:=(h5 0).2 ⟨hn,e⟩;cases this
   obtain ⟨a,ha⟩:=hX.all 0 hn h0;exact ⟨a,fun e=>by have h1:=hX.len a;have h2:=List.length_pos_of_mem ha;rw [e,List.length_nil] at h1;omega⟩
 | cons s l'=>
   rw [hl] at hp;refine (k5P i j m x hf hcd hcj hdj hg hpk hh hl hp hX H hi hj hm).mono ?_;rintro e w' ⟨rfl,o',t,r⟩;exact ⟨true,o',_,rfl,t,r,.inl rfl⟩
theorem RingsAt.len_le (H:RingsAt w o c d g p k n q) (a:Way):(q a).length<=200:=by
 obtain ⟨hg,X,hh,hp,hX,hpk⟩:=H;have h1:=k1Q (X.qs a) (List.range n) (hX.nodup _) (fun y hy=>List.mem_range.2 (hX.lt _ y hy));rw [List.length_range,hX.len] at h1;have:=hp.len;exact zz1
theorem k38 (i j m:Nat) (x:Pk) (r:List Pk) (hf:Fresh o w) (hcd:c≠d) (hcj:c ≠ .junk) (hdj:d ≠ .junk) (H:RingsAt w o c d g p k n q) (hi:i<16) (hj:j<16) (hm:m<3) (hq:q (i,j,m)=x :: r) :
 Calls Tryz.prog 129 #[.pointer (some ⟨g,0,none⟩),.int .i64 i,.int .i64 j,.int .i64 m] w fun e w'=>e = .returned (.tuple #[x.agg,.bool true])/\Tr (fun y=>y=c\/y=d) o w o w'/\RingsAt w' o c d g p k n (updw q (i,j,m) r):=by
 by_cases hz:r=[]
 · exact k4y i j m x r hf hcd hcj hdj H hi hj hm hq hz
 · exact k4D i j m x r hf hcd hcj hdj H hi hj hm hq hz
end
def PkIn (D:PlanD) (k:Nat) (x:Pk):Prop:=∃ s d:Nat,x.src=(s:Nat)/\x.dst=(d:Nat)/\s<D.nodes/\d<D.nodes/\s≠d/\x.lane=(k:Nat)/\0<=x.body/\x.body<=4294967295
def dstN (x:Pk):Nat:=x.dst.toNat
def k6r (D:PlanD) (st:NSt):Prop:=∀ k,k<D.lanes->∀ x∈st.waits k,PkIn D k x
def k3T (st:NSt) (k:Nat):Nat->Nat
 | 0=>0
 | j+1=>k3T st k j+(st.q (0,j,k)).length
def k7F (D:PlanD) (v k:Nat) (st st':NSt):Prop:=
 (D.room<=k3T st k (np D v)/\st'=st)\/(k3T st k (np D v)<D.room/\st.waits k=[]/\st'=st) \/
   ∃ x r,k3T st k (np D v)<D.room/\st.waits k=x :: r/\∃ q',st' = { st with waits:=upd st.waits k r,q:=q' } /\ (q'=updw st.q (0,tw D v (dstN x),k) (st.q (0,tw D v (dstN x),k)++[x])\/(q'=st.q/\∃ a,st.q a≠[]))
def FedTo (D:PlanD) (v:Nat) (st:NSt):Nat->NSt->Prop
 | 0,st'=>st'=st
 | k+1,st'=>∃ s,FedTo D v st k s/\k7F D v k s st'
section
variable {w:World} {o:Nat->Col} {v:Nat} {D:PlanD} {T:NTab} {st:NSt}
theorem NodeAt.rings_n (H:NodeAt w o v D T st) (G:Good D) (hv:v<D.nodes):0<np D v*D.lanes*D.room:=Nat.mul_pos (Nat.mul_pos (by unfold np;omega) G.l0) G.r0
def Fed (w:World) (o:Nat->Col) (v:Nat) (D:PlanD) (T:NTab) (st:NSt) (n:Nat) (w':World) (o':Nat->Col) (st':NSt):Prop:=FedTo D v st n st'/\NodeAt w' o' v D T st'/\Fresh o' w'/\Tr (k0u v) o w o' w'/\k6r D st'
theorem k8l (H:NodeAt w o v D T st) (G:Good D) (hv:v<D.nodes) (hf:Fresh o w) (K:k6r D st) :
 Calls Tryz.prog 89 #[.pointer (some ⟨T.g,0,none⟩)] w fun e w'=>e = .returned (.tuple #[])/\∃ o' st',Fed w o v D T st D.lanes w' o' st':=by
 have hl3:=G.l1;have hnp:=k2k G hv;have H0:=Ab (show _/\_/\_/\_ from ⟨H,hf,K,G⟩);have b0:=fun j=>k00 H.blk j
 clear H hf K G;go_enter Tryz.func89,Tryz.ntmps89;go_wp2;clear b0
 go_loopw [12] (fun s12 wr=>∃ (k:Nat) (o1:Nat->Col) (s1:NSt),k<=D.lanes/\s12 = .int .i64 k/\k08 (Fed w o v D T st k wr o1 s1)) (fun s12 _=>D.lanes-ixOf s12)
 case atStart=>exact ⟨0,o,st,zz1,rfl,⟨rfl,H0.out.1,H0.out.2.1,Tr.refl H0.out.2.1,H0.out.2.2.1⟩⟩
 case round=>
  obtain ⟨k,o1,s1,hk,rfl,R⟩:=hrel;by_cases hlt:k<D.lanes
  · have e1:(k:Int)<(D.lanes:Int):=by omega
    have b0:=fun j=>k00 R.out.2.1.blk j
    go_wp2
    go_loopw [3,20] (fun s3 s20 W=>∃ j:Nat,j<=np D v/\s20 = .int .i64 j/\s3 = .int .i64 (k3T s1 k j:Nat)/\k3T s1 k j<=j*200/\W=wr) (fun _ s20 _=>np D v-ixOf s20)
    case atStart=>exact ⟨0,zz1,rfl,rfl,by show 0<=_;omega,rfl⟩
    case round=>
     obtain ⟨j,hj,rfl,rfl,hm,rfl⟩:=hrel;by_cases hlj:j<np D v
     · have e2:(j:Int)<(np D v:Nat):=by omega
       have hlen:=k4k (k:=(D.lanes:Nat)) 0 j k R.out.2.1.rings zz1 zz1 zz1;have h200:=R.out.2.1.rings.len_le (0,j,k);have hsucc:k3T s1 k (j+1)=k3T s1 k j+(s1.q (0,j,k)).length:=rfl;obtain ⟨L,hL⟩:∃ L,L=(s1.q (0,j,k)).length:=⟨_,rfl⟩;obtain ⟨M,hM⟩:∃ M,M=k3T s1 k j:=⟨_,rfl⟩;rw [<- hL] at hlen h200 hsucc;rw [<- hM] at hm hsucc;rw [<- hM];have HS:=Ab hsucc;have HLen:=Ab hlen;clear hL hM hsucc hlen
       go_wp2_with (go_at_call 75;refine HLen.out.mono ?_;rintro e w2 ⟨rfl,rfl⟩)
       refine ⟨⟨j+1,zz1,rfl,by rw [HS.out];rfl,by rw [HS.out];omega,trivial⟩,?_⟩;show np D v-ixOf (.int .i64 ((j:Int)+1))<np D v-ixOf (.int .i64 (j:Int));exact zz10
     · have e2:¬ (j:Int)<(np D v:Nat):=by omega
       obtain rfl:j=np D v:=by omega
       obtain ⟨M,hM⟩:∃ M,M=k3T s1 k (np D v):=⟨_,rfl⟩;rw [<- hM] at hm;rw [<- hM];have HM:=Ab hM;clear hM;by_cases hroom:D.room<=M
       · have e3:(D.room:Int)<=(M:Int):=by omega
         have e4:decide (D.room<=M)=true:=decide_eq_true hroom;have HR:=Ab hroom;clear hroom;go_wp2;refine ⟨⟨k+1,o1,s1,zz1,rfl,⟨⟨s1,R.out.1,.inl ⟨by rw [<- HM.out];exact HR.out,rfl⟩⟩,R.out.2⟩⟩,?_⟩;exact zz18
       · have e3:¬ (D.room:Int)<=(M:Int):=by omega
         have e4:decide (D.room<=M)=false:=decide_eq_false hroom;have HR:=Ab (show M<D.room from zz1);clear hroom;cases hwt:s1.waits k with
         | nil=>
           have HN:=Ab hwt;have hcall:=Ab (k4L k R.out.2.1.host zz1 hwt);clear hwt
           go_wp2_with (go_at_call 120;refine hcall.out.mono ?_;rintro e w3 ⟨rfl,hb⟩;have B3:=Ab hb;clear hb)
           have B4:=Ab (show Below wr.heap.size wr (w3.alloc (.cells #[.int .i64 0,.int .i64 0,.int .i64 0,.int .u32 0] 40)) from B3.out.alloc B3.out.size _);refine ⟨⟨k+1,o1,s1,zz1,rfl,⟨⟨s1,R.out.1,.inr (.inl ⟨by rw [<- HM.out];exact HR.out,HN.out,rfl⟩)⟩,R.out.2.1.blw R.out.2.2.1 B4.out,R.out.2.2.1.blw B4.out,R.out.2.2.2.1.then (Tr.below (S:=k0u v) R.out.2.2.1 B4.out) (fun _ x=>x),R.out.2.2.2.2⟩⟩,?_⟩;exact zz18
         | cons x r=>
           have HN:=Ab hwt;have hcall:=Ab (k9p k x r R.out.2.2.1 R.out.2.1.host zz1 hwt);obtain ⟨xs,xd,hxs,hxd,hx1,hx2,hx3,hx4,hx5,hx6⟩:=R.out.2.2.2.2 k hlt x (by rw [hwt];simp);have HX:=Ab (show _/\_/\_/\_/\_/\_/\_/\_ from ⟨hxs,hxd,hx1,hx2,hx3,hx4,hx5,hx6⟩);clear hwt hxs hxd hx1 hx3 hx4 hx5 hx6
           go_wp2_with (go_at_call 120;refine hcall.out.mono ?_;rintro e w3 ⟨rfl,o3,t3,h3⟩;have K3:=Ab (show _/\_ from ⟨t3,h3⟩);clear t3 h3)
           obtain ⟨c1,c2,c3,c4,c5,c6,c7,c8⟩:=HX.out;have F3:=Ab (show Fresh o3 w3 from K3.out.1.fresh);have H3:=Ab (R.out.2.1.hostTo K3.out.1 K3.out.2);have B4:=Ab (show Below w3.heap.size w3 (w3.alloc (.cells #[.int .i64 x.src,.int .i64 x.dst,.int .i64 x.lane,.int .u32 x.body] 40)) from (Below.refl _ _).alloc (Nat.le_refl _) _);have H4:=Ab (H3.out.blw F3.out B4.out);have F4:=Ab (F3.out.blw B4.out);obtain ⟨q0,q1,q2,q3⟩:=box4 (w:=w3) (heap_alloc_new w3 (.cells #[.int .i64 x.src,.int .i64 x.dst,.int .i64 x.lane,.int .u32 x.body] 40));have HS:=Ab (show (fun (W:World)=>W.cell? ⟨T.g,15,none⟩=some (.pointer (some ⟨T.rings,0,none⟩))/\W.cell? ⟨w3.heap.size,0,none⟩=some (.int .i64 x.src)/\W.cell? ⟨w3.heap.size,1,none⟩=some (.int .i64 x.dst)/\W.cell? ⟨w3.heap.size,2,none⟩=some (.int .i64 x.lane)/\W.cell? ⟨w3.heap.size,3,none⟩=some (.int .u32 x.body)) (w3.alloc (.cells #[.int .i64 x.src,.int .i64 x.dst,.int .i64 x.lane,.int .u32 x.body] 40)) from ⟨(k00 H4.out.blk 15).trans rfl,q0,q1,q2,q3⟩);have hdn:dstN x=xd:=by unfold dstN;rw [c2];rfl
           have HD:=Ab (show x.dst=((dstN x:Nat):Int)/\dstN x<D.nodes from ⟨by rw [hdn];exact c2,by rw [hdn];exact c4⟩);obtain ⟨d,hd⟩:∃ d,d=dstN x:=⟨_,rfl⟩;rw [<- hd] at HD;have HDd:=Ab hd;have HTW:=Ab (kbU H0.out.2.2.2 hv HD.out.2);have HTC:=Ab (show Calls Tryz.prog 122 #[.pointer (some ⟨T.g,0,none⟩),.int .i64 x.dst] (w3.alloc (.cells #[.int .i64 x.src,.int .i64 x.dst,.int .i64 x.lane,.int .u32 x.body] 40)).drew _ from by
            have h:=k3L d (H4.out.blw F4.out (Below.refl _ _).drew) H0.out.2.2.2 hv HD.out.2 (F4.out.blw (Below.refl _ _).drew);rw [<- HD.out.1] at h;exact h)
           clear c1 c2 c3 c4 c5 c6 c7 c8 q0 q1 q2 q3 hdn hd hx2;refine WpL.region (fun (W:World)=>W.cell? ⟨T.g,15,none⟩=some (.pointer (some ⟨T.rings,0,none⟩))/\W.cell? ⟨w3.heap.size,0,none⟩=some (.int .i64 x.src)/\W.cell? ⟨w3.heap.size,1,none⟩=some (.int .i64 x.dst)/\W.cell? ⟨w3.heap.size,2,none⟩=some (.int .i64 x.lane)/\W.cell? ⟨w3.heap.size,3,none⟩=some (.int .u32 x.body)) 10 zz3 ?_;refine WpL.T 0 [3,2,1] HS.out ?_;refine WpL.T 1 [3,2] HS.out ?_;refine WpL.T 2 [3] HS.out ?_;refine WpL.T 3 [] HS.out ?_;refine WpL.T 4 [7] HS.out ?_;refine WpL.T 5 [7,6] HS.out ?_;refine WpL.T 6 [7] HS.out ?_;refine WpL.T 8 [] HS.out ?_;refine WpL.T 9 [] HS.out ?_;refine WpL.one (i:=7) zz3 rfl (fun K hK=>?_);go_simp;refine HTC.out.mono ?_;rintro e w5 ⟨rfl,hb⟩;have B5:=Ab (undrew hb);have HS5:=Ab (show (fun (W:World)=>W.cell? ⟨T.g,15,none⟩=some (.pointer (some ⟨T.rings,0,none⟩))/\W.cell? ⟨w3.heap.size,0,none⟩=some (.int .i64 x.src)/\W.cell? ⟨w3.heap.size,1,none⟩=some (.int .i64 x.dst)/\W.cell? ⟨w3.heap.size,2,none⟩=some (.int .i64 x.lane)/\W.cell? ⟨w3.heap.size,3,none⟩=some (.int .u32 x.body)) w5 from by obtain ⟨k0,k1,k2,k3,k4⟩:=HS.out;exact ⟨k01 B5.out k0,k01 B5.out k1,k01 B5.out k2,k01 B5.out k3,k01 B5.out k4⟩);clear hb;simp only [];refine hK.out _ _ (fun _=>HS5.out) ?_;clear hK K
           try refine Sm ?_
           refine WpL.one (i:=10) zz3 rfl (fun K hK=>?_);go_simp;refine (k4Y 0 (tw D v d) k x (F4.out.blw B5.out) zz17 zz17 zz17 (H4.out.blw F4.out B5.out).rings (H4.out.rings_n H0.out.2.2.2 hv) (by have:=k6J H0.out.2.2.2 hv;omega) (by have:=HTW.out;omega) zz1).mono ?_;rintro e w6 ⟨b6,o6,q6,rfl,t6,r6,c6⟩;have K6:=Ab (show _/\_/\_ from ⟨t6,r6,c6⟩);clear t6 r6 c6;simp only [];refine hK.out _ _ (fun h=>absurd rfl h) ?_;clear hK K
           try refine Sm ?_
           refine WpL.done zz3 ?_ _;go_wp2;have H5:=H4.out.blw F4.out B5.out;have H6:=H5.ringsTo K6.out.1 K6.out.2.1;have c6:=K6.out.2.2;have h5:dstN x=d:=HDd.out.symm;refine ⟨⟨k+1,o6,_,zz1,rfl,⟨⟨s1,R.out.1,.inr (.inr ⟨x,r,by rw [<- HM.out];exact HR.out,HN.out,q6,rfl,by rw [h5];exact c6⟩)⟩,H6,K6.out.1.fresh,?_,?_⟩⟩,?_⟩
           · exact ((R.out.2.2.2.1.then K3.out.1 (fun c e=>by rw [e];rfl)).then (Tr.below (S:=k0u v) F3.out (B4.out.trans (B5.out.mono B4.out.size))) (fun _ x=>x)).then K6.out.1 (fun c e=>by rcases e with e | e <;> rw [e] <;> rfl)
           · intro j hj y hy
             by_cases e:j=k
             · subst e
               rw [show ({ waits:=upd s1.waits j r,q:=q6,snd:=s1.snd,rcv:=s1.rcv,ticks:=s1.ticks }:NSt).waits j=r from k04 _ _ _] at hy;exact R.out.2.2.2.2 j hj y (by rw [HN.out];exact List.mem_cons_of_mem _ hy)
             · rw [show ({ waits:=upd s1.waits k r,q:=q6,snd:=s1.snd,rcv:=s1.rcv,ticks:=s1.ticks }:NSt).waits j=s1.waits j from k06 _ _ e] at hy
               exact R.out.2.2.2.2 j hj y hy
           · show D.lanes-ixOf (.int .i64 ((k:Int)+1))<D.lanes-ixOf (.int .i64 (k:Int))
             simp only [ixOf];exact zz1
  · have e1:¬ (k:Int)<(D.lanes:Int):=by omega
    obtain rfl:k=D.lanes:=by omega
    go_wp2;go_end0;exact ⟨rfl,o1,s1,R.out⟩
end
def askB (D:PlanD) (st:NSt) (i j:Nat):Bool:=decide (mayM D st i j≠0)
def askG (D:PlanD) (st:NSt) (n i j r:Nat):Nat:=if r<i then k1a (askB D st r) n else if r=i then k1a (askB D st i) j else 0
def k3P (D:PlanD) (v:Nat) (st:NSt):List Nat:=(List.range (np D v)).map fun i=>k1a (askB D st i) (np D v)
theorem k5R {α : Type} (n i:Nat) (g g':Nat -> α) (h:∀ r,r≠i->g r=g' r) (hi:i<n):((List.range n).map g).set i (g' i)=(List.range n).map g':=by
 apply List.ext_getElem?;intro r;by_cases e:r=i
 · subst e
   rw [List.getElem?_set_self (by simpa using hi)];simp [hi]
 · rw [List.getElem?_set_ne (fun h=>e h.symm)]
   by_cases hr:r<n
   · simp [hr,h r e]
   · simp [hr]
section
variable {w:World} {o:Nat->Col} {v:Nat} {D:PlanD} {T:NTab} {st:NSt}
def AskRow (W:World) (D:PlanD) (st:NSt) (ab n i j:Nat):Prop:=Row W (.slice (some ⟨ab,0,none⟩) n n) 23 1 n (u16s ((List.range n).map (askG D st n i j))) (some ab)
theorem AskRow.at {W:World} {ab n i j:Nat} (h:AskRow W D st ab n i j) (hi:i<n):W.cell? ⟨ab,i,none⟩=some (.int .u16 (k1a (askB D st i) j:Nat))/\W.frozen? ⟨ab,i,none⟩=false:=by
 obtain ⟨_,_,_,hs,hA,_,hfz,hc⟩:=h.open zz1;simp only [Value.slice.injEq,Option.some.injEq,Addr.mk.injEq,and_true,true_and] at hA;obtain ⟨⟨rfl,rfl⟩,rfl⟩:=hA;refine ⟨?_,hfz i⟩;have:=hc i (by simp [u16s];exact hi);rw [Nat.zero_add] at this;rw [this];simp [u16s,hi,askG]
theorem AskRow.next {W:World} {ab n i j:Nat} (h:AskRow W D st ab n i j) (hi:i<n):AskRow (W.setCell ⟨ab,i,none⟩ (.int .u16 (k1a (askB D st i) (j+1):Nat))) D st ab n i (j+1):=by
 have h2:=Row.set h i (by simp [u16s];exact hi) (.int .u16 (k1a (askB D st i) (j+1):Nat));rw [Nat.zero_add] at h2;have e:(u16s ((List.range n).map (askG D st n i j))).set i (.int .u16 (k1a (askB D st i) (j+1):Nat))=u16s ((List.range n).map (askG D st n i (j+1))):=by
  unfold u16s;rw [List.map_map,List.map_map];have:=k5R n i ((fun (k:Nat)=>Value.int .u16 (k:Int)) ∘ askG D st n i j) ((fun (k:Nat)=>Value.int .u16 (k:Int)) ∘ askG D st n i (j+1)) (fun r hr=>by simp [askG,hr]) hi;rw [<- this];simp [askG]
 rw [e] at h2;exact h2
theorem AskRow.skip {W:World} {ab n i j:Nat} (h:AskRow W D st ab n i j) (hb:askB D st i j=false):AskRow W D st ab n i (j+1):=by
 have e:askG D st n i j=askG D st n i (j+1):=by
  funext r;unfold askG;split
  · rfl
  · split
    · show _=if askB D st i j then _ else _
      rw [hb];rfl
    · rfl
 unfold AskRow at *;rw [<- e];exact h
theorem AskRow.row {W:World} {ab n i:Nat} (h:AskRow W D st ab n i n):AskRow W D st ab n (i+1) 0:=by
 have e:askG D st n i n=askG D st n (i+1) 0:=by
  funext r;unfold askG;by_cases h1:r<i
  · rw [if_pos h1,if_pos zz1]
  · rw [if_neg h1]
    by_cases h2:r=i
    · subst h2;rw [if_pos rfl,if_pos zz1]
    · rw [if_neg h2,if_neg zz1]
      split <;> rfl
 unfold AskRow at *;rw [<- e];exact h
theorem k7J (H:NodeAt w o v D T st) (G:Good D) (hv:v<D.nodes) (hf:Fresh o w) (N:k9c D v st) :
 Calls Tryz.prog 91 #[.pointer (some ⟨T.g,0,none⟩)] w fun e w'=>e = .returned (.slice (some ⟨w.heap.size,0,none⟩) (np D v:Nat) (np D v))/\Row w' (.slice (some ⟨w.heap.size,0,none⟩) (np D v:Nat) (np D v)) 23 1 (np D v) (u16s (k3P D v st)) (some w.heap.size)/\Below w.heap.size w w':=by
 obtain ⟨i0,hi,hz0,hz1,hz2⟩:=info_parts k8V;have hn6:=k2k G hv;have hn2:=k6J G hv;obtain ⟨n,hn⟩:∃ n,n=np D v:=⟨_,rfl⟩;have hmk:∀ W:World,(Instr.makeSlice 168 (.int .i64 n) (.int .i64 n)).run Tryz.prog W = .ok (.slice (some ⟨W.heap.size,0,none⟩) n n) (W.alloc (.cells (madeCells (Value.int .u16 0).cells (n*1)) 23)):=fun W=>by
  have:=run_make (P:=Tryz.prog) W 168 23 i0 _ Tryz.underlying168 hi hz0 .i64 .i64 n n zz1 zz1 zz62 zz1;exact zz28
 have H0:=Ab (show _/\_/\_/\_ from ⟨H,hf,N,G⟩);have b13:w.cell? ⟨T.g,13,none⟩=some (.slice (some ⟨T.pb,T.po,none⟩) n T.pc):=by rw [hn];exact (k00 H.blk 13).trans rfl
 have HL:=Ab (k03 H.blk);have hz:=HL.out;rw [<- hn] at hn6 hn2;obtain ⟨ab,hab⟩:∃ ab,ab=w.heap.size:=⟨_,rfl⟩;have HN:=Ab (show _/\_ from ⟨hn,hab⟩);have M0:=Ab (k3X w (.int .u16 0) 23 n rfl);rw [<- hn,<- hab];clear H hf N G hi hz0 hz1 hz2 hn hab;go_enter Tryz.func91,Tryz.ntmps91;go_wp2;clear hmk;rw [<- HN.out.2]
 go_loopw [17] (fun s17 wr=>∃ i:Nat,i<=n/\s17 = .int .i64 i/\k08 (AskRow wr D st ab n i 0/\Below w.heap.size w wr)) (fun s17 _=>n-ixOf s17)
 case atStart=>
  refine ⟨0,zz1,rfl,⟨?_,(Below.refl _ w).alloc (Nat.le_refl _) _⟩⟩;have h:=M0.out;rw [<- HN.out.2,Nat.mul_one] at h;unfold AskRow;have e:u16s ((List.range n).map (askG D st n 0 0))=List.replicate n (Value.int .u16 0):=by
   unfold u16s;rw [List.map_map];apply List.ext_getElem?;intro r;by_cases hr:r<n
   · simp [hr,askG,k1a]
   · simp [hr]
  rw [e];exact h
 case round=>
  obtain ⟨i,hi,rfl,R⟩:=hrel;by_cases hlt:i<n
  · have e1:(i:Int)<(n:Int):=by omega
    have b13':=R.out.2.cell (p:=⟨T.g,13,none⟩) HL.out;rw [b13] at b13';go_wp2
    go_loopw [25] (fun s25 wr=>∃ j:Nat,j<=n/\s25 = .int .i64 j/\k08 (AskRow wr D st ab n i j/\Below w.heap.size w wr)) (fun s25 _=>n-ixOf s25)
    case atStart=>exact ⟨0,zz1,rfl,R⟩
    case round=>
     obtain ⟨j,hj,rfl,R⟩:=hrel;by_cases hlj:j<n
     · have e2:(j:Int)<(n:Int):=by omega
       obtain ⟨H,hf,N,G⟩:=H0.out;have H1:=H.blw hf R.out.2;have hm:=Ab (k6s i j H1 G hv (hf.blw R.out.2) (by rw [<- HN.out.1];exact hlt) (by rw [<- HN.out.1];exact hlj) N);obtain ⟨m,hm0⟩:∃ m,m=mayM D st i j:=⟨_,rfl⟩;have HM:=Ab hm0;rw [<- hm0] at hm;clear H1 H hf N G hm0;by_cases hz:m=0
       · have e3:((m:Int) != 0)=false:=by rw [hz];rfl
         clear hz
         go_wp2_with (go_at_call 127;refine hm.out.mono ?_;rintro e w2 ⟨rfl,hb⟩;have B2:=Ab hb;clear hb)
         refine ⟨⟨j+1,zz1,rfl,⟨AskRow.skip (Row.below R.out.1 B2.out) ?_,R.out.2.trans (B2.out.mono R.out.2.size)⟩⟩,?_⟩
         · unfold askB;rw [<- HM.out];simp at e3;simp [e3]
         · show n-ixOf (.int .i64 ((j:Int)+1))<n-ixOf (.int .i64 (j:Int))
           simp only [ixOf];exact zz1
       · have e3:((m:Int) != 0)=true:=by simp;omega
         have hb:askB D st i j=true:=by unfold askB;rw [<- HM.out];simp [hz]
         have hor:=k8W ⟨k1a (askB D st i) j,k32 _ j zz1⟩ ⟨j,zz1⟩;simp only at hor;have hsucc:k1a (askB D st i) (j+1)=if askB D st i j then k1a (askB D st i) j ||| 2 ^ j else k1a (askB D st i) j:=rfl
         rw [hb,if_pos rfl] at hsucc;rw [<- hsucc] at hor;clear hsucc hb hz
         go_wp2_with (go_at_call 127;refine hm.out.mono ?_;rintro e w2 ⟨rfl,hb⟩;have B2:=Ab hb;clear hb)
         have A2:=Ab (show AskRow w2 D st ab n i j from Row.below R.out.1 B2.out);obtain ⟨c9,f9⟩:=A2.out.at hlt;have HS:=Ab (show (fun (W:World)=>W.cell? ⟨ab,i,none⟩=some (.int .u16 (k1a (askB D st i) j:Nat))) w2 from c9);refine WpL.region (fun (W:World)=>W.cell? ⟨ab,i,none⟩=some (.int .u16 (k1a (askB D st i) j:Nat))) 8 zz3 ?_;refine WpL.T 0 [] HS.out ?_;refine WpL.T 1 [] HS.out ?_;refine WpL.T 2 [] HS.out ?_;refine WpL.T 3 [] HS.out ?_;refine WpL.T 4 [] HS.out ?_;refine WpL.T 5 [] HS.out ?_;refine WpL.T 6 [] HS.out ?_;refine WpL.T 7 [] HS.out ?_;refine WpL.one (i:=8) zz3 rfl (fun K hK=>?_);go_simp;refine hK.out _ _ (fun h=>absurd rfl h) ?_;clear hK K
         try refine Sm ?_
         refine WpL.done zz3 ?_ _;go_wp2;refine ⟨⟨j+1,zz1,rfl,⟨Row.drew (A2.out.next hlt),?_⟩⟩,?_⟩
         · have h:=HN.out.2
           exact ((R.out.2.trans (B2.out.mono R.out.2.size)).setCell zz25 _).drew
         · show n-ixOf (.int .i64 ((j:Int)+1))<n-ixOf (.int .i64 (j:Int))
           simp only [ixOf];exact zz1
     · have e2:¬ (j:Int)<(n:Int):=by omega
       obtain rfl:j=n:=by omega
       go_wp2;refine ⟨⟨i+1,zz1,rfl,⟨R.out.1.row,R.out.2⟩⟩,?_⟩;show j-ixOf (.int .i64 ((i:Int)+1))<j-ixOf (.int .i64 (i:Int));exact zz10
  · have e1:¬ (i:Int)<(n:Int):=by omega
    obtain rfl:i=n:=by omega
    go_wp2;go_ret;refine ⟨rfl,?_,by rw [HN.out.2];exact R.out.2⟩;have h:=R.out.1;unfold AskRow at h;have e:u16s ((List.range i).map (askG D st i i 0))=u16s (k3P D v st):=by
     unfold k3P;rw [<- HN.out.1];congr 1;refine List.map_congr_left fun r hr=>?_
     simp only [List.mem_range] at hr;simp [askG,hr]
    rw [e] at h;exact h
end
end Go.Proofs.YtdopmlopafgonaaGreatDoor.Own
