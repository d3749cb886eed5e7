/- TopOrder: of each flow what came is some of what was injected, in its order (a part of the walks and of the plain laws). -/
import Derived.Test.YtdopmlopafgonaaGreatDoorD0
import Derived.Test.YtdopmlopafgonaaGreatDoorD11
import Derived.Laws.ResultCell
set_option linter.unusedVariables false
set_option linter.unusedSimpArgs false
set_option maxHeartbeats 4000000
set_option maxRecDepth 100000
namespace Go.Proofs.YtdopmlopafgonaaGreatDoor.Own
open Go.RowKit Go.Proofs.YtdopmlopafgonaaGreatDoorW.PrintWords Go.Proofs.YtdopmlopafgonaaGreatDoorW.PrintLast Go.Proofs.YtdopmlopafgonaaGreatDoorW.PrintMore
theorem kcq:∃i,Tryz.prog.info? 40=some i/\i.size=4:=by
 have h:(Tryz.prog.info? 40).map (fun i=>i.size)=some 4:=zz2
 obtain⟨i,hi,hx⟩:=Option.map_eq_some_iff.1 h;exact⟨i,hi,hx⟩
theorem k0E{fn:Func}{p u:Tmp}{ty:TypeId}(h:fn.results=#[.cell p ty,.tmp u])(tmps:Array Value)(w:World)(ad:Addr)(v:Value)
 (hp:tmps.getD p undef=.pointer (some ad)) (hv:(loadVar ty ad).run Tryz.prog w=.ok v w) :
 (results fn tmps).run Tryz.prog w=.ok (.tuple #[v,tmps.getD u undef]) w:=by
 rw[results_cell_tmp h,hp];simp[asAddr,hv,Result.andThen]
theorem k5b{w:World}{g:Nat}{T:TypeId}{fr:Nat×Nat}{a b c d:Value}(hg:w.heap[g]? = some (.cells #[a,b,c,d] T fr)):(loadVar 40 ⟨g,0,none⟩).run Tryz.prog w=.ok (.agg #[a,b,c,d]) w:=
 run_loadVar_row w g T 40 _ fr _ hg Tryz.underlying40 rfl zz2
theorem HostAt.blw{w w':World}{o:Nat->Col}{c:Col}{g:Nat}{lanes queue:Int}{r:Nat->List Pk}(h:HostAt w o c g lanes queue r)(t:Below w.heap.size w w'):HostAt w' o c g lanes queue r:=by
 obtain⟨hg,vs,gs,hh,hr,hgs,hne,hn⟩:=h;exact⟨hg,vs,gs,(t.block _ (k03 hh)).trans hh,fun i hi=>(hr i hi).below t,hgs,hne,hn⟩
section
variable{w:World}{o:Nat->Col}{c:Col}{g:Nat}{lanes queue:Int}{r:Nat->List Pk}
theorem k6i(s d y:Int)(i:Nat)(H:HostAt w o c g lanes queue r)(hi:(i:Int)<lanes)(hq:((r i).length:Int)=queue) :
 Calls Tryz.prog 47 #[.pointer (some ⟨g,0,none⟩),.agg #[.int .i64 s,.int .i64 d,.int .i64 i,.int .u32 y]] w fun e w'=>e=.returned (.int .u16 150)/\Below w.heap.size w w':=by
 obtain⟨hg,vs,gs,hh,hr,hgs,hne,hn⟩:=H;have hi3:i<3:=by omega
 have hi4:i<4:=zz1
 have hi3i:(i:Int)<3:=zz1
 obtain⟨A,cap,hv,hcap⟩:=(hr i hi4).size;have hh':=(Below.heap_alloc w (.cells #[.int .i64 s,.int .i64 d,.int .i64 i,.int .u32 y] 40) g (k03 hh)).trans hh;have ci:(w.alloc (.cells #[.int .i64 s,.int .i64 d,.int .i64 i,.int .u32 y] 40)).cell? ⟨g,i,none⟩=some (.slice A (r i).length cap):=by rw[k00 hh',k3l vs i hi4,hv]
 have c4:(w.alloc (.cells #[.int .i64 s,.int .i64 d,.int .i64 i,.int .u32 y] 40)).cell? ⟨g,4,none⟩=some (.int .i64 lanes):=k00 hh' 4;have c5:(w.alloc (.cells #[.int .i64 s,.int .i64 d,.int .i64 i,.int .u32 y] 40)).cell? ⟨g,5,none⟩=some (.int .i64 queue):=k00 hh' 5;have e1:(((r i).length:Int) == queue)=true:=by simp[hq]
 clear hr hgs hne hq hh';go_enter Tryz.func47,Tryz.ntmps47;go_wp2
 go_quiet (fail)
 go_wp2;go_ret;exact⟨rfl,k0e ((Below.refl _ _).alloc (Nat.le_refl _) _) _⟩
theorem k3I(i:Nat)(H:HostAt w o c g lanes queue r)(hi:(i:Int)<lanes) :
 Calls Tryz.prog 73 #[.pointer (some ⟨g,0,none⟩),.int .i64 i] w fun e w'=>e=.returned (.int .i64 (r i).length)/\w=w':=by
 obtain⟨hg,vs,gs,hh,hr,hgs,hne,hn⟩:=H;have hi4:i<4:=by omega
 have hi3i:(i:Int)<3:=zz1
 obtain⟨A,cap,hv,hcap⟩:=(hr i hi4).size;have ci:w.cell? ⟨g,i,none⟩=some (.slice A (r i).length cap):=by rw[k00 hh,k3l vs i hi4,hv]
 have c4:w.cell? ⟨g,4,none⟩=some (.int .i64 lanes):=k00 hh 4;clear hr hgs hne;go_enter Tryz.func73,Tryz.ntmps73;exact zz16
theorem k4R(i:Nat)(H:HostAt w o c g lanes queue r)(hi:(i:Int)<lanes)(hz:r i=[]) :
 Calls Tryz.prog 120 #[.pointer (some ⟨g,0,none⟩),.int .i64 i] w fun e w'=>e=.returned (.tuple #[.agg #[.int .i64 0,.int .i64 0,.int .i64 0,.int .u32 0],.bool false])/\Below w.heap.size w w':=by
 have B0:=Ab ((Below.refl w.heap.size w).alloc (Nat.le_refl _) (.cells #[.int .i64 0,.int .i64 0,.int .i64 0,.int .u32 0] 40));have HH:=Ab H;have HW:=Ab (fun W (k:HostAt W o c g lanes queue r)=>k3I (w:=W) i k hi);have HA:=Ac (HostAt (w.alloc (.cells #[.int .i64 0,.int .i64 0,.int .i64 0,.int .u32 0] 40)) o c g lanes queue r) (H.blw B0.1);clear H;go_enter Tryz.func120,Tryz.ntmps120
 go_wp2_with(go_at_call 73;refine(HW.1 _ HA.1).mono ?_;rw[hz];rintro e w' ⟨rfl,rfl⟩)
 exact bodyPost_ret (k0E rfl _ _ _ _ rfl (k5b (heap_alloc_new w _))) rfl ⟨rfl,B0.1⟩
theorem kaf(i:Nat)(x:Pk)(l:List Pk)(hf:Fresh o w)(H:HostAt w o c g lanes queue r)(hi:(i:Int)<lanes)(hz:r i=x :: l) :
 Calls Tryz.prog 120 #[.pointer (some ⟨g,0,none⟩),.int .i64 i] w fun e w'=>e=.returned (.tuple #[x.agg,.bool true])/\∃o',Tr (fun x=>x=c) o w o' w'/\HostAt w' o' c g lanes queue (upd r i l):=by
 have B0:=Ab ((Below.refl w.heap.size w).alloc (Nat.le_refl _) (.cells #[.int .i64 0,.int .i64 0,.int .i64 0,.int .u32 0] 40));have HW:=Ab (fun W (k:HostAt W o c g lanes queue r)=>k3I (w:=W) i k hi);have HA:=Ac (HostAt (w.alloc (.cells #[.int .i64 0,.int .i64 0,.int .i64 0,.int .u32 0] 40)) o c g lanes queue r) (H.blw B0.1);obtain⟨hg,vs,gs,hh,hr,hgs,hne,hn⟩:=H;have hi4:i<4:=zz1
 have hi3i:(i:Int)<3:=zz1
 have hri:=hr i hi4;rw[hz]at hri;obtain⟨i40,hi40,hs40⟩:=kcq;obtain⟨b,off,cap,hgi,hv,hcap,hfz,hrd⟩:=hri.open zz6;rw[List.length_cons]at hcap;have hll:(k0J (x :: l)).length=(l.length+1)*4:=k1x _;have p0:w.cell? ⟨b,off,none⟩=some (.int .i64 x.src):=hrd 0 zz1;have p1:w.cell? ⟨b,off+1,none⟩=some (.int .i64 x.dst):=hrd 1 zz1;have p2:w.cell? ⟨b,off+2,none⟩=some (.int .i64 x.lane):=hrd 2 zz1;have p3:w.cell? ⟨b,off+3,none⟩=some (.int .u32 x.body):=hrd 3 zz1;have ci:w.cell? ⟨g,i,none⟩=some (.slice (some ⟨b,off,none⟩) (l.length+1) cap):=by rw[k00 hh,k3l vs i hi4,hv];rfl
 have q0:=fun o1=>k01 ((Below.refl _ w).alloc (Nat.le_refl _) o1) p0
 have q1:=fun o1=>k01 ((Below.refl _ w).alloc (Nat.le_refl _) o1) p1
 have q2:=fun o1=>k01 ((Below.refl _ w).alloc (Nat.le_refl _) o1) p2
 have q3:=fun o1=>k01 ((Below.refl _ w).alloc (Nat.le_refl _) o1) p3
 have qi:=fun o1=>k01 ((Below.refl _ w).alloc (Nat.le_refl _) o1) ci
 have FIN:=Ab (fun(w2:World) (l2:List Pk) (v2:Value) (g2:Option Nat)=>k5E (w2:=w2) (l2:=l2) (v2:=v2) (g2:=g2) hi4 (k03 hh) hg hr hgs hne hn);have HR:=Ab hri;have HH:=Ab hh;obtain⟨o1,ho1⟩:∃o1,o1=if cap=1 then off else off+4:=⟨_,rfl⟩
 have HT:=Ab (show Row w (.slice (some ⟨b,o1,none⟩) l.length (cap-1)) 40 4 l.length (k0J l) (gs i) by
  rw[hv]at hri;have:=Row.tail hri;rw[<- ho1]at this;exact this)
 have CT:∀W:World,(Instr.slice 34 (.slice (some ⟨b,off,none⟩) (l.length+1) cap) (some (.int .i64 1)) none none).run Tryz.prog W=.ok (.slice (some ⟨b,o1,none⟩) l.length (cap-1)) W:=fun W=>by
  have h:=k0P 34 40 .i64 Tryz.underlying34 hi40 4 hs40 (some ⟨b,off,none⟩) (l.length+1) cap 1 zz1 zz1 W;have e:(if cap=1 then some (⟨b,off,none⟩:Addr) else(some (⟨b,off,none⟩:Addr)).map (·.add (1*4)))=some ⟨b,o1,none⟩:=by
   rw[ho1];by_cases hc:cap=1
   ·rw[if_pos hc,if_pos hc]
   ·exact zz87
  rw[<- e];exact h
 have HNE:=Ab (hri.ne hh zz7);have hgl:g<w.heap.size:=k03 hh;have ST:=Ac ((fun W=>W.cell? ⟨g,i,none⟩=some (.slice (some ⟨b,off,none⟩) (l.length+1) cap)) ((w.alloc (.cells #[.int .i64 0,.int .i64 0,.int .i64 0,.int .u32 0] 40)).alloc (.cells #[.int .i64 x.src,.int .i64 x.dst,.int .i64 x.lane,.int .u32 x.body] 40))) (k01 ((Below.refl _ _).alloc (Nat.le_refl _) _) (qi _));have HX:=Ab (heap_alloc_new (w.alloc (.cells #[.int .i64 0,.int .i64 0,.int .i64 0,.int .u32 0] 40)) (.cells #[.int .i64 x.src,.int .i64 x.dst,.int .i64 x.lane,.int .u32 x.body] 40));clear ho1;clear p0 p1 p2 p3 ci hr hgs hne hri hfz hrd hll;go_enter Tryz.func120,Tryz.ntmps120
 go_wp2_with(go_at_call 73;refine(HW.1 _ HA.1).mono ?_;rw[hz];rintro e w' ⟨rfl,rfl⟩)
 have st:=ST.1;have fz:((w.alloc (.cells #[.int .i64 0,.int .i64 0,.int .i64 0,.int .u32 0] 40)).alloc (.cells #[.int .i64 x.src,.int .i64 x.dst,.int .i64 x.lane,.int .u32 x.body] 40)).frozen? ⟨g,i,none⟩=false:=k02 ((Below.heap_alloc _ _ _ zz20).trans ((Below.heap_alloc w _ _ hgl).trans hh)) i;refine WpL.region (fun W=>W.cell? ⟨g,i,none⟩=some (.slice (some ⟨b,off,none⟩) (l.length+1) cap)) 12 zz2 ?_;refine WpL.T 0 [] ST.1 ?_;refine WpL.T 1 [] ST.1 ?_;refine WpL.T 2 [] ST.1 ?_;refine WpL.T 3 [] ST.1 ?_;refine WpL.T 4 [] ST.1 ?_;refine WpL.T 5 [] ST.1 ?_;refine WpL.T 6 [] ST.1 ?_;refine WpL.T 7 [] ST.1 ?_;refine WpL.T 8 [] ST.1 ?_;refine WpL.T 9 [11,10] ST.1 ?_;refine WpL.T 10 [11] ST.1 ?_;refine WpL.T 11 [] ST.1 ?_;refine WpL.one (i:=12) zz2 rfl (fun K hK=>?_);go_simp;refine hK.out _ _ (fun h=>absurd rfl h) ?_;clear hK K
 try refine Sm ?_
 refine WpL.done zz2 ?_ _;clear st fz;go_wp2;have hsz:(w.setCell ⟨g,i,none⟩ (.slice (some ⟨b,o1,none⟩) l.length (cap-1))).heap.size=w.heap.size:=by simp[World.setCell]
 obtain⟨t1,h1⟩:=FIN.1 w l (.slice (some ⟨b,o1,none⟩) l.length (cap-1)) (gs i) HH.1 HT.1 (Only.refl _ _) (.inl rfl);have hb:Below (w.setCell ⟨g,i,none⟩ (.slice (some ⟨b,o1,none⟩) l.length (cap-1))).heap.size (w.setCell ⟨g,i,none⟩ (.slice (some ⟨b,o1,none⟩) l.length (cap-1))) (((w.setCell ⟨g,i,none⟩ (.slice (some ⟨b,o1,none⟩) l.length (cap-1))).alloc (.cells #[.int .i64 x.src,.int .i64 x.dst,.int .i64 x.lane,.int .u32 x.body] 40)).alloc (.cells #[.int .i64 x.src,.int .i64 x.dst,.int .i64 x.lane,.int .u32 x.body] 40)).drew:=(((Below.refl _ _).alloc (Nat.le_refl _) _).alloc zz6 _).drew;refine bodyPost_ret (k0E rfl _ _ ⟨w.heap.size,0,none⟩ x.agg rfl ?_) rfl ⟨rfl,_,t1.trans (Tr.below t1.fresh hb),h1.blw hb⟩;have h:=heap_alloc_new (w.setCell ⟨g,i,none⟩ (.slice (some ⟨b,o1,none⟩) l.length (cap-1))) (.cells #[.int .i64 x.src,.int .i64 x.dst,.int .i64 x.lane,.int .u32 x.body] 40);rw[hsz]at h;exact k5b ((Below.heap_alloc _ _ _ zz108).trans h)
end
theorem kbI:(Tryz.prog.info? 90).map (fun i=>(i.zero,i.size,i.bytes))=some (some (.agg #[.int .i64 0,.int .i64 0]),2,16):=by kernel_rfl
theorem k5D:(Tryz.prog.info? 131).map (fun i=>(i.zero,i.size,i.bytes))=some (some (.agg #[.int .i64 0,.int .i64 0]),2,16):=by kernel_rfl
theorem k1o:(Tryz.prog.info? 3).map (fun i=>(i.zero,i.size,i.bytes))=some (some (.int .i64 0),1,8):=by kernel_rfl
theorem k7a:(Tryz.prog.info? 29).map (fun i=>(i.zero,i.size,i.bytes))=some (some (.slice none 0 0),1,24):=by kernel_rfl
theorem kab(v:Value)(n:Nat)(cs:List Value)(g:Option Nat)(w:World)(R:Row w v 40 4 n cs g)(h1:∀u∈cs,u.oneCell'=true)(hl:n<=100000) :
 Calls Tryz.prog 48 #[v] w fun e w'=>∃v' g',e=.returned v'/\Row w' v' 40 4 n cs g'/\Below w.heap.size w w'/\(∀b,g'=some b->w.heap.size<=b)/\(v=.slice none 0 0->v'=.slice none 0 0):=by
 obtain⟨hcl,⟨rfl,rfl,rfl⟩|⟨b,off,cap,cur,rfl,rfl,hh,hc,hs,hr⟩⟩:=id R
 ·obtain rfl:cs=[]:=List.eq_nil_of_length_eq_zero (by simpa using hcl)
  have q1:=fun(w:World)=>Lib.run_eql_slice_nil (P:=Tryz.prog) w
  clear R;go_enter Tryz.func48,Tryz.ntmps48;exact zz27
 ·have q1:=fun(w:World)=>Lib.run_eql_slice_nil (P:=Tryz.prog) w
  obtain⟨i0,hi,hz0,hz1,hz2⟩:=info_parts k7K;have HR:=Ac (∀j u,cs[j]? = some u->(w.alloc (.cells #[] 40)).cell? ((⟨b,off,none⟩:Addr).add j)=some u) (fun j u hj=>by
   have hjl:=(List.getElem?_eq_some_iff.1 hj).1;rw[Addr.add_lit];exact(k00 ((Below.heap_alloc w _ b (k03 hh)).trans hh) _).trans ((hr j hjl).trans hj))
  have H1:=Ab h1;have HO:k07 ((w.alloc (.cells #[] 40)).ownsRow w.heap.size 40 4 (.slice (some ⟨w.heap.size,0,none⟩) 0 0) 0 []):=Ab ⟨rfl,.inr ⟨_,0,#[],rfl,Nat.le_refl _,heap_alloc_new w _,Nat.le_refl _,zz6,rfl,rfl⟩⟩;clear R hr h1 hh hs;go_enter Tryz.func48,Tryz.ntmps48
  go_wp2_with(at_builtin;refine wpList_append_own _ rfl _ _ 34 rfl w.heap.size 40 i0 (.agg #[.int .i64 0,.int .i64 0,.int .i64 0,.int .u32 0]) 4 32 Tryz.underlying34 hi hz0 hz1 hz2 rfl zz7 _ 0 [] rfl HO.1 ⟨b,off,none⟩ n cap cs rfl hcl HR.1 H1.1 zz79 zz1 zz6 ?_;intro v1 w1 ho hg _;rw[Nat.zero_add]at ho;have HO1:=Ab ho;have HG:=Ab hg;clear ho hg)
  go_ret;refine⟨_,_,rfl,Row.of_owns HO1.1,((Below.refl _ w).alloc (Nat.le_refl _) _).grown HG.1 zz6 (fun r e=>by cases e;simp),fun b' e=>?_,fun h=>by cases h⟩;obtain⟨_,⟨rfl,h0⟩|⟨b'',cap',cur,rfl,hb',_⟩⟩:=id HO1.1
  ·cases e
  ·cases e;exact hb'
theorem k8D(v:Value)(n:Nat)(cs:List Value)(g:Option Nat)(w:World)(R:Row w v 90 2 n cs g)(h1:∀u∈cs,u.oneCell'=true)(hl:n<=100000) :
 Calls Tryz.prog 51 #[v] w fun e w'=>∃v' g',e=.returned v'/\Row w' v' 90 2 n cs g'/\Below w.heap.size w w'/\(∀b,g'=some b->w.heap.size<=b)/\(v=.slice none 0 0->v'=.slice none 0 0):=by
 obtain⟨hcl,⟨rfl,rfl,rfl⟩|⟨b,off,cap,cur,rfl,rfl,hh,hc,hs,hr⟩⟩:=id R
 ·obtain rfl:cs=[]:=List.eq_nil_of_length_eq_zero (by simpa using hcl)
  have q1:=fun(w:World)=>Lib.run_eql_slice_nil (P:=Tryz.prog) w
  clear R;go_enter Tryz.func51,Tryz.ntmps51;exact zz27
 ·have q1:=fun(w:World)=>Lib.run_eql_slice_nil (P:=Tryz.prog) w
  obtain⟨i0,hi,hz0,hz1,hz2⟩:=info_parts kbI;have HR:=Ac (∀j u,cs[j]? = some u->(w.alloc (.cells #[] 90)).cell? ((⟨b,off,none⟩:Addr).add j)=some u) (fun j u hj=>by
   have hjl:=(List.getElem?_eq_some_iff.1 hj).1;rw[Addr.add_lit];exact(k00 ((Below.heap_alloc w _ b (k03 hh)).trans hh) _).trans ((hr j hjl).trans hj))
  have H1:=Ab h1;have HO:k07 ((w.alloc (.cells #[] 90)).ownsRow w.heap.size 90 2 (.slice (some ⟨w.heap.size,0,none⟩) 0 0) 0 []):=Ab ⟨rfl,.inr ⟨_,0,#[],rfl,Nat.le_refl _,heap_alloc_new w _,Nat.le_refl _,zz6,rfl,rfl⟩⟩;clear R hr h1 hh hs;go_enter Tryz.func51,Tryz.ntmps51
  go_wp2_with(at_builtin;refine wpList_append_own _ rfl _ _ 68 rfl w.heap.size 90 i0 (.agg #[.int .i64 0,.int .i64 0]) 2 16 Tryz.underlying68 hi hz0 hz1 hz2 rfl zz7 _ 0 [] rfl HO.1 ⟨b,off,none⟩ n cap cs rfl hcl HR.1 H1.1 zz79 zz1 zz6 ?_;intro v1 w1 ho hg _;rw[Nat.zero_add]at ho;have HO1:=Ab ho;have HG:=Ab hg;clear ho hg)
  go_ret;refine⟨_,_,rfl,Row.of_owns HO1.1,((Below.refl _ w).alloc (Nat.le_refl _) _).grown HG.1 zz6 (fun r e=>by cases e;simp),fun b' e=>?_,fun h=>by cases h⟩;obtain⟨_,⟨rfl,h0⟩|⟨b'',cap',cur,rfl,hb',_⟩⟩:=id HO1.1
  ·cases e
  ·cases e;exact hb'
theorem k7F(v:Value)(n:Nat)(cs:List Value)(g:Option Nat)(w:World)(R:Row w v 131 2 n cs g)(h1:∀u∈cs,u.oneCell'=true)(hl:n<=100000) :
 Calls Tryz.prog 60 #[v] w fun e w'=>∃v' g',e=.returned v'/\Row w' v' 131 2 n cs g'/\Below w.heap.size w w'/\(∀b,g'=some b->w.heap.size<=b)/\(v=.slice none 0 0->v'=.slice none 0 0):=by
 obtain⟨hcl,⟨rfl,rfl,rfl⟩|⟨b,off,cap,cur,rfl,rfl,hh,hc,hs,hr⟩⟩:=id R
 ·obtain rfl:cs=[]:=List.eq_nil_of_length_eq_zero (by simpa using hcl)
  have q1:=fun(w:World)=>Lib.run_eql_slice_nil (P:=Tryz.prog) w
  clear R;go_enter Tryz.func60,Tryz.ntmps60;exact zz27
 ·have q1:=fun(w:World)=>Lib.run_eql_slice_nil (P:=Tryz.prog) w
  obtain⟨i0,hi,hz0,hz1,hz2⟩:=info_parts k5D;have HR:=Ac (∀j u,cs[j]? = some u->(w.alloc (.cells #[] 131)).cell? ((⟨b,off,none⟩:Addr).add j)=some u) (fun j u hj=>by
   have hjl:=(List.getElem?_eq_some_iff.1 hj).1;rw[Addr.add_lit];exact(k00 ((Below.heap_alloc w _ b (k03 hh)).trans hh) _).trans ((hr j hjl).trans hj))
  have H1:=Ab h1;have HO:k07 ((w.alloc (.cells #[] 131)).ownsRow w.heap.size 131 2 (.slice (some ⟨w.heap.size,0,none⟩) 0 0) 0 []):=Ab ⟨rfl,.inr ⟨_,0,#[],rfl,Nat.le_refl _,heap_alloc_new w _,Nat.le_refl _,zz6,rfl,rfl⟩⟩;clear R hr h1 hh hs;go_enter Tryz.func60,Tryz.ntmps60
  go_wp2_with(at_builtin;refine wpList_append_own _ rfl _ _ 28 rfl w.heap.size 131 i0 (.agg #[.int .i64 0,.int .i64 0]) 2 16 Tryz.underlying28 hi hz0 hz1 hz2 rfl zz7 _ 0 [] rfl HO.1 ⟨b,off,none⟩ n cap cs rfl hcl HR.1 H1.1 zz79 zz1 zz6 ?_;intro v1 w1 ho hg _;rw[Nat.zero_add]at ho;have HO1:=Ab ho;have HG:=Ab hg;clear ho hg)
  go_ret;refine⟨_,_,rfl,Row.of_owns HO1.1,((Below.refl _ w).alloc (Nat.le_refl _) _).grown HG.1 zz6 (fun r e=>by cases e;simp),fun b' e=>?_,fun h=>by cases h⟩;obtain⟨_,⟨rfl,h0⟩|⟨b'',cap',cur,rfl,hb',_⟩⟩:=id HO1.1
  ·cases e
  ·cases e;exact hb'
theorem k2w(v:Value)(n:Nat)(cs:List Value)(g:Option Nat)(w:World)(R:Row w v 3 1 n cs g)(h1:∀u∈cs,u.oneCell'=true)(hl:n<=100000) :
 Calls Tryz.prog 61 #[v] w fun e w'=>∃v' g',e=.returned v'/\Row w' v' 3 1 n cs g'/\Below w.heap.size w w'/\(∀b,g'=some b->w.heap.size<=b)/\(v=.slice none 0 0->v'=.slice none 0 0):=by
 obtain⟨hcl,⟨rfl,rfl,rfl⟩|⟨b,off,cap,cur,rfl,rfl,hh,hc,hs,hr⟩⟩:=id R
 ·obtain rfl:cs=[]:=List.eq_nil_of_length_eq_zero (by simpa using hcl)
  have q1:=fun(w:World)=>Lib.run_eql_slice_nil (P:=Tryz.prog) w
  clear R;go_enter Tryz.func61,Tryz.ntmps61;exact zz27
 ·have q1:=fun(w:World)=>Lib.run_eql_slice_nil (P:=Tryz.prog) w
  obtain⟨i0,hi,hz0,hz1,hz2⟩:=info_parts k1o;have HR:=Ac (∀j u,cs[j]? = some u->(w.alloc (.cells #[] 3)).cell? ((⟨b,off,none⟩:Addr).add j)=some u) (fun j u hj=>by
   have hjl:=(List.getElem?_eq_some_iff.1 hj).1;rw[Addr.add_lit];exact(k00 ((Below.heap_alloc w _ b (k03 hh)).trans hh) _).trans ((hr j hjl).trans hj))
  have H1:=Ab h1;have HO:k07 ((w.alloc (.cells #[] 3)).ownsRow w.heap.size 3 1 (.slice (some ⟨w.heap.size,0,none⟩) 0 0) 0 []):=Ab ⟨rfl,.inr ⟨_,0,#[],rfl,Nat.le_refl _,heap_alloc_new w _,Nat.le_refl _,zz6,rfl,rfl⟩⟩;clear R hr h1 hh hs;go_enter Tryz.func61,Tryz.ntmps61
  go_wp2_with(at_builtin;refine wpList_append_own _ rfl _ _ 29 rfl w.heap.size 3 i0 (.int .i64 0) 1 8 Tryz.underlying29 hi hz0 hz1 hz2 rfl zz7 _ 0 [] rfl HO.1 ⟨b,off,none⟩ n cap cs rfl hcl HR.1 H1.1 zz79 zz1 zz6 ?_;intro v1 w1 ho hg _;rw[Nat.zero_add]at ho;have HO1:=Ab ho;have HG:=Ab hg;clear ho hg)
  go_ret;refine⟨_,_,rfl,Row.of_owns HO1.1,((Below.refl _ w).alloc (Nat.le_refl _) _).grown HG.1 zz6 (fun r e=>by cases e;simp),fun b' e=>?_,fun h=>by cases h⟩;obtain⟨_,⟨rfl,h0⟩|⟨b'',cap',cur,rfl,hb',_⟩⟩:=id HO1.1
  ·cases e
  ·cases e;exact hb'
theorem k8c(v:Value)(n:Nat)(cs:List Value)(g:Option Nat)(w:World)(R:Row w v 29 1 n cs g)(h1:∀u∈cs,u.oneCell'=true)(hl:n<=100000) :
 Calls Tryz.prog 62 #[v] w fun e w'=>∃v' g',e=.returned v'/\Row w' v' 29 1 n cs g'/\Below w.heap.size w w'/\(∀b,g'=some b->w.heap.size<=b)/\(v=.slice none 0 0->v'=.slice none 0 0):=by
 obtain⟨hcl,⟨rfl,rfl,rfl⟩|⟨b,off,cap,cur,rfl,rfl,hh,hc,hs,hr⟩⟩:=id R
 ·obtain rfl:cs=[]:=List.eq_nil_of_length_eq_zero (by simpa using hcl)
  have q1:=fun(w:World)=>Lib.run_eql_slice_nil (P:=Tryz.prog) w
  clear R;go_enter Tryz.func62,Tryz.ntmps62;exact zz27
 ·have q1:=fun(w:World)=>Lib.run_eql_slice_nil (P:=Tryz.prog) w
  obtain⟨i0,hi,hz0,hz1,hz2⟩:=info_parts k7a;have HR:=Ac (∀j u,cs[j]? = some u->(w.alloc (.cells #[] 29)).cell? ((⟨b,off,none⟩:Addr).add j)=some u) (fun j u hj=>by
   have hjl:=(List.getElem?_eq_some_iff.1 hj).1;rw[Addr.add_lit];exact(k00 ((Below.heap_alloc w _ b (k03 hh)).trans hh) _).trans ((hr j hjl).trans hj))
  have H1:=Ab h1;have HO:k07 ((w.alloc (.cells #[] 29)).ownsRow w.heap.size 29 1 (.slice (some ⟨w.heap.size,0,none⟩) 0 0) 0 []):=Ab ⟨rfl,.inr ⟨_,0,#[],rfl,Nat.le_refl _,heap_alloc_new w _,Nat.le_refl _,zz6,rfl,rfl⟩⟩;clear R hr h1 hh hs;go_enter Tryz.func62,Tryz.ntmps62
  go_wp2_with(at_builtin;refine wpList_append_own _ rfl _ _ 30 rfl w.heap.size 29 i0 (.slice none 0 0) 1 24 Tryz.underlying30 hi hz0 hz1 hz2 rfl zz7 _ 0 [] rfl HO.1 ⟨b,off,none⟩ n cap cs rfl hcl HR.1 H1.1 zz79 zz1 zz6 ?_;intro v1 w1 ho hg _;rw[Nat.zero_add]at ho;have HO1:=Ab ho;have HG:=Ab hg;clear ho hg)
  go_ret;refine⟨_,_,rfl,Row.of_owns HO1.1,((Below.refl _ w).alloc (Nat.le_refl _) _).grown HG.1 zz6 (fun r e=>by cases e;simp),fun b' e=>?_,fun h=>by cases h⟩;obtain⟨_,⟨rfl,h0⟩|⟨b'',cap',cur,rfl,hb',_⟩⟩:=id HO1.1
  ·cases e
  ·cases e;exact hb'
section
variable{w:World}{o:Nat->Col}{c:Col}{g:Nat}{lanes queue:Int}{r:Nat->List Pk}
theorem k5n(x:Pk)(hf:Fresh o w)(H:HostAt w o c g lanes queue r)(hl:(r 3).length<=10000) :
 Calls Tryz.prog 131 #[.pointer (some ⟨g,0,none⟩),.agg #[.int .i64 x.src,.int .i64 x.dst,.int .i64 x.lane,.int .u32 x.body]] w fun e w'=>e=.returned (.tuple #[])/\∃o',Tr (fun x=>x=c) o w o' w'/\HostAt w' o' c g lanes queue (upd r 3 (r 3++[x])):=by
 obtain⟨hg,vs,gs,hh,hr,hgs,hne,hn⟩:=H;have hi4:3<4:=by omega
 obtain⟨A,cap,hv,hcap⟩:=(hr 3 hi4).size;have hh':=(Below.heap_alloc w (.cells #[.int .i64 x.src,.int .i64 x.dst,.int .i64 x.lane,.int .u32 x.body] 40) g (k03 hh)).trans hh;have ci:(w.alloc (.cells #[.int .i64 x.src,.int .i64 x.dst,.int .i64 x.lane,.int .u32 x.body] 40)).cell? ⟨g,3,none⟩=some (.slice A (r 3).length cap):=by rw[k00 hh',k3l vs 3 hi4,hv]
 obtain⟨b0,b1,b2,b3⟩:=box4 (w:=w) (heap_alloc_new w (.cells #[.int .i64 x.src,.int .i64 x.dst,.int .i64 x.lane,.int .u32 x.body] 40));have HS:=Ac ((fun W=>W.cell? ⟨w.heap.size,0,none⟩=some (.int .i64 x.src)/\W.cell? ⟨w.heap.size,1,none⟩=some (.int .i64 x.dst)/\W.cell? ⟨w.heap.size,2,none⟩=some (.int .i64 x.lane)/\W.cell? ⟨w.heap.size,3,none⟩=some (.int .u32 x.body)/\W.cell? ⟨g,3,none⟩=some (.slice A (r 3).length cap)) (w.alloc (.cells #[.int .i64 x.src,.int .i64 x.dst,.int .i64 x.lane,.int .u32 x.body] 40))) (⟨b0,b1,b2,b3,ci⟩);have HR:=Ab ((hr 3 hi4).alloc (.cells #[.int .i64 x.src,.int .i64 x.dst,.int .i64 x.lane,.int .u32 x.body] 40));have HH:=Ab hh';have HO:=Ab (k7u x);have FIN:=Ab (fun(w2:World) (l2:List Pk) (v2:Value) (g2:Option Nat)=>k5E (w2:=w2) (l2:=l2) (v2:=v2) (g2:=g2) hi4 (k03 hh) hg hr hgs hne hn);have HNE:=Ab ((hr 3 hi4).ne hh zz7);have HNB:=Ac (gs 3≠some w.heap.size) (fun e=>by have:=(hr 3 hi4).lt e;omega);rw[hv]at HR;clear b0 b1 b2 b3 hh' hr hgs hne;go_enter Tryz.func131,Tryz.ntmps131;go_wp2;refine WpL.region (fun W=>W.cell? ⟨w.heap.size,0,none⟩=some (.int .i64 x.src)/\W.cell? ⟨w.heap.size,1,none⟩=some (.int .i64 x.dst)/\W.cell? ⟨w.heap.size,2,none⟩=some (.int .i64 x.lane)/\W.cell? ⟨w.heap.size,3,none⟩=some (.int .u32 x.body)/\W.cell? ⟨g,3,none⟩=some (.slice A (r 3).length cap)) 10 zz2 ?_;refine WpL.T 0 [] HS.1 ?_;refine WpL.T 1 [] HS.1 ?_;refine WpL.T 2 [] HS.1 ?_;refine WpL.T 3 [] HS.1 ?_;refine WpL.T 4 [] HS.1 ?_;refine WpL.T 5 [] HS.1 ?_;refine WpL.one (i:=6) zz2 rfl (fun K hK=>?_);go_simp;refine hK.out _ _ (fun _=>by obtain⟨k0,k1,k2,k3,k4⟩:=HS.1;exact⟨k01 ((Below.refl _ _).alloc (Nat.le_refl _) _) k0,k01 ((Below.refl _ _).alloc (Nat.le_refl _) _) k1,k01 ((Below.refl _ _).alloc (Nat.le_refl _) _) k2,k01 ((Below.refl _ _).alloc (Nat.le_refl _) _) k3,k01 ((Below.refl _ _).alloc (Nat.le_refl _) _) k4⟩) ?_;clear hK K
 try refine Sm ?_
 refine WpL.one (i:=7) zz2 rfl (fun K hK=>?_);refine k0w rfl _ _ 34 40 (.agg #[.int .i64 0,.int .i64 0,.int .i64 0,.int .u32 0]) 4 32 rfl Tryz.underlying34 k7K rfl zz7 zz7 (.slice A (r 3).length cap) (r 3).length (k0J (r 3)) (Pk.enc x) (gs 3) HR.1.drew rfl rfl (World.size_alloc _ _).symm rfl HO.1 zz1 ?_;intro v2 w2 g2 R2 O2' G2;obtain⟨A2,k2,rfl,hk2⟩:=R2.size;have O2:=Only.undrew O2';have hs2:(fun W=>W.cell? ⟨w.heap.size,0,none⟩=some (.int .i64 x.src)/\W.cell? ⟨w.heap.size,1,none⟩=some (.int .i64 x.dst)/\W.cell? ⟨w.heap.size,2,none⟩=some (.int .i64 x.lane)/\W.cell? ⟨w.heap.size,3,none⟩=some (.int .u32 x.body)/\W.cell? ⟨g,3,none⟩=some (.slice A (r 3).length cap)) w2:=by obtain⟨k0,k1,k2,k3,k4⟩:=HS.1;exact⟨O2.cell k0 HNB.1,O2.cell k1 HNB.1,O2.cell k2 HNB.1,O2.cell k3 HNB.1,O2.cell k4 HNE.1⟩
 have HS2:=Ab hs2;have hh2:=O2.blk HH.1 HNE.1;have f2:=k02 hh2 3;have c2:=hs2.2.2.2.2;have HH2:=Ab hh2;have HR2:=Ab R2;have HO2:=Ab (((Only.refl _ w).alloc _).trans O2);have HG2:=Ab G2;clear hh2 hs2 R2 O2 O2' G2;refine hK.out _ _ (fun _=>HS2.1) ?_;clear hK K
 try refine Sm ?_
 refine WpL.T 8 [9] HS2.1 ?_;refine WpL.T 9 [] HS2.1 ?_;refine WpL.one (i:=10) zz2 rfl (fun K hK=>?_);go_simp;refine hK.out _ _ (fun h=>absurd rfl h) ?_;clear hK K
 try refine Sm ?_
 refine WpL.done zz2 ?_ _;clear f2 c2;go_wp2;go_end0;obtain⟨k1,k2⟩:=FIN.1 w2 (r 3++[x]) (.slice A2 ((r 3).length+1) k2) g2 HH2.1 (by rw[k37,List.length_append];exact HR2.1) HO2.1 (by rcases HG2.1 with h|⟨b,h,hb⟩;exact .inl h;exact .inr ⟨b,h,by simp at hb;omega⟩);exact⟨rfl,_,k1,k2⟩
theorem kbw(H:HostAt w o c g lanes queue r)(hl:(r 3).length<=10000) :
 Calls Tryz.prog 23 #[.pointer (some ⟨g,0,none⟩)] w fun e w'=>∃v' g',e=.returned v'/\Row w' v' 40 4 (r 3).length (k0J (r 3)) g'/\Below w.heap.size w w'/\(∀b,g'=some b->w.heap.size<=b):=by
 obtain⟨hg,vs,gs,hh,hr,hgs,hne,hn⟩:=H;have ci:w.cell? ⟨g,3,none⟩=some (vs 3):=by rw[k00 hh];rfl
 have HR:=Ab (hr 3 zz1);obtain⟨A,cap,hv,hcap⟩:=(hr 3 zz1).size;have H1:=Ac (∀u∈k0J (r 3),u.oneCell'=true) (fun u hu=>by
  obtain⟨x,_,hx⟩:=List.mem_flatMap.1 hu;exact k7u x u hx)
 rw[hv]at ci HR;clear hr hgs hne hh;go_enter Tryz.func23,Tryz.ntmps23
 go_wp2_with fail
 refine(kab _ _ _ _ _ HR.1 H1.1 zz1).mono ?_;rintro e w1 ⟨v1,g1,rfl,h1,h2,h3,_⟩;have K:=Ab (And.intro h1 (And.intro h2 h3));clear h1 h2 h3;go_wp2;go_ret;exact⟨v1,g1,rfl,K.1.1,K.1.2.1,K.1.2.2⟩
theorem kaB(l q:Int)(w:World)(h0:1<=l)(h1:l<=3)(h2:1<=q)(h3:q<=8) :
 Calls Tryz.prog 65 #[.int .i64 l,.int .i64 q] w fun e w'=>e=.returned (.pointer (some ⟨w.heap.size,0,none⟩))/\w'=w.alloc (.cells #[.slice none 0 0,.slice none 0 0,.slice none 0 0,.slice none 0 0,.int .i64 l,.int .i64 q] 110):=by
 go_enter Tryz.func65,Tryz.ntmps65;exact zz16
theorem HostAt.new(o:Nat->Col)(c:Col)(l q:Int)(w:World)(h0:1<=l)(h1:l<=3)(h2:1<=q)(h3:q<=8)(hc:o w.heap.size=c) :
 HostAt (w.alloc (.cells #[.slice none 0 0,.slice none 0 0,.slice none 0 0,.slice none 0 0,.int .i64 l,.int .i64 q] 110)) o c w.heap.size l q (fun _=>[]):=
 ⟨hc,fun _=>.slice none 0 0,fun _=>none,heap_alloc_new _ _,fun _ _=>Row.nil _ _ _,zz6,zz6,h0,h1,h2,h3⟩
end
def hd(l:List Nat):Int:=match l with|[]=>-1|i :: _=>i
def PoolAt(w:World)(o:Nat->Col)(c:Col)(g n:Nat)(f:Nat->Option Pk)(l:List Nat):Prop:=
 o g=c/\∃(gs:Nat)(bx:Nat->Nat)(cur:Array Value),o gs=c/\w.heap[g]? = some (.cells #[.slice (some ⟨gs,0,none⟩) n n,.int .i64 (hd l),.int .i64 l.length] 239 (0,0))/\w.heap[gs]? = some (.cells cur 242 (0,0))/\cur.size=2*n/\n<=200 /\
  (∀i,i<n->cur[i*2]? = some (.pointer ((f i).map fun _=>⟨bx i,0,none⟩)))/\(∀i x,i<n->f i=some x->o (bx i)=c/\w.heap[bx i]? = some (.cells #[.int .i64 x.src,.int .i64 x.dst,.int .i64 x.lane,.int .u32 x.body] 40 (0,0))) /\
  (∀k i,l[k]? = some i->cur[i*2+1]? = some (.int .i64 (hd (l.drop (k+1)))))/\l.Nodup/\(∀i,i∈l ↔ i<n/\f i=none)/\(∀i,i<n->∃z,cur[i*2+1]? = some (.int .i64 z))
theorem PoolAt.tr{S:Col->Prop}{w w':World}{o o':Nat->Col}{c:Col}{g n:Nat}{f:Nat->Option Pk}{l:List Nat}(h:PoolAt w o c g n f l)(t:Tr S o w o' w')(hc:¬S c):PoolAt w' o' c g n f l:=by
 obtain⟨hg,gs,bx,cur,hgs,hh,hs,hz,hn,h1,h2,h3⟩:=h;exact⟨(t.own _ (k03 hh)).trans hg,gs,bx,cur,(t.own _ (k03 hs)).trans hgs,t.blk hh (by rw[hg];exact hc),t.blk hs (by rw[hgs];exact hc),hz,hn,h1,fun i x hi hx=>by
  obtain⟨k1,k2⟩:=h2 i x hi hx;exact⟨(t.own _ (k03 k2)).trans k1,t.blk k2 (by rw[k1];exact hc)⟩,h3⟩
section
variable{w:World}{o:Nat->Col}{c:Col}{g n:Nat}{f:Nat->Option Pk}{l:List Nat}
theorem k1w(A:Array Value){i j:Nat}(v:Value)(h:i≠j):(A.setIfInBounds i v)[j]? = A[j]?:=by
 rw[Array.getElem?_setIfInBounds,if_neg h]
theorem k2K(A:Array Value){i:Nat}(v:Value)(h:i<A.size):(A.setIfInBounds i v)[i]? = some v:=by
 rw[Array.getElem?_setIfInBounds,if_pos rfl,if_pos h]
theorem k1W{α : Type}[DecidableEq α]:∀(l l':List α),l.Nodup->(∀x∈l,x∈l')->l.length<=l'.length
 |[],_,_,_=>Nat.zero_le _
 |a :: l,l',h,hs=>by
  rw[List.nodup_cons]at h;have ha:=hs a zz6;have h1:=k1W l (l'.erase a) h.2 (fun x hx=>(List.mem_erase_of_ne (fun e=>h.1 (by rw[<- e];exact hx))).2 (hs x (by simp[hx])));have h2:=List.length_erase_of_mem ha;have h3:=List.length_pos_of_mem ha;simp only[List.length_cons];exact zz1
theorem PoolAt.len(H:PoolAt w o c g n f l):l.length<=n/\n<=200:=by
 obtain⟨_,_,_,_,_,_,_,_,hn,_,_,_,h4,h5,_⟩:=H;have:=k1W l (List.range n) h4 (fun x hx=>List.mem_range.2 ((h5 x).1 hx).1);rw[List.length_range]at this;exact⟨this,hn⟩
theorem k94{l:List Nat}(h:l.Nodup){k m i:Nat}(h1:l[k]? = some i)(h2:l[m]? = some i):k=m:=by
 obtain⟨a,ha⟩:=List.getElem?_eq_some_iff.1 h1;obtain⟨b,hb⟩:=List.getElem?_eq_some_iff.1 h2;exact(List.getElem_inj h).1 (ha.trans hb.symm)
theorem k6V(x:Pk){i:Nat}{gs:Nat}{bx:Nat->Nat}{cur:Array Value}(hg:o g=c)(hgs:o gs=c)(hh:w.heap[g]? = some (.cells #[.slice (some ⟨gs,0,none⟩) n n,.int .i64 (hd (i :: l)),.int .i64 (i :: l).length] 239 (0,0)))(hs:w.heap[gs]? = some (.cells cur 242 (0,0)))(hz:cur.size=2*n)(hn:n<=200)
 (h1:∀i,i<n->cur[i*2]? = some (.pointer ((f i).map fun _=>⟨bx i,0,none⟩))) (h2:∀i x,i<n->f i=some x->o (bx i)=c/\w.heap[bx i]? = some (.cells #[.int .i64 x.src,.int .i64 x.dst,.int .i64 x.lane,.int .u32 x.body] 40 (0,0)))
 (h3:∀k j,(i :: l)[k]? = some j->cur[j*2+1]? = some (.int .i64 (hd ((i :: l).drop (k+1))))) (h4:(i :: l).Nodup) (h5:∀j,j∈i :: l ↔ j<n/\f j=none) (h6:∀i,i<n->∃z,cur[i*2+1]? = some (.int .i64 z)) :
 Tr (fun y=>y=c) o w (paint o w.heap.size (w.heap.size+1) c) ((((w.alloc (.cells #[.int .i64 x.src,.int .i64 x.dst,.int .i64 x.lane,.int .u32 x.body] 40)).setCell ⟨gs,i*2,none⟩ (.pointer (some ⟨w.heap.size,0,none⟩))).setCell ⟨g,1,none⟩ (.int .i64 (hd l))).setCell ⟨g,2,none⟩ (.int .i64 l.length)) /\
 PoolAt ((((w.alloc (.cells #[.int .i64 x.src,.int .i64 x.dst,.int .i64 x.lane,.int .u32 x.body] 40)).setCell ⟨gs,i*2,none⟩ (.pointer (some ⟨w.heap.size,0,none⟩))).setCell ⟨g,1,none⟩ (.int .i64 (hd l))).setCell ⟨g,2,none⟩ (.int .i64 l.length)) (paint o w.heap.size (w.heap.size+1) c) c g n (upd f i (some x)) l:=by
 have hgl:=k03 hh;have hsl:=k03 hs;have hne:g≠gs:=k0u hh hs zz7;have hi:=(h5 i).1 zz6;have hsz:((((w.alloc (.cells #[.int .i64 x.src,.int .i64 x.dst,.int .i64 x.lane,.int .u32 x.body] 40)).setCell ⟨gs,i*2,none⟩ (.pointer (some ⟨w.heap.size,0,none⟩))).setCell ⟨g,1,none⟩ (.int .i64 (hd l))).setCell ⟨g,2,none⟩ (.int .i64 l.length)).heap.size=w.heap.size+1:=zz108
 have O:Only (fun b=>o b=c) w ((((w.alloc (.cells #[.int .i64 x.src,.int .i64 x.dst,.int .i64 x.lane,.int .u32 x.body] 40)).setCell ⟨gs,i*2,none⟩ (.pointer (some ⟨w.heap.size,0,none⟩))).setCell ⟨g,1,none⟩ (.int .i64 (hd l))).setCell ⟨g,2,none⟩ (.int .i64 l.length)):=
  ((((Only.refl _ w).alloc _).set (fun _=>hgs) _).set (fun _=>hg) _).set (fun _=>hg) _
 have T:=Tr.paint (S:=fun y=>y=c) (o:=o) c O;rw[hsz]at T;have far:∀b,b≠g->b≠gs->b<w.heap.size->((((w.alloc (.cells #[.int .i64 x.src,.int .i64 x.dst,.int .i64 x.lane,.int .u32 x.body] 40)).setCell ⟨gs,i*2,none⟩ (.pointer (some ⟨w.heap.size,0,none⟩))).setCell ⟨g,1,none⟩ (.int .i64 (hd l))).setCell ⟨g,2,none⟩ (.int .i64 l.length)).heap[b]? = w.heap[b]?:=fun b hb hb' hl=>
  (Below.heap_setCell _ _ _ _ hb).trans ((Below.heap_setCell _ _ _ _ hb).trans ((Below.heap_setCell _ _ _ _ hb').trans (Below.heap_alloc _ _ _ hl)))
 refine⟨T,(k0v _ _ hgl).trans hg,gs,upd bx i w.heap.size,cur.setIfInBounds (i*2) (.pointer (some ⟨w.heap.size,0,none⟩)),(k0v _ _ hsl).trans hgs,?_,?_,by simpa using hz,hn,fun j hj=>?_,fun j y hj hy=>?_,fun k j hk=>?_,(List.nodup_cons.1 h4).2,fun j=>?_,fun j hj=>?_⟩
 ·have a1:=(Below.heap_alloc w (.cells #[.int .i64 x.src,.int .i64 x.dst,.int .i64 x.lane,.int .u32 x.body] 40) g hgl).trans hh
  have a2:=(Below.heap_setCell (w.alloc (.cells #[.int .i64 x.src,.int .i64 x.dst,.int .i64 x.lane,.int .u32 x.body] 40)) ⟨gs,i*2,none⟩ (.pointer (some ⟨w.heap.size,0,none⟩)) g hne).trans a1;exact k05 (k05 a2 1 _) 2 _
 ·have a1:=(Below.heap_alloc w (.cells #[.int .i64 x.src,.int .i64 x.dst,.int .i64 x.lane,.int .u32 x.body] 40) gs hsl).trans hs
  exact(Below.heap_setCell _ _ _ _ (Ne.symm hne)).trans ((Below.heap_setCell _ _ _ _ (Ne.symm hne)).trans (k05 a1 _ _))
 ·by_cases e:j=i
  ·subst e
   rw[k2K _ _ zz1,k04,k04];rfl
  ·rw[k1w _ _ zz1,k06 _ _ e,k06 _ _ e]
   exact h1 j hj
 ·by_cases e:j=i
  ·subst e
   rw[k04]at hy ⊢;cases hy;refine⟨k0C _ _ (Nat.le_refl _) zz1,?_⟩;exact(Below.heap_setCell _ _ _ _ (by show w.heap.size≠g;omega)).trans ((Below.heap_setCell _ _ _ _ (by show w.heap.size≠g;omega)).trans ((Below.heap_setCell _ _ _ _ (by show w.heap.size≠gs;omega)).trans (heap_alloc_new w _)))
  ·rw[k06 _ _ e]at hy ⊢
   obtain⟨k1,k2⟩:=h2 j y hj hy;exact⟨(k0v _ _ (k03 k2)).trans k1,(far _ (k0u k2 hh zz7) (k0u k2 hs zz7) (k03 k2)).trans k2⟩
 ·rw[k1w _ _ zz1]
  exact h3 (k+1) j hk
 ·have:=h5 j
  by_cases e:j=i
  ·subst e
   rw[k04];exact⟨fun h=>absurd h (List.nodup_cons.1 h4).1,fun h=>by cases h.2⟩
  ·rw[k06 _ _ e,<- this]
   simp[e]
 ·rw[k1w _ _ zz1]
  exact h6 j hj
theorem k67(x:Pk)(H:PoolAt w o c g n f []) :
 Calls Tryz.prog 145 #[.pointer (some ⟨g,0,none⟩),.agg #[.int .i64 x.src,.int .i64 x.dst,.int .i64 x.lane,.int .u32 x.body]] w fun e w'=>e=.returned (.tuple #[.int .i64 0,.bool false])/\Below w.heap.size w w':=by
 obtain⟨hg,gs,bx,cur,hgs,hh,hs,hz,hn,h1,h2,h3,h4,h5,h6⟩:=H;have c1:(w.alloc (.cells #[.int .i64 x.src,.int .i64 x.dst,.int .i64 x.lane,.int .u32 x.body] 40)).cell? ⟨g,1,none⟩=some (.int .i64 (-1)):=k00 ((Below.heap_alloc w (.cells #[.int .i64 x.src,.int .i64 x.dst,.int .i64 x.lane,.int .u32 x.body] 40) g (k03 hh)).trans hh) 1;clear h1 h2 h3 h4 h5 h6;go_enter Tryz.func145,Tryz.ntmps145;go_wp2
 go_ret2
 exact⟨rfl,(Below.refl _ _).alloc (Nat.le_refl _) _⟩
theorem kaS(x:Pk)(i:Nat)(hf:Fresh o w)(H:PoolAt w o c g n f (i :: l)) :
 Calls Tryz.prog 145 #[.pointer (some ⟨g,0,none⟩),.agg #[.int .i64 x.src,.int .i64 x.dst,.int .i64 x.lane,.int .u32 x.body]] w fun e w'=>e=.returned (.tuple #[.int .i64 i,.bool true])/\∃o',Tr (fun y=>y=c) o w o' w'/\PoolAt w' o' c g n (upd f i (some x)) l:=by
 have hll:=H.len;rw[List.length_cons]at hll;have H0:=Ab H;obtain⟨hg,gs,bx,cur,hgs,hh,hs,hz,hn,h1,h2,h3,h4,h5,h6⟩:=H;have FIN:=Ab (k6V x hg hgs hh hs hz hn h1 h2 h3 h4 h5 h6);have hi:i<n:=((h5 i).1 zz6).1;have hh':=(Below.heap_alloc w (.cells #[.int .i64 x.src,.int .i64 x.dst,.int .i64 x.lane,.int .u32 x.body] 40) g (k03 hh)).trans hh;have hs':=(Below.heap_alloc w (.cells #[.int .i64 x.src,.int .i64 x.dst,.int .i64 x.lane,.int .u32 x.body] 40) gs (k03 hs)).trans hs;have c0:(w.alloc (.cells #[.int .i64 x.src,.int .i64 x.dst,.int .i64 x.lane,.int .u32 x.body] 40)).cell? ⟨g,0,none⟩=some (.slice (some ⟨gs,0,none⟩) n n):=k00 hh' 0;have c1:(w.alloc (.cells #[.int .i64 x.src,.int .i64 x.dst,.int .i64 x.lane,.int .u32 x.body] 40)).cell? ⟨g,1,none⟩=some (.int .i64 i):=k00 hh' 1;have c2:(w.alloc (.cells #[.int .i64 x.src,.int .i64 x.dst,.int .i64 x.lane,.int .u32 x.body] 40)).cell? ⟨g,2,none⟩=some (.int .i64 (l.length+1)):=k00 hh' 2;have hfi:f i=none:=((h5 i).1 zz6).2;have c3:(w.alloc (.cells #[.int .i64 x.src,.int .i64 x.dst,.int .i64 x.lane,.int .u32 x.body] 40)).cell? ⟨gs,i*2,none⟩=some (.pointer none):=by rw[k00 hs',h1 i hi,hfi];rfl
 have c4:(w.alloc (.cells #[.int .i64 x.src,.int .i64 x.dst,.int .i64 x.lane,.int .u32 x.body] 40)).cell? ⟨gs,i*2+1,none⟩=some (.int .i64 (hd l)):=by rw[k00 hs',h3 0 i rfl];rfl
 have f0:=fun k=>k02 hh' k
 have f1:=fun k=>k02 hs' k
 have ei:((i:Int) == -1)=false:=beq_eq_false_iff_ne.mpr zz1;have hne:g≠gs:=k0u hh hs zz7;clear h1 h2 h3 h4 h5 h6 hh' hs';go_enter Tryz.func145,Tryz.ntmps145;go_wp2
 go_ret2
 exact⟨rfl,_,FIN.1.1,FIN.1.2⟩
theorem kaw(i:Nat)(x:Pk)(H:PoolAt w o c g n f l)(hi:i<n)(hx:f i=some x) :
 Calls Tryz.prog 171 #[.pointer (some ⟨g,0,none⟩),.int .i64 i] w fun e w'=>e=.returned (.tuple #[x.agg,.bool true])/\Below w.heap.size w w':=by
 have HL:=H.len;obtain⟨hg,gs,bx,cur,hgs,hh,hs,hz,hn,h1,h2,h3,h4,h5,h6⟩:=H;have z:=(.cells #[.int .i64 0,.int .i64 0,.int .i64 0,.int .u32 0] 40:Obj);have A:∀{b:Nat}{q:Obj}(y:Obj),w.heap[b]? = some q->(w.alloc y).heap[b]? = some q:=fun y h=>(Below.heap_alloc w y _ (k03 h)).trans h
 have c0:=fun y=>k00 (A y hh) 0
 have c3:∀y,(w.alloc y).cell? ⟨gs,i*2,none⟩=some (.pointer (some ⟨bx i,0,none⟩)):=fun y=>by rw[k00 (A y hs),h1 i hi,hx];rfl
 have hb:=(h2 i x hi hx).2;have b0:=fun y=>k00 (A y hb) 0
 have b1:=fun y=>k00 (A y hb) 1
 have b2:=fun y=>k00 (A y hb) 2
 have b3:=fun y=>k00 (A y hb) 3
 simp only[List.getElem?_toArray,List.getElem?_cons_zero,List.getElem?_cons_succ]at c0 b0 b1 b2 b3;clear h1 h2 h3 h4 h5 h6 A hb z;go_enter Tryz.func171,Tryz.ntmps171
 go_wp2_with(go_at_call 172;go_in)
 exact bodyPost_ret (k0E rfl _ _ _ _ rfl (k5b (heap_alloc_new w _))) rfl ⟨rfl,(Below.refl _ _).alloc (Nat.le_refl _) _⟩
theorem k61{i:Nat}{x:Pk}{gs:Nat}{bx:Nat->Nat}{cur:Array Value}(hi:i<n)(hx:f i=some x)(hf:Fresh o w)(hg:o g=c)(hgs:o gs=c)(hh:w.heap[g]? = some (.cells #[.slice (some ⟨gs,0,none⟩) n n,.int .i64 (hd l),.int .i64 l.length] 239 (0,0)))(hs:w.heap[gs]? = some (.cells cur 242 (0,0)))(hz:cur.size=2*n)(hn:n<=200)
 (h1:∀i,i<n->cur[i*2]? = some (.pointer ((f i).map fun _=>⟨bx i,0,none⟩))) (h2:∀i x,i<n->f i=some x->o (bx i)=c/\w.heap[bx i]? = some (.cells #[.int .i64 x.src,.int .i64 x.dst,.int .i64 x.lane,.int .u32 x.body] 40 (0,0)))
 (h3:∀k j,l[k]? = some j->cur[j*2+1]? = some (.int .i64 (hd (l.drop (k+1))))) (h4:l.Nodup) (h5:∀j,j∈l ↔ j<n/\f j=none) (h6:∀i,i<n->∃z,cur[i*2+1]? = some (.int .i64 z)) :
 Tr (fun y=>y=c) o w o ((((w.setCell ⟨gs,i*2,none⟩ (.pointer none)).setCell ⟨gs,i*2+1,none⟩ (.int .i64 (hd l))).setCell ⟨g,1,none⟩ (.int .i64 i)).setCell ⟨g,2,none⟩ (.int .i64 (l.length+1))) /\
 PoolAt ((((w.setCell ⟨gs,i*2,none⟩ (.pointer none)).setCell ⟨gs,i*2+1,none⟩ (.int .i64 (hd l))).setCell ⟨g,1,none⟩ (.int .i64 i)).setCell ⟨g,2,none⟩ (.int .i64 (l.length+1))) o c g n (upd f i none) (i :: l):=by
 have hne:g≠gs:=k0u hh hs zz7;have hil:i ∉ l:=fun h=>by have:=((h5 i).1 h).2;rw[hx]at this;cases this
 have far:∀b,b≠g->b≠gs->((((w.setCell ⟨gs,i*2,none⟩ (.pointer none)).setCell ⟨gs,i*2+1,none⟩ (.int .i64 (hd l))).setCell ⟨g,1,none⟩ (.int .i64 i)).setCell ⟨g,2,none⟩ (.int .i64 (l.length+1))).heap[b]? = w.heap[b]?:=fun b hb hb'=>
  (Below.heap_setCell _ _ _ _ hb).trans ((Below.heap_setCell _ _ _ _ hb).trans ((Below.heap_setCell _ _ _ _ hb').trans (Below.heap_setCell _ _ _ _ hb')))
 refine⟨⟨((((Only.refl _ w).set (fun _=>hgs) _).set (fun _=>hgs) _).set (fun _=>hg) _).set (fun _=>hg) _,fun _ _=>rfl,fun b hb=>hf b zz78⟩,
  hg,gs,bx,(cur.setIfInBounds (i*2) (.pointer none)).setIfInBounds (i*2+1) (.int .i64 (hd l)),hgs,?_,?_,by simpa using hz,hn,fun j hj=>?_,fun j y hj hy=>?_,fun k j hk=>?_,List.nodup_cons.2 ⟨hil,h4⟩,fun j=>?_,fun j hj=>?_⟩
 ·exact k05 (k05 ((Below.heap_setCell _ _ _ _ hne).trans ((Below.heap_setCell _ _ _ _ hne).trans hh)) 1 _) 2 _
 ·exact(Below.heap_setCell _ _ _ _ (Ne.symm hne)).trans ((Below.heap_setCell _ _ _ _ (Ne.symm hne)).trans (k05 (k05 hs _ _) _ _))
 ·by_cases e:j=i
  ·subst e
   rw[k1w _ _ zz1,k2K _ _ zz1,k04];rfl
  ·rw[k1w _ _ zz1,k1w _ _ zz1,k06 _ _ e]
   exact h1 j hj
 ·by_cases e:j=i
  ·subst e
   rw[k04]at hy;cases hy
  ·rw[k06 _ _ e]at hy
   obtain⟨k1,k2⟩:=h2 j y hj hy;exact⟨k1,(far _ (k0u k2 hh zz7) (k0u k2 hs zz7)).trans k2⟩
 ·match k with
  |0=>
   cases hk;rw[k2K _ _ zz20];rfl
  |k+1=>
   have hjl:j∈l:=List.mem_of_getElem? hk;have:j≠i:=fun e=>hil (e▸hjl)
   rw[k1w _ _ zz1,k1w _ _ zz1];exact h3 k j hk
 ·by_cases e:j=i
  ·subst e
   rw[k04];simp[hi]
  ·rw[k06 _ _ e,<- h5 j]
   simp[e]
 ·by_cases e:j=i
  ·subst e
   exact⟨_,k2K _ _ zz20⟩
  ·rw[k1w _ _ zz1,k1w _ _ zz1]
   exact h6 j hj
theorem k6v(i:Nat)(x:Pk)(hf:Fresh o w)(H:PoolAt w o c g n f l)(hi:i<n)(hx:f i=some x) :
 Calls Tryz.prog 153 #[.pointer (some ⟨g,0,none⟩),.int .i64 i] w fun e w'=>e=.returned (.bool true)/\Tr (fun y=>y=c) o w o w'/\PoolAt w' o c g n (upd f i none) (i :: l):=by
 have HL:=H.len;obtain⟨hg,gs,bx,cur,hgs,hh,hs,hz,hn,h1,h2,h3,h4,h5,h6⟩:=H;have FIN:=Ab (k61 hi hx hf hg hgs hh hs hz hn h1 h2 h3 h4 h5 h6);have c0:w.cell? ⟨g,0,none⟩=some (.slice (some ⟨gs,0,none⟩) n n):=k00 hh 0;have c1:w.cell? ⟨g,1,none⟩=some (.int .i64 (hd l)):=k00 hh 1;have c2:w.cell? ⟨g,2,none⟩=some (.int .i64 l.length):=k00 hh 2;have c3:w.cell? ⟨gs,i*2,none⟩=some (.pointer (some ⟨bx i,0,none⟩)):=by rw[k00 hs,h1 i hi,hx];rfl
 obtain⟨z,hz6⟩:=h6 i hi;have c4:w.cell? ⟨gs,i*2+1,none⟩=some (.int .i64 z):=by rw[k00 hs,hz6]
 have f0:=fun k=>k02 hh k
 have f1:=fun k=>k02 hs k
 have hne:g≠gs:=k0u hh hs zz7;clear h1 h2 h3 h4 h5 h6 hz6;go_enter Tryz.func153,Tryz.ntmps153
 go_wp2_with(go_at_call 172;go_in)
 go_ret;exact⟨rfl,FIN.1.1,FIN.1.2⟩
end
end Go.Proofs.YtdopmlopafgonaaGreatDoor.Own
