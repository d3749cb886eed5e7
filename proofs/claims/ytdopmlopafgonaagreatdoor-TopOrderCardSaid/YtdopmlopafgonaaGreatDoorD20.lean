/- TopOrder: of each flow what came is some of what was injected, in its order (a part of the walks and of the plain laws). -/
import Derived.Test.YtdopmlopafgonaaGreatDoorD0
import Derived.Test.YtdopmlopafgonaaGreatDoorD19
import Derived.Scope
set_option linter.unusedVariables false
set_option linter.unusedSimpArgs false
set_option maxHeartbeats 4000000
set_option maxRecDepth 100000
namespace Go.Proofs.YtdopmlopafgonaaGreatDoor.Own
open Go.RowKit Go.Proofs.YtdopmlopafgonaaGreatDoorW.PrintWords Go.Proofs.YtdopmlopafgonaaGreatDoorW.PrintLast Go.Proofs.YtdopmlopafgonaaGreatDoorW.PrintMore
def del(a i:Nat):Nat:=if a.testBit i then a-2 ^ i else a
theorem kbD:∀a:Fin 64,∀i:Fin 6,bits BinOp.andNot IntKind.u16 (a.1:Int) (IntKind.u16.wrap (2 ^ i.1))=(del a.1 i.1:Nat)/\del a.1 i.1<64:=by decide
theorem mod7:∀i:Fin 7,∀n:Fin 7,0<n.1->Int.tmod (IntKind.i64.wrap ((i.1:Int)+1)) (n.1:Int)=((i.1+1) % n.1:Nat)/\(i.1+1) % n.1<n.1:=by decide
theorem kbE:∀n:Fin 7,IntKind.u16.wrap (IntKind.u16.wrap (2 ^ n.1)-1)=(2 ^ n.1-1:Nat)/\2 ^ n.1-1<64/\∀k,k<n.1->(2 ^ n.1-1).testBit k=true:=by decide
def k2W(rs:List Nat)(n:Nat)(ms:Nat->Int):Prop:=∀i,i<n->ms i = -1\/∃k,k<n/\ms i=(k:Nat)/\(rs.getD i 0).testBit k=true
def k2k(rs:List Nat)(n i0 k0:Nat):Prop:=i0<n/\k0<n/\∀i,i<n->∀k,k<n->(rs.getD i 0).testBit k=(i == i0 && k == k0)
structure RunB(w V:World)(o:Nat->Col)(c:Col)(g n R A gc:Nat)(cv:Value)(cols rs:List Nat)(ins outs:Nat)(ms:Nat->Int):Prop where
 only:Only (fun b=>o b=c) w V
 arb:ArbAt V o c g n
 mat:∃cur,V.heap[A]? = some (.cells cur 3 (0,0))/\cur.size=n/\∀i,i<n->cur[i]? = some (.int .i64 (ms i))
 box:V.heap[R]? = some (.cells #[.slice (some ⟨A,0,none⟩) n n,.int .u16 ins,.int .u16 outs] 216 (0,0))
 row:Row V cv 23 1 n (u16s cols) (some gc)
 tab:Tab V
 i6:ins<64
 o6:outs<64
 ok:k2W rs n ms
structure RunC(w:World)(o:Nat->Col)(c:Col)(n R A gc:Nat)(cols rs:List Nat):Prop where
 cj:c≠.junk
 fr:Fresh o w
 bR:w.heap.size<=R
 bA:w.heap.size<=A
 bC:w.heap.size<=gc
 nRA:R≠A
 nRC:R≠gc
 nAC:A≠gc
 c0:o 0≠c
 cols:∀k,k<n->∃x,cols[k]? = some x/\x<64/\∀j,j<6->x.testBit j=(decide (j<n) && (low (rs.getD j 0) n).testBit k)
theorem RunC.col{w:World}{o:Nat->Col}{c:Col}{n R A gc:Nat}{cols rs:List Nat}(h:RunC w o c n R A gc cols rs){k j:Nat}(hk:k<n)(hn:n<7)(hj:j<n):(cols.getD k 0).testBit j=(rs.getD j 0).testBit k:=by
 obtain⟨x,a,b,d⟩:=h.cols k hk;have:cols.getD k 0=x:=by rw[List.getD_eq_getElem?_getD,a];rfl
 rw[this,d j zz1,k27];simp[hk,hj]
theorem RunB.below{w V V':World}{o:Nat->Col}{c:Col}{g n R A gc:Nat}{cv:Value}{cols rs:List Nat}{ins outs:Nat}{ms:Nat->Int}(h:RunB w V o c g n R A gc cv cols rs ins outs ms)(k:Below V.heap.size V V'):RunB w V' o c g n R A gc cv cols rs ins outs ms:=by
 obtain⟨cur,m1,m2⟩:=h.mat;refine⟨h.only.below k,?_,⟨cur,(k.block _ (k03 m1)).trans m1,m2⟩,(k.block _ (k03 h.box)).trans h.box,h.row.below k,h.tab.below k,h.i6,h.o6,h.ok⟩;obtain⟨hg,ga,gb,f1,f2,hh,hne,oa,ob,h1,h2⟩:=h.arb;exact⟨hg,ga,gb,f1,f2,(k.block _ (k03 hh)).trans hh,hne,oa,ob,h1.of_blk (k.block _ h1.lt),h2.of_blk (k.block _ h2.lt)⟩
theorem RunB.drew{w V:World}{o:Nat->Col}{c:Col}{g n R A gc:Nat}{cv:Value}{cols rs:List Nat}{ins outs:Nat}{ms:Nat->Int}(h:RunB w V o c g n R A gc cv cols rs ins outs ms):RunB w V.drew o c g n R A gc cv cols rs ins outs ms:=
 ⟨h.only.drew,h.arb,h.mat,h.box,h.row.drew,h.tab.drew,h.i6,h.o6,h.ok⟩
section
variable{w V:World}{o:Nat->Col}{c:Col}{g n R A gc:Nat}{cv:Value}{cols rs:List Nat}{ins outs:Nat}{ms:Nat->Int}
theorem RunB.old(h:RunB w V o c g n R A gc cv cols rs ins outs ms)(C:RunC w o c n R A gc cols rs){b:Nat}(hb:o b=c):b<w.heap.size:=by
 rcases Nat.lt_or_ge b w.heap.size with h'|h'
 ·exact h'
 ·have:=C.fr b h';rw[hb]at this;exact absurd this C.cj
theorem RunB.arbK(h:RunB w V o c g n R A gc cv cols rs ins outs ms)(C:RunC w o c n R A gc cols rs){x:Nat}(hx:w.heap.size<=x)(i:Nat)(v:Value):ArbAt (V.setCell ⟨x,i,none⟩ v) o c g n:=by
 have ne:∀b,o b=c->(V.setCell ⟨x,i,none⟩ v).heap[b]? = V.heap[b]?:=fun b hb=>Below.heap_setCell _ _ _ _ (by show b≠x;have:=h.old C hb;omega)
 obtain⟨hg,ga,gb,f1,f2,hh,hne,oa,ob,h1,h2⟩:=h.arb;exact⟨hg,ga,gb,f1,f2,(ne _ hg).trans hh,hne,oa,ob,h1.of_blk (ne _ oa),h2.of_blk (ne _ ob)⟩
theorem RunB.tabK(h:RunB w V o c g n R A gc cv cols rs ins outs ms)(hw:0<w.heap.size){x:Nat}(hx:w.heap.size<=x)(i:Nat)(v:Value):Tab (V.setCell ⟨x,i,none⟩ v):=h.tab.set zz1 _ _
theorem RunB.onlyK(h:RunB w V o c g n R A gc cv cols rs ins outs ms){x:Nat}(hx:w.heap.size<=x)(i:Nat)(v:Value):Only (fun b=>o b=c) w (V.setCell ⟨x,i,none⟩ v):=h.only.set (fun h'=>by have:x<w.heap.size:=h';omega) _
theorem RunB.mset(h:RunB w V o c g n R A gc cv cols rs ins outs ms)(C:RunC w o c n R A gc cols rs)(hw:0<w.heap.size)(i k:Nat)(hi:i<n)(hk:k<n)(hb:(rs.getD i 0).testBit k=true) :
 RunB w (V.setCell ⟨A,i,none⟩ (.int .i64 (k:Nat))) o c g n R A gc cv cols rs ins outs (fun j=>if j=i then(k:Nat) else ms j):=by
 obtain⟨cur,m1,m2,m3⟩:=h.mat;have a1:=C.nRA;have a2:=C.nAC;refine⟨h.onlyK C.bA _ _,h.arbK C C.bA _ _,⟨_,k05 m1 _ _,by simpa using m2,fun j hj=>?_⟩,(Below.heap_setCell _ _ _ _ (by show R≠A;exact a1)).trans h.box,h.row.of_blk (fun b e=>by cases e;exact Below.heap_setCell _ _ _ _ (by show gc≠A;exact fun e=>a2 e.symm)),h.tabK hw C.bA _ _,h.i6,h.o6,fun j hj=>?_⟩
 ·by_cases e:i=j
  ·subst e;rw[if_pos rfl];exact k2K _ _ zz1
  ·rw[if_neg (fun h=>e h.symm)];exact(k1w _ _ e).trans (m3 j hj)
 ·by_cases e:j=i
  ·subst e;rw[if_pos rfl];exact .inr ⟨k,hk,rfl,hb⟩
  ·rw[if_neg e];exact h.ok j hj
theorem RunB.iset(h:RunB w V o c g n R A gc cv cols rs ins outs ms)(C:RunC w o c n R A gc cols rs)(hw:0<w.heap.size)(x:Nat)(hx:x<64) :
 RunB w (V.setCell ⟨R,1,none⟩ (.int .u16 (x:Nat))) o c g n R A gc cv cols rs x outs ms:=by
 obtain⟨cur,m1,m2,m3⟩:=h.mat;have a1:=C.nRA;have a2:=C.nRC;exact⟨h.onlyK C.bR _ _,h.arbK C C.bR _ _,⟨_,(Below.heap_setCell _ _ _ _ (by show A≠R;exact fun e=>a1 e.symm)).trans m1,m2,m3⟩,by simpa using k05 h.box 1 (.int .u16 (x:Nat)),h.row.of_blk (fun b e=>by cases e;exact Below.heap_setCell _ _ _ _ (by show gc≠R;exact fun e=>a2 e.symm)),h.tabK hw C.bR _ _,hx,h.o6,h.ok⟩
theorem RunB.oset(h:RunB w V o c g n R A gc cv cols rs ins outs ms)(C:RunC w o c n R A gc cols rs)(hw:0<w.heap.size)(x:Nat)(hx:x<64) :
 RunB w (V.setCell ⟨R,2,none⟩ (.int .u16 (x:Nat))) o c g n R A gc cv cols rs ins x ms:=by
 obtain⟨cur,m1,m2,m3⟩:=h.mat;have a1:=C.nRA;have a2:=C.nRC;exact⟨h.onlyK C.bR _ _,h.arbK C C.bR _ _,⟨_,(Below.heap_setCell _ _ _ _ (by show A≠R;exact fun e=>a1 e.symm)).trans m1,m2,m3⟩,by simpa using k05 h.box 2 (.int .u16 (x:Nat)),h.row.of_blk (fun b e=>by cases e;exact Below.heap_setCell _ _ _ _ (by show gc≠R;exact fun e=>a2 e.symm)),h.tabK hw C.bR _ _,h.i6,hx,h.ok⟩
theorem NumsB.set{b n:Nat}{f:Nat->Nat}(h:NumsB V b n f)(i x:Nat)(hx:x<n):NumsB (V.setCell ⟨b,i,none⟩ (.int .i64 (x:Nat))) b n (fun j=>if j=i then x else f j):=by
 obtain⟨cur,h1,h2,h3⟩:=h;refine⟨_,k05 h1 _ _,by simpa using h2,fun j hj=>?_⟩;dsimp only;by_cases e:i=j
 ·subst e;rw[if_pos rfl];exact⟨hx,k2K _ _ zz1⟩
 ·rw[if_neg (fun h=>e h.symm)];exact⟨(h3 j hj).1,(k1w _ _ e).trans (h3 j hj).2⟩
theorem RunB.aset(h:RunB w V o c g n R A gc cv cols rs ins outs ms)(C:RunC w o c n R A gc cols rs){ga gb:Nat}{f1 f2:Nat->Nat}(hh:V.heap[g]? = some (.cells #[.slice (some ⟨ga,0,none⟩) n n,.slice (some ⟨gb,0,none⟩) n n] 195 (0,0)))(hne:ga≠gb)(oa:o ga=c)(ob:o gb=c)(h1:NumsB V ga n f1)(h2:NumsB V gb n f2)(hg:o g=c)
 (i k x y:Nat) (hx:x<n) (hy:y<n) :
 RunB w ((V.setCell ⟨ga,k,none⟩ (.int .i64 (x:Nat))).setCell ⟨gb,i,none⟩ (.int .i64 (y:Nat))) o c g n R A gc cv cols rs ins outs ms:=by
 obtain⟨cur,m1,m2,m3⟩:=h.mat;have la:=h.old C oa;have lb:=h.old C ob;have b1:=C.bA;have b2:=C.bR;have b3:=C.bC;have n0a:ga≠0:=fun e=>C.c0 (e▸oa)
 have n0b:gb≠0:=fun e=>C.c0 (e▸ob)
 obtain⟨c1,e1,_⟩:=id h1;obtain⟨c2,e2,_⟩:=id h2;have nga:g≠ga:=fun e=>by rw[<- e,hh]at e1;cases e1
 have ngb:g≠gb:=fun e=>by rw[<- e,hh]at e2;cases e2
 have keep:∀b,b≠ga->b≠gb->((V.setCell ⟨ga,k,none⟩ (.int .i64 (x:Nat))).setCell ⟨gb,i,none⟩ (.int .i64 (y:Nat))).heap[b]? = V.heap[b]?:=fun b p q=>(Below.heap_setCell _ _ _ _ (by show b≠gb;exact q)).trans (Below.heap_setCell _ _ _ _ (by show b≠ga;exact p))
 refine⟨(h.only.set (fun _=>oa) _).set (fun _=>ob) _,⟨hg,ga,gb,_,_,(keep g nga ngb).trans hh,hne,oa,ob,(h1.set k x hx).of_blk (Below.heap_setCell _ _ _ _ (by show ga≠gb;exact hne)),(h2.of_blk (Below.heap_setCell _ _ _ _ (by show gb≠ga;exact fun e=>hne e.symm))).set i y hy⟩,
  ⟨cur,(keep A zz1 zz1).trans m1,m2,m3⟩,(keep R zz1 zz1).trans h.box,h.row.of_blk (fun b e=>by cases e;exact keep _ zz1 zz1),(h.tab.set n0a _ _).set n0b _ _,h.i6,h.o6,h.ok⟩
theorem k5j(C:RunC w o c n R A gc cols rs)(hn:n<7){f:Nat->Nat}(hi6:ins<64){j:Nat}(hj:j<n)(hf:f j<n) :
 (pick (cols.getD j 0 &&& ins) (f j) n = -1/\∀k,k<n->((cols.getD j 0).testBit k && ins.testBit k)=false)\/∃k,k<n/\(rs.getD k 0).testBit j=true/\ins.testBit k=true/\pick (cols.getD j 0 &&& ins) (f j) n=(k:Nat):=by
 obtain⟨x,a,b,_⟩:=C.cols j hj;have hx:cols.getD j 0=x:=by rw[List.getD_eq_getElem?_getD,a];rfl
 have h6:=(k8g ⟨x,b⟩ ⟨ins,hi6⟩).2;simp only at h6;rcases k2n (x &&& ins) (f j) n h6 hf hn with⟨h,h'⟩|⟨k,hk,hb,h⟩
 ·rw[hx]
  exact .inl ⟨h,fun k hk=>by have:=h' k hk;rwa [Nat.testBit_and]at this⟩
 ·rw[hx]
  rw[Nat.testBit_and,Bool.and_eq_true]at hb;refine .inr ⟨k,hk,?_,hb.2,h⟩;rw[<- C.col hj hn hk,hx];exact hb.1
theorem k9L(C:RunC w o c n R A gc cols rs)(hn:n<7){f:Nat->Nat}(hi6:ins<64){i j:Nat}(hj:j<n)(hf:f j<n)(h:k1T cols ins outs f n i j=true):(rs.getD i 0).testBit j=true:=by
 unfold k1T at h;rw[Bool.and_eq_true,beq_iff_eq]at h;rcases k5j C hn hi6 hj hf with⟨e,_⟩|⟨k,_,hb,_,e⟩
 ·rw[e]at h;omega
 ·rw[e]at h
  have:k=i:=by omega
  subst this;exact hb
theorem k6Q(C:RunC w o c n R A gc cols rs)(hn:n<7){f:Nat->Nat}(hi6:ins<64){i0 k0:Nat}(hS:k2k rs n i0 k0)(hf:f k0<n)(h1:ins.testBit i0=true)(h2:outs.testBit k0=true):k1T cols ins outs f n i0 k0=true:=by
 obtain⟨a,b,s⟩:=hS;unfold k1T;rw[h2,Bool.and_true,beq_iff_eq];rcases k5j C hn hi6 b hf with⟨_,e⟩|⟨k,hk,hb,_,e⟩
 ·have:=e i0 a
  rw[h1,Bool.and_true,C.col b hn a,s i0 a k0 b]at this;simp at this
 ·rw[e]
  rw[s k hk k0 b]at hb;simp at hb;exact zz1
def InB(w V:World)(o:Nat->Col)(c:Col)(g n R A gc:Nat)(cv:Value)(cols rs:List Nat)(B:Nat)(gr:Nat->Nat->Bool)(ins outs:Nat)(ms:Nat->Int):Prop:=
 RunB w V o c g n R A gc cv cols rs ins outs ms/\∃cur,V.heap[B]? = some (.cells cur 23 (0,0))/\cur.size=n/\∀i,i<n->∃x:Nat,cur[i]? = some (.int .u16 x)/\x<64/\∀j,j<6->x.testBit j=(decide (j<n) && gr i j)
theorem InB.below{V':World}{B:Nat}{gr:Nat->Nat->Bool}(h:InB w V o c g n R A gc cv cols rs B gr ins outs ms)(k:Below V.heap.size V V'):InB w V' o c g n R A gc cv cols rs B gr ins outs ms:=by
 obtain⟨a,cur,b,d⟩:=h;exact⟨a.below k,cur,(k.block _ (k03 b)).trans b,d⟩
theorem InB.cellsA{B:Nat}{gr:Nat->Nat->Bool}(h:InB w V o c g n R A gc cv cols rs B gr ins outs ms){i:Nat}(hi:i<n):V.cell? ⟨R,0,none⟩=some (.slice (some ⟨A,0,none⟩) n n)/\V.cell? ⟨A,i,none⟩=some (.int .i64 (ms i))/\V.frozen? ⟨A,i,none⟩=false:=by
 obtain⟨cur,m1,m2,m3⟩:=h.1.mat;exact⟨k00 h.1.box 0,(k00 m1 i).trans (m3 i hi),k02 m1 i⟩
theorem InB.drew{B:Nat}{gr:Nat->Nat->Bool}(h:InB w V o c g n R A gc cv cols rs B gr ins outs ms):InB w V.drew o c g n R A gc cv cols rs B gr ins outs ms:=⟨h.1.drew,h.2⟩
theorem InB.to{B:Nat}{gr:Nat->Nat->Bool}{ins' outs':Nat}{ms':Nat->Int}{b i:Nat}{v:Value}(h:InB w V o c g n R A gc cv cols rs B gr ins outs ms)(hb:B≠b)(k:RunB w (V.setCell ⟨b,i,none⟩ v) o c g n R A gc cv cols rs ins' outs' ms'):InB w (V.setCell ⟨b,i,none⟩ v) o c g n R A gc cv cols rs B gr ins' outs' ms':=by
 obtain⟨a,cur,e,d⟩:=h;exact⟨k,cur,(Below.heap_setCell _ _ _ _ (by show B≠b;exact hb)).trans e,d⟩
end
theorem ka0(g n it:Nat)(rv:Value)(rs:List Nat)(rg:Option Nat)(o:Nat->Col)(c:Col)(w:World)(hn0:0<n)(hn:n<7)(hit:0<it/\it<=16)(hcj:c≠.junk)(hf:Fresh o w)(hA:ArbAt w o c g n)
 (hr:Row w rv 23 1 n (u16s rs) rg) (hrl:∀x∈rs,x<64) (hT:Tab w) (h0:o 0≠c) :
 Calls Tryz.prog 90 #[.pointer (some ⟨g,0,none⟩),rv,.int .i64 it] w fun e w'=>∃A ms,e=.returned (.slice (some ⟨A,0,none⟩) n n)/\w.heap.size<=A/\Only (fun b=>o b=c) w w'/\ArbAt w' o c g n /\
  (∃cur,w'.heap[A]? = some (.cells cur 3 (0,0))/\cur.size=n/\∀i,i<n->cur[i]? = some (.int .i64 (ms i)))/\k2W rs n ms/\∀i0 k0,k2k rs n i0 k0->ms i0=(k0:Nat):=by
 obtain⟨hg,ga,gb,f1,f2,hh,hne,oa,ob,hN1,hN2⟩:=id hA;have t1:decide ((it:Int)<1)=false:=decide_eq_false zz1;have t2:decide ((16:Int)<it)=false:=decide_eq_false zz1;obtain⟨al1,al2,al3⟩:=kbE ⟨n,hn⟩;simp only at al1 al2 al3;have cg0:=k00 hh 0;simp only[List.getElem?_toArray,List.getElem?_cons_zero]at cg0;obtain⟨b,off,cap,hrg,rfl,hcap,_,_⟩:=hr.open hn0;have HR:=Ac (_/\_/\_) (⟨hr,hrl,hT⟩);have HA:=Ab hA;have AL:=Ab al3;have gl:=k03 hh;clear hr hrl hT hA hN1 hN2 hrg hh al3;go_enter Tryz.func90,Tryz.ntmps90;go_wp2;refine wp_scope_straight ?_
 go_wp2_with(first
  |(go_at_call 123;refine(kal n _ _ _ hn0 hn (by first|exact cell_one_new _ _ _|simp)).mono ?_;rintro e w1 ⟨rfl,hN,hB,hs⟩;have HN:=Ac (_/\_/\_) (⟨hN,hB,hs⟩);have HS1:=Ac (w1.heap.size=w.heap.size+2) ((by simpa using hs));have BX:=Ac (Below w.heap.size w w1) (((Below.refl _ w).alloc (Nat.le_refl _) _).trans (hB.mono zz6));clear hN hB hs)
  |(go_at_call 124;refine(k8Y _ n rs _ _ (HR.1.1.below (BX.1.alloc (by have:=HS1.1;omega) _)) HR.1.2.1 hn0 hn (HR.1.2.2.below (BX.1.alloc (by have:=HS1.1;omega) _))).mono ?_;rintro e w2 ⟨cv,gc,cols,rfl,hRow,hgc,hB2,hcols⟩;have HC:=Ac (_/\_/\_/\_) (⟨hRow,hgc,hB2,hcols⟩);clear hRow hgc hB2 hcols))
 refine wp_label ?_;go_wp2;have hw0:=HR.1.2.2.lt;have hs1:=HS1.1;have CC:=Ac (RunC w o c n w1.heap.size (w.heap.size+1) gc cols rs) (⟨hcj,hf,zz1,zz1,by have:=HC.1.2.1;simp at this;omega,zz1,by have:=HC.1.2.1;simp at this;omega,by have:=HC.1.2.1;simp at this;omega,h0,HC.1.2.2.2⟩);have BW:=Ac (Below w.heap.size w w2) ((BX.1.alloc zz1 _).trans (HC.1.2.2.1.mono zz20));have RB:=Ac (RunB w w2 o c g n w1.heap.size (w.heap.size+1) gc cv cols rs (2 ^ n-1) (2 ^ n-1) (fun _=>-1)) (by
  obtain⟨cur,n1,n2,n3⟩:=HN.1.1;refine⟨Only.of_below BW.1,HA.1.tr (S:=fun _=>False) (Tr.below hf BW.1) (fun h=>h),⟨cur,(HC.1.2.2.1.block _ zz20).trans ((Below.heap_alloc _ _ _ zz1).trans (by simpa using n1)),n2,n3⟩,(HC.1.2.2.1.block _ zz6).trans (heap_alloc_new w1 _),HC.1.1,HR.1.2.2.below BW.1,al2,al2,fun i hi=>.inl rfl⟩)
 clear HS1 hs1;clear HN BW HC HA HR cg0 hg hne oa ob;generalize w1.heap.size=R at *;generalize w.heap.size+1=A at *;have H0:=Ac (RunB w w2 o c g n R A gc cv cols rs (2 ^ n-1) (2 ^ n-1) (fun _=>-1)/\(∀i0 k0,k2k rs n i0 k0->((0:Nat)=0/\(2 ^ n-1).testBit i0=true/\(2 ^ n-1).testBit k0=true)\/(-1:Int)=(k0:Nat))) (⟨RB.1,fun i0 k0 h=>.inl ⟨rfl,AL.1 _ h.1,AL.1 _ h.2.1⟩⟩);clear RB BX t1 t2
 go_loopw [47] (fun s47 wr=>∃(d ins outs:Nat)(ms:Nat->Int),s47=.int .i64 d/\d<=it/\k07 (RunB w wr o c g n R A gc cv cols rs ins outs ms/\(∀i0 k0,k2k rs n i0 k0->(d=0/\ins.testBit i0=true/\outs.testBit k0=true)\/ms i0=(k0:Nat)))) (fun s47 _=>it-ixOf s47)
 case atStart=>exact⟨0,_,_,_,rfl,zz1,H0⟩
 case round=>
  obtain⟨d,ins,outs,ms,rfl,hd,H⟩:=hrel;have cM:=k00 H.1.1.box 0;have cI:=k00 H.1.1.box 1;have cO:=k00 H.1.1.box 2;simp only[List.getElem?_toArray,List.getElem?_cons_zero,List.getElem?_cons_succ]at cM cI cO;by_cases hlt:d<it
  ·have e1:(d:Int)<(it:Int):=by omega
   obtain⟨hg,ga',gb',f1',f2',hh,hne,oa,ob,hN1,hN2⟩:=H.1.1.arb;have hcl:∀x∈cols,x<64:=fun x hx=>by
    obtain⟨i,hi,rfl⟩:=List.getElem_of_mem hx;have hl:cols.length=n:=by have:=H.1.1.row.1;simpa[u16s] using this
    obtain⟨y,a,b,_⟩:=CC.1.cols i zz1;rw[List.getElem?_eq_getElem hi]at a;cases a;exact b
   have hgr:=k60 g R ga' n ins outs (.slice (some ⟨gb',0,none⟩) n n) (.slice (some ⟨A,0,none⟩) n n) cv cols (some gc) f1' wr hn0 hn hh hN1 H.1.1.box H.1.1.row hcl H.1.1.i6 H.1.1.o6 H.1.1.tab;have hfl1:∀j,j<n->f1' j<n:=fun j hj=>by obtain⟨_,_,_,h3⟩:=hN1;exact(h3 j hj).1
   clear hh hne oa ob hN1 hN2 hcl hg
   go_wp2_with(go_at_call 125;refine hgr.mono ?_;rintro e w3 ⟨rfl,hG⟩;have G:=Ab hG;clear hG)
   clear hgr cM cI cO;have hfl:(∀j,j<n->f1' j<n):=hfl1;have hBg:=k03 H.1.1.box;have hBA:A<wr.heap.size:=by obtain⟨_,m,_⟩:=H.1.1.mat;exact k03 m
   have hBC:=H.1.1.row.lt rfl;have hBw:=H.1.1.only.size;obtain⟨gr,hgr⟩:∃gr,gr=k1T cols ins outs f1' n:=⟨_,rfl⟩;rw[<- hgr]at G;have GR:=Ac ((∀i j,j<n->gr i j=true->(rs.getD i 0).testBit j=true)/\(∀i0 k0,k2k rs n i0 k0->ins.testBit i0=true->outs.testBit k0=true->gr i0 k0=true)) (by
    rw[hgr];exact⟨fun i j hj h=>k9L CC.1 hn H.1.1.i6 hj (hfl j hj) h,fun i0 k0 hS a b=>k6Q CC.1 hn H.1.1.i6 hS (hfl k0 hS.2.1) a b⟩)
   have I0:=Ac (InB w w3 o c g n R A gc cv cols rs wr.heap.size gr ins outs ms/\∀i0 k0,k2k rs n i0 k0->ms i0=(k0:Nat)\/(0<=i0/\gr i0 k0=true)) (by
    obtain⟨b1,_,b3⟩:=G.1;refine⟨⟨H.1.1.below b1,b3⟩,fun i0 k0 hS=>?_⟩;rcases H.1.2 i0 k0 hS with⟨_,p,q⟩|h
    ·exact .inr ⟨Nat.zero_le _,GR.1.2 i0 k0 hS p q⟩
    ·exact .inl h)
   clear hgr hfl hfl1 H G;generalize wr.heap.size=Gb at *;clear wr
   go_loopw [59] (fun s59 V=>∃(i ins outs:Nat)(ms:Nat->Int),s59=.int .i64 i/\i<=n/\k07 (InB w V o c g n R A gc cv cols rs Gb gr ins outs ms/\∀i0 k0,k2k rs n i0 k0->ms i0=(k0:Nat)\/(i<=i0/\gr i0 k0=true))) (fun s59 _=>n-ixOf s59)
   case atStart=>exact⟨0,_,_,_,rfl,zz1,I0⟩
   case round=>
    clear I0;obtain⟨i,ins1,outs1,ms1,rfl,hi,K⟩:=hrel;have cM:=k00 K.1.1.1.box 0;have cI:=k00 K.1.1.1.box 1;have cO:=k00 K.1.1.1.box 2;have fR:=k02 K.1.1.1.box;simp only[List.getElem?_toArray,List.getElem?_cons_zero,List.getElem?_cons_succ]at cM cI cO;by_cases hil:i<n
    ·have e2:(i:Int)<(n:Int):=by omega
     obtain⟨x,hx6,hxb,cG⟩:∃x:Nat,x<64/\(∀j,j<6->x.testBit j=(decide (j<n) && gr i j))/\wr.cell? ⟨Gb,i,none⟩=some (.int .u16 x):=by
      obtain⟨cur,b1,b2,b3⟩:=K.1.1.2;obtain⟨x,p,q,r⟩:=b3 i hil;exact⟨x,q,r,(k00 b1 i).trans p⟩
     obtain⟨hg,ga',gb',f1',f2',hh,hne,oa,ob,hN1,hN2⟩:=K.1.1.1.arb;have cgb:wr.cell? ⟨g,1,none⟩=some (.slice (some ⟨gb',0,none⟩) n n):=k00 hh 1;obtain⟨cb,cbi⟩:f2' i<n/\wr.cell? ⟨gb',i,none⟩=some (.int .i64 (f2' i:Nat)):=by
      obtain⟨_,p1,_,p3⟩:=hN2;exact⟨(p3 i hil).1,(k00 p1 i).trans (p3 i hil).2⟩
     obtain⟨p,hp⟩:∃p,pick x (f2' i) n=p:=⟨_,rfl⟩;have hpc:=k2F x (f2' i) n wr hx6 hn0 hn cb K.1.1.1.tab;have hps:=k2n x (f2' i) n hx6 cb hn;rw[hp]at hpc hps;clear hh hne oa ob hN1 hN2 hp hg cM cI cO fR;rcases hps with⟨rfl,hno⟩|⟨k,hk,hkb,rfl⟩
     ·go_wp2_with(go_at_call 126;refine hpc.mono ?_;rintro e w4 ⟨rfl,hb4⟩;have B4:=Ab hb4;clear hb4)
      go_roundw
      case rel=>
       refine⟨i+1,ins1,outs1,ms1,rfl,zz1,⟨⟨K.1.1.below B4.1,fun i0 k0 hS=>?_⟩⟩⟩;rcases K.1.2 i0 k0 hS with h|⟨h,h'⟩
       ·exact .inl h
       ·refine .inr ⟨?_,h'⟩
        rcases Nat.lt_or_ge i i0 with h2|h2
        ·exact h2
        ·exfalso
         obtain rfl:i=i0:=by omega
         have h3:=hno k0 hS.2.1;rw[hxb k0 (by have:=hS.2.1;omega),h']at h3;simp[hS.2.1]at h3
      case measure=>
       show n-ixOf (.int .i64 ((i:Int)+1))<n-ixOf (.int .i64 (i:Int));exact zz9
     ·have hgk:gr i k=true:=by
       have:=hxb k zz1;rw[hkb]at this;simp[hk]at this;exact this.symm▸rfl
      have hrk:=GR.1.1 i k hk hgk;have e3:((k:Int) == -1)=false:=beq_eq_false_iff_ne.mpr zz1;have hki:(k:Int)<n:=zz1
      go_wp2_with(go_at_call 126;refine hpc.mono ?_;rintro e w4 ⟨rfl,hb4⟩;have K4:=Ab (K.1.1.below hb4);clear hb4;obtain⟨cM4,cA4,fA4⟩:=K4.1.cellsA hil)
      have K5:=Ab (K4.1.to (i:=i) (v:=.int .i64 (k:Nat)) zz1 (K4.1.1.mset CC.1 hw0 i k hil hk hrk));clear K4 cM4 cA4 fA4;generalize w4.setCell ⟨A,i,none⟩ (.int .i64 (k:Nat))=V5 at K5 ⊢;clear w4;have HS17:=Ac ((fun(W:World)=>W.cell? ⟨R,1,none⟩=some (.int .u16 (ins1:Nat))/\W.frozen? ⟨R,1,none⟩=false) V5) (⟨k00 K5.1.1.box 1,k02 K5.1.1.box 1⟩);have hd1:=kbD ⟨ins1,K5.1.1.i6⟩ ⟨i,zz1⟩;simp only at hd1;obtain⟨c17,f17⟩:=HS17.1;refine WpL.region (fun(W:World)=>W.cell? ⟨R,1,none⟩=some (.int .u16 (ins1:Nat))/\W.frozen? ⟨R,1,none⟩=false) 9 zz2 ?_;refine WpL.T 0 [] HS17.1 ?_;refine WpL.T 1 [] HS17.1 ?_;refine WpL.T 2 [] HS17.1 ?_;refine WpL.T 3 [] HS17.1 ?_;refine WpL.T 4 [] HS17.1 ?_;refine WpL.T 5 [] HS17.1 ?_;refine WpL.T 6 [] HS17.1 ?_;refine WpL.T 7 [8] HS17.1 ?_;refine WpL.T 8 [] HS17.1 ?_;refine WpL.one (i:=9) zz2 rfl (fun K hK=>?_);go_simp;refine hK.out _ _ (fun h=>absurd rfl h) ?_;clear hK K
      try refine Sm ?_
      refine WpL.done zz2 ?_ _;go_wp2;have K6:=Ab (K5.1.to (i:=1) (v:=.int .u16 (del ins1 i:Nat)) zz1 (K5.1.1.iset CC.1 hw0 (del ins1 i) hd1.2)).drew;clear K5 HS17 c17 f17;generalize (V5.setCell ⟨R,1,none⟩ (.int .u16 (del ins1 i:Nat))).drew=V6 at K6 ⊢;clear V5;have HS18:=Ac ((fun(W:World)=>W.cell? ⟨R,2,none⟩=some (.int .u16 (outs1:Nat))/\W.frozen? ⟨R,2,none⟩=false) V6) (⟨k00 K6.1.1.box 2,k02 K6.1.1.box 2⟩);have hd2:=kbD ⟨outs1,K6.1.1.o6⟩ ⟨k,zz1⟩;simp only at hd2;obtain⟨c18,f18⟩:=HS18.1;refine WpL.region (fun(W:World)=>W.cell? ⟨R,2,none⟩=some (.int .u16 (outs1:Nat))/\W.frozen? ⟨R,2,none⟩=false) 9 zz2 ?_;refine WpL.T 0 [] HS18.1 ?_;refine WpL.T 1 [] HS18.1 ?_;refine WpL.T 2 [] HS18.1 ?_;refine WpL.T 3 [] HS18.1 ?_;refine WpL.T 4 [] HS18.1 ?_;refine WpL.T 5 [] HS18.1 ?_;refine WpL.T 6 [] HS18.1 ?_;refine WpL.T 7 [8] HS18.1 ?_;refine WpL.T 8 [] HS18.1 ?_;refine WpL.one (i:=9) zz2 rfl (fun K hK=>?_);go_simp;refine hK.out _ _ (fun h=>absurd rfl h) ?_;clear hK K
      try refine Sm ?_
      refine WpL.done zz2 ?_ _;have K7:=Ab (K6.1.to (i:=2) (v:=.int .u16 (del outs1 k:Nat)) zz1 (K6.1.1.oset CC.1 hw0 (del outs1 k) hd2.2)).drew;have hms:=Ac (∀i0 k0,k2k rs n i0 k0->(if i0=i then((k:Nat):Int) else ms1 i0)=(k0:Nat)\/(i+1<=i0/\gr i0 k0=true)) (fun i0 k0 hS=>by
       by_cases e:i0=i
       ·subst e
        rw[if_pos rfl];have:=hS.2.2 i0 hS.1 k hk;rw[hrk]at this;simp at this;exact .inl zz1
       ·rw[if_neg e]
        exact(K.1.2 i0 k0 hS).imp id (fun h=>⟨zz1,h.2⟩))
      clear K6 HS18 c18 f18;by_cases hd0:d=0
      ·have e6:((d:Int) == 0)=true:=by rw[hd0];rfl
       go_wp2;generalize (V6.setCell ⟨R,2,none⟩ (.int .u16 (del outs1 k:Nat))).drew=V7 at K7 ⊢;clear V6;obtain⟨hg,ga',gb',f1',f2',hh,hne,oa,ob,hN1,hN2⟩:=K7.1.1.arb;have Y:=Ac (_/\_/\_/\_/\_/\_/\_) (⟨hg,hh,hne,oa,ob,hN1,hN2⟩);have hY:(∃v,V7.cell? ⟨ga',k,none⟩=some v)/\V7.frozen? ⟨ga',k,none⟩=false/\(∃v,V7.cell? ⟨gb',i,none⟩=some v)/\V7.frozen? ⟨gb',i,none⟩=false:=by
        obtain⟨_,p1,_,p3⟩:=hN1;obtain⟨_,q1,_,q3⟩:=hN2;exact⟨⟨_,(k00 p1 k).trans (p3 k hk).2⟩,k02 p1 k,⟨_,(k00 q1 i).trans (q3 i hil).2⟩,k02 q1 i⟩
       have HS20:=Ac ((fun(W:World)=>W.cell? ⟨g,0,none⟩=some (.slice (some ⟨ga',0,none⟩) n n)/\W.cell? ⟨g,1,none⟩=some (.slice (some ⟨gb',0,none⟩) n n)/\(∃v,W.cell? ⟨ga',k,none⟩=some v)/\W.frozen? ⟨ga',k,none⟩=false/\(∃v,W.cell? ⟨gb',i,none⟩=some v)/\W.frozen? ⟨gb',i,none⟩=false) V7) (⟨k00 hh 0,k00 hh 1,hY⟩);have hn00:¬n=0:=zz1
       have hm1:=mod7 ⟨i,zz1⟩ ⟨n,hn⟩ hn0;have hm2:=mod7 ⟨k,zz1⟩ ⟨n,hn⟩ hn0;simp only at hm1 hm2;obtain⟨cg0,cg1,⟨va,ca⟩,fa,⟨vb,cb'⟩,fb⟩:=HS20.1;have n1:ga'≠gb':=hne;have HS20b:=Ac ((fun(W:World)=>W.cell? ⟨g,0,none⟩=some (.slice (some ⟨ga',0,none⟩) n n)/\W.cell? ⟨g,1,none⟩=some (.slice (some ⟨gb',0,none⟩) n n)/\(∃v,W.cell? ⟨ga',k,none⟩=some v)/\W.frozen? ⟨ga',k,none⟩=false/\(∃v,W.cell? ⟨gb',i,none⟩=some v)/\W.frozen? ⟨gb',i,none⟩=false) (V7.setCell ⟨ga',k,none⟩ (.int .i64 ((i+1) % n:Nat)))) (by
        have e1:g≠ga':=fun e=>by obtain⟨_,p1,_⟩:=hN1;rw[<- e,hh]at p1;cases p1
        obtain⟨_,q1,_,q3⟩:=hN1.set k ((i+1) % n) hm1.2;have ng:=Below.heap_setCell V7 ⟨ga',k,none⟩ (.int .i64 ((i+1) % n:Nat)) g e1;have nb:=Below.heap_setCell V7 ⟨ga',k,none⟩ (.int .i64 ((i+1) % n:Nat)) gb' (fun e=>hne e.symm);exact⟨(World.cell?_of_block ng).trans cg0,(World.cell?_of_block ng).trans cg1,⟨_,(k00 q1 k).trans (q3 k hk).2⟩,k02 q1 k,⟨vb,(World.cell?_of_block nb).trans cb'⟩,(World.frozen?_of_block nb).trans fb⟩)
       have K8:=Ab (show InB w ((V7.setCell ⟨ga',k,none⟩ (.int .i64 ((i+1) % n:Nat))).setCell ⟨gb',i,none⟩ (.int .i64 ((k+1) % n:Nat))) o c g n R A gc cv cols rs Gb gr (del ins1 i) (del outs1 k) _ from
        ⟨K7.1.1.aset CC.1 hh hne oa ob hN1 hN2 hg i k _ _ hm1.2 hm2.2,by
         obtain⟨cur,b1,b2⟩:=K7.1.2;have l1:=K7.1.1.old CC.1 oa;have l2:=K7.1.1.old CC.1 ob;exact⟨cur,(Below.heap_setCell _ _ _ _ (show Gb≠gb' by omega)).trans ((Below.heap_setCell _ _ _ _ (show Gb≠ga' by omega)).trans b1),b2⟩⟩)
       clear hh hN1 hN2 hg oa ob hne;refine WpL.region (fun(W:World)=>W.cell? ⟨g,0,none⟩=some (.slice (some ⟨ga',0,none⟩) n n)/\W.cell? ⟨g,1,none⟩=some (.slice (some ⟨gb',0,none⟩) n n)/\(∃v,W.cell? ⟨ga',k,none⟩=some v)/\W.frozen? ⟨ga',k,none⟩=false/\(∃v,W.cell? ⟨gb',i,none⟩=some v)/\W.frozen? ⟨gb',i,none⟩=false) 21 zz2 ?_;refine WpL.T 0 [] HS20.1 ?_;refine WpL.T 1 [] HS20.1 ?_;refine WpL.T 2 [] HS20.1 ?_;refine WpL.T 3 [] HS20.1 ?_;refine WpL.T 4 [] HS20.1 ?_;refine WpL.T 5 [] HS20.1 ?_;refine WpL.T 6 [] HS20.1 ?_;refine WpL.T 7 [] HS20.1 ?_;refine WpL.T 8 [] HS20.1 ?_;refine WpL.T 9 [] HS20.1 ?_;refine WpL.T 10 [] HS20.1 ?_;refine WpL.T 11 [] HS20.1 ?_;refine WpL.T 12 [] HS20.1 ?_;refine WpL.T 13 [] HS20.1 ?_;refine WpL.T 14 [] HS20.1 ?_;refine WpL.T 15 [] HS20.1 ?_;refine WpL.T 16 [] HS20.1 ?_;refine WpL.T 17 [] HS20.1 ?_;refine WpL.T 18 [] HS20.1 ?_;refine WpL.one (i:=19) zz2 rfl (fun K hK=>?_);go_simp;refine hK.out _ _ (fun _=>HS20b.1) ?_;clear hK K
       try refine Sm ?_
       refine WpL.T 20 [] HS20b.1 ?_;refine WpL.one (i:=21) zz2 rfl (fun K hK=>?_);go_simp;refine hK.out _ _ (fun h=>absurd rfl h) ?_;clear hK K
       try refine Sm ?_
       refine WpL.done zz2 ?_ _;go_wp2;have K9:=K8.1.drew;push_cast at K9;refine⟨⟨_,_,_,_,⟨i+1,rfl,zz1,_,_,_,⟨⟨K9,hms.1⟩⟩⟩,rfl,rfl,rfl,rfl⟩,?_⟩;exact zz23
      ·have e6:((d:Int) == 0)=false:=beq_eq_false_iff_ne.mpr zz1
       go_wp2;refine⟨⟨i+1,_,_,_,rfl,zz1,⟨⟨K7.1,hms.1⟩⟩⟩,?_⟩;exact zz23
    ·have e2:¬(i:Int)<(n:Int):=by omega
     have hin:i=n:=zz1
     have hS1:=Ac (∀i0 k0,k2k rs n i0 k0->ms1 i0=(k0:Nat)) (fun i0 k0 hS=>by
      rcases K.1.2 i0 k0 hS with h|⟨h,_⟩
      ·exact h
      ·have:=hS.1;omega)
     by_cases he:ins1=ins
     ·have e5:((ins1:Int) == (ins:Int))=true:=by rw[he];exact beq_self_eq_true _
      go_wp2;go_ret;exact⟨A,ms1,rfl,CC.1.bA,K.1.1.1.only,K.1.1.1.arb,K.1.1.1.mat,K.1.1.1.ok,hS1.1⟩
     ·have e5:((ins1:Int) == (ins:Int))=false:=beq_eq_false_iff_ne.mpr zz1
      go_wp2
      go_roundw
      case rel=>exact⟨d+1,ins1,outs1,ms1,rfl,zz1,⟨⟨K.1.1.1,fun i0 k0 hS=>.inr (hS1.1 i0 k0 hS)⟩⟩⟩
      case measure=>
       show it-ixOf (.int .i64 ((d:Int)+1))<it-ixOf (.int .i64 (d:Int));exact zz9
  ·have e1:¬(d:Int)<(it:Int):=by omega
   obtain rfl:d=it:=by omega
   go_wp2;go_ret;refine⟨A,ms,rfl,CC.1.bA,H.1.1.only,H.1.1.arb,H.1.1.mat,H.1.1.ok,fun i0 k0 h=>?_⟩;rcases H.1.2 i0 k0 h with h|h
   ·exact zz1
   ·exact h
def WheelAt(w:World)(o:Nat->Col)(c:Col)(g n:Nat):Prop:=
 o g=c/\∃va vb ga gb ws ls fr,w.heap[g]? = some (.cells #[va,vb,.int .i64 (fr:Nat)] 187 (0,0))/\Row w va 3 1 n (i64s ws) (some ga)/\Row w vb 3 1 n (i64s ls) (some gb)/\ga≠gb/\o ga=c/\o gb=c/\fr<n/\(∀x∈ws,1<=x/\x<=5)/\(∀x∈ls,x<=5)
theorem WheelAt.tr{S:Col->Prop}{o o':Nat->Col}{w w':World}{c:Col}{g n:Nat}(h:WheelAt w o c g n)(t:Tr S o w o' w')(hc:¬S c):WheelAt w' o' c g n:=by
 obtain⟨hg,va,vb,ga,gb,ws,ls,fr,hh,r1,r2,hne,oa,ob,r⟩:=h;exact⟨(t.own _ (k03 hh)).trans hg,va,vb,ga,gb,ws,ls,fr,t.blk hh (by rw[hg];exact hc),r1.only t.only (fun b e=>by cases e;rw[oa];exact hc),r2.only t.only (fun b e=>by cases e;rw[ob];exact hc),hne,(t.own _ (r1.lt rfl)).trans oa,(t.own _ (r2.lt rfl)).trans ob,r⟩
theorem k95(x:Nat)(w:World)(h1:1<=x)(h2:x<=5) :
 Calls Tryz.prog 109 #[.int .i64 x] w fun e w'=>e=.returned (.bool false)/\w'=w:=by
 have t1:decide ((x:Int)<1)=false:=decide_eq_false zz1;have t2:decide ((5:Int)<x)=false:=decide_eq_false zz1;go_enter Tryz.func109,Tryz.ntmps109;exact zz16
theorem kan(v:Value)(n:Nat)(ws:List Nat)(g:Option Nat)(w:World)(hn0:0<n)(R:Row w v 3 1 n (i64s ws) g)(hw:∀x∈ws,1<=x/\x<=5)(hn:n<=100) :
 Calls Tryz.prog 141 #[v,.func (.func 109) #[] #[]] w fun e w'=>e=.returned (.int .i64 (-1))/\w'=w:=by
 obtain⟨b,off,cap,hg,rfl,hcap,hfz,hcell⟩:=R.open hn0;have hl:ws.length=n:=by have:=R.1;simpa[i64s] using this
 clear R;go_enter Tryz.func141,Tryz.ntmps141;go_wp2
 go_loopw [8] (fun s8 wr=>∃k:Nat,k<=n/\s8=.int .i64 k/\wr=w) (fun s8 _=>n-ixOf s8)
 case atStart=>exact⟨0,zz1,rfl,rfl⟩
 case round=>
  obtain⟨k,hk,rfl,rfl⟩:=hrel;by_cases hlt:k<n
  ·have e1:(k:Int)<(n:Int):=by omega
   obtain⟨x,hx⟩:∃x,ws[k]? = some x:=⟨_,List.getElem?_eq_getElem zz1⟩;have hxx:=hw x (List.mem_of_getElem? hx);have hc:wr.cell? ⟨b,off+k,none⟩=some (.int .i64 (x:Nat)):=by rw[hcell k zz55];simp[i64s,hx]
   clear hcell
   go_wp2_with(go_at_call 109;refine(k95 x _ hxx.1 hxx.2).mono ?_;rintro e w4 ⟨rfl,rfl⟩)
   go_roundw
   case rel=>exact⟨k+1,zz1,rfl,trivial⟩
   case measure=>
    show n-ixOf (.int .i64 ((k:Int)+1))<n-ixOf (.int .i64 (k:Int));exact zz9
  ·have e1:¬(k:Int)<(n:Int):=by omega
   obtain rfl:k=n:=by omega
   go_wp2;go_ret;exact⟨rfl,rfl⟩
theorem k6x(v:Value)(n:Nat)(ws:List Nat)(g:Option Nat)(w:World)(hn0:0<n)(R:Row w v 3 1 n (i64s ws) g)(hw:∀x∈ws,1<=x/\x<=5)(hn:n<=100) :
 Calls Tryz.prog 110 #[v,.func (.func 109) #[] #[]] w fun e w'=>e=.returned (.bool false)/\w'=w:=by
 have c:=kan v n ws g w hn0 R hw hn;obtain⟨A,cap,rfl,_⟩:=R.size;clear R;go_enter Tryz.func110,Tryz.ntmps110
 go_wp2_with(go_at_call 141;refine c.mono ?_;rintro e w4 ⟨rfl,rfl⟩)
 go_ret;exact⟨rfl,rfl⟩
def k6N(n:Nat)(ws:List Nat)(w:World)(e:Ending)(w':World):Prop:=∃gw va vb ga gb,e=.returned (.pointer (some ⟨gw,0,none⟩))/\Below w.heap.size w w'/\w.heap.size<=gw/\w'.heap[gw]? = some (.cells #[va,vb,.int .i64 0] 187 (0,0))/\Row w' va 3 1 n (i64s ws) (some ga)/\Row w' vb 3 1 n (i64s ws) (some gb)/\ga≠gb/\w.heap.size<=ga/\w.heap.size<=gb
theorem k4t(v:Value)(n:Nat)(ws:List Nat)(g:Option Nat)(w:World)(hn0:0<n)(R:Row w v 3 1 n (i64s ws) g)(hw:∀x∈ws,1<=x/\x<=5)(hn:n<=3) :
 Calls Tryz.prog 66 #[v] w fun e w'=>k6N n ws w e w':=by
 have c:=k6x v n ws g w hn0 R hw zz1;obtain⟨b,off,cap,hg,rfl,hcap,hfz,hcell⟩:=R.open hn0;have hl:ws.length=n:=by have:=R.1;simpa[i64s] using this
 have ho:∀u∈i64s ws,u.oneCell'=true:=fun u hu=>by
  obtain⟨x,_,rfl⟩:=List.mem_map.1 hu;rfl
 have e1:(n:Int)≠0:=zz1
 have t1:((n:Int) == 0)=false:=beq_eq_false_iff_ne.mpr e1;have t2:decide ((3:Int)<n)=false:=decide_eq_false zz1;have HR:=Ab R;have HO:=Ab ho;clear R hcell ho;go_enter Tryz.func66,Tryz.ntmps66
 go_wp2_with(first
  |(go_at_call 110;refine c.mono ?_;rintro e w4 ⟨rfl,rfl⟩)
  |(go_at_call 61;refine(k2w _ n _ _ _ HR.1 HO.1 zz1).mono ?_;rintro e w5 ⟨v1,g1,rfl,hr1,hb1,hn1,_⟩;obtain⟨A1,k1,rfl,_⟩:=hr1.size;have HB:=Ab (HR.1.below hb1);have C1:=Ac (_/\_/\_) (⟨hr1,hb1,hn1⟩);clear hr1 hb1 hn1 HR)
  |(go_at_call 61;refine(k2w _ n _ _ _ HB.1 HO.1 zz1).mono ?_;rintro e w6 ⟨v2,g2,rfl,hr2,hb2,hn2,_⟩;obtain⟨A2,k2,rfl,_⟩:=hr2.size;have C2:=Ac (_/\_/\_) (⟨hr2,hb2,hn2⟩);clear hr2 hb2 hn2 HB))
 obtain⟨r1,b1,n1⟩:=C1.1;obtain⟨r2,b2,n2⟩:=C2.1;obtain⟨p1,q1⟩:∃x,g1=some x:=by
  obtain⟨_,⟨_,h0,_⟩|⟨x,_,_,_,h,_⟩⟩:=r1
  ·exact zz1
  ·exact⟨x,h⟩
 obtain⟨p2,q2⟩:∃x,g2=some x:=by
  obtain⟨_,⟨_,h0,_⟩|⟨x,_,_,_,h,_⟩⟩:=r2
  ·exact zz1
  ·exact⟨x,h⟩
 subst q1;subst q2;have l1:=r1.lt rfl;have l2:=n2 _ rfl;have l3:=n1 _ rfl;have l4:=b1.size;have l5:=b2.size;refine bodyPost_ret (results_tmp (fn:=Tryz.f66) (t:=2) rfl _ _ _) rfl ?_;refine⟨_,_,_,p1,p2,rfl,?_,?_,heap_alloc_new w6 _,(r1.below b2).alloc _,r2.alloc _,?_,?_,?_⟩
 ·exact(b1.trans (b2.mono l4)).alloc zz1 _
 ·exact zz1
 ·exact zz1
 ·exact l3
 ·exact zz1
def k1n(ls:List Nat):Nat->Nat
 |0=>0
 |k+1=>if 0<ls.getD k 0 then k1n ls k ||| 2 ^ k else k1n ls k
theorem k38(ls:List Nat):∀k,k<=6->k1n ls k<64
 |0,_=>by show 0<64;omega
 |k+1,h=>by
  have ih:=k38 ls k zz1;unfold k1n;split
  ·exact Nat.or_lt_two_pow (n:=6) ih (Nat.pow_lt_pow_right zz7 zz1)
  ·exact ih
theorem k3r(ls:List Nat)(j:Nat):∀k,(k1n ls k).testBit j=(decide (j<k) && decide (0<ls.getD j 0))
 |0=>by simp[k1n]
 |k+1=>by
  have ih:=k3r ls j k;unfold k1n;by_cases e:j=k
  ·subst e
   split
   ·rename_i h
    rw[Nat.testBit_or,ih,Nat.testBit_two_pow];rw[decide_eq_true h];exact zz6
   ·rename_i h
    rw[ih,decide_eq_false h];exact zz6
  ·have e1:(j<k+1) ↔ (j<k):=by omega
   split
   ·rw[Nat.testBit_or,ih,Nat.testBit_two_pow]
    have e2:¬k=j:=fun h=>e h.symm
    simp[e1,e2]
   ·rw[ih];simp[e1]
theorem k3u(g n:Nat)(vb:Value)(ls:List Nat)(gb:Option Nat)(w:World)(hn0:0<n)(hn:n<=3)(hg:w.cell? ⟨g,1,none⟩=some vb)(R:Row w vb 3 1 n (i64s ls) gb) :
 Calls Tryz.prog 151 #[.pointer (some ⟨g,0,none⟩)] w fun e w'=>e=.returned (.int .u16 (k1n ls n:Nat))/\w'=w:=by
 obtain⟨b,off,cap,_,rfl,hcap,hfz,hcell⟩:=R.open hn0;have hl:ls.length=n:=by have:=R.1;simpa[i64s] using this
 clear R;go_enter Tryz.func151,Tryz.ntmps151;go_wp2
 go_loopw [3,11] (fun s3 s11 wr=>∃k:Nat,k<=n/\s11=.int .i64 k/\s3=.int .u16 (k1n ls k:Nat)/\wr=w) (fun _ s11 _=>n-ixOf s11)
 case atStart=>exact⟨0,zz1,rfl,rfl,rfl⟩
 case round=>
  obtain⟨k,hk,rfl,rfl,rfl⟩:=hrel;by_cases hlt:k<n
  ·have e1:(k:Int)<(n:Int):=by omega
   obtain⟨x,hx⟩:∃x,ls[k]? = some x:=⟨_,List.getElem?_eq_getElem zz1⟩;have hc:wr.cell? ⟨b,off+k,none⟩=some (.int .i64 (x:Nat)):=by rw[hcell k zz55];simp[i64s,hx]
   have hgd:ls.getD k 0=x:=by rw[List.getD_eq_getElem?_getD,hx];rfl
   have hor:=k9a ⟨k1n ls k,k38 ls k zz1⟩ ⟨k,zz1⟩;simp only at hor;by_cases h0:0<x
   ·have e2:(0:Int)<(x:Int):=by omega
    have hs:k1n ls k ||| 2 ^ k=k1n ls (k+1):=by rw[show k1n ls (k+1)=if 0<ls.getD k 0 then k1n ls k ||| 2 ^ k else k1n ls k from rfl,hgd,if_pos h0]
    rw[hs]at hor;clear hcell;go_wp2
    go_roundw
    case rel=>exact⟨k+1,zz1,rfl,rfl,trivial⟩
    case measure=>
     show n-ixOf (.int .i64 ((k:Int)+1))<n-ixOf (.int .i64 (k:Int));exact zz9
   ·have e2:¬(0:Int)<(x:Int):=by omega
    have hs:k1n ls k=k1n ls (k+1):=by rw[show k1n ls (k+1)=if 0<ls.getD k 0 then k1n ls k ||| 2 ^ k else k1n ls k from rfl,hgd,if_neg h0]
    have HS:=Ab hs;clear hcell hs;go_wp2
    go_roundw
    case rel=>exact⟨k+1,zz1,rfl,by rw[<- HS.1],trivial⟩
    case measure=>
     show n-ixOf (.int .i64 ((k:Int)+1))<n-ixOf (.int .i64 (k:Int));exact zz9
  ·have e1:¬(k:Int)<(n:Int):=by omega
   obtain rfl:k=n:=by omega
   go_wp2;go_ret;exact⟨rfl,rfl⟩
theorem k99{W:World}{va vb:Value}{n ga gb:Nat}{ws ls:List Nat}(hn0:0<n)(h1:Row W va 3 1 n (i64s ws) (some ga))(h2:Row W vb 3 1 n (i64s ls) (some gb))(hne:ga≠gb) :
 ∃W',(Builtin.copy_ #[29,29] 3 #[vb,va]).run Tryz.prog W=.ok (.int .i64 n) W'/\Row W' va 3 1 n (i64s ws) (some ga)/\Row W' vb 3 1 n (i64s ws) (some gb)/\Only (fun x=>x=gb) W W'/\W'.heap.size=W.heap.size:=by
 obtain⟨b1,o1,c1,e1,rfl,hc1,_,hr1⟩:=h1.open hn0;cases e1;have hl1:=h1.1;obtain⟨hl2,⟨_,h0,_⟩|⟨b2,o2,c2,cur,e2,rfl,hh,hc2,hs,hr2⟩⟩:=id h2
 ·exact zz1
 cases e2;have hr:=run_copy_row (P:=Tryz.prog) W 29 29 3 3 gb o2 n c2 ⟨ga,o1,none⟩ n c1 cur 3 (i64s ws) Tryz.underlying29 zz2 hh (by rw[hl1];show n*1=min n n;omega)
  (fun j v hj=>by rw[Addr.add_lit,hr1 j (List.getElem?_eq_some_iff.1 hj).1];exact hj) zz1 (fun v hv=>by obtain⟨x,_,rfl⟩:=List.mem_map.1 hv;rfl)
 have hl1':(i64s ws).length=n:=zz1
 rw[hl1']at hr;have hk:∀b,b≠gb->(W.setRow gb (cur.toList.take o2++i64s ws++cur.toList.drop (o2+n)).toArray).heap[b]? = W.heap[b]?:=fun b hb=>setRow_other _ _ _ _ hb
 have hcl:cur.toList.length=cur.size:=Array.length_toList;refine⟨_,hr,h1.of_blk (fun b e=>by cases e;exact hk _ hne),⟨zz1,.inr ⟨gb,o2,c2,_,rfl,rfl,k2b hh,hc2,by simp;omega,fun j hj=>?_⟩⟩,⟨rfl,rfl,rfl,zz6,fun b _ hb=>hk b hb⟩,zz6⟩;rw[List.getElem?_toArray,List.append_assoc,List.getElem?_append_right zz51,List.length_take,List.getElem?_append_left zz1];congr 1;exact zz1
def WPick(o:Nat->Col)(c:Col)(g n may:Nat)(w:World)(e:Ending)(w':World):Prop:=
 ∃r:Int,e=.returned (.int .i64 r)/\Only (fun b=>o b=c) w w'/\WheelAt w' o c g n/\((r = -1/\∀k,k<n->may.testBit k=false)\/∃k,k<n/\may.testBit k=true/\r=(k:Nat))
theorem k8A(g n may:Nat)(o:Nat->Col)(c:Col)(w:World)(hn0:0<n)(hn:n<=3)(hm6:may<64)(hW:WheelAt w o c g n)(hT:Tab w)(h0:o 0≠c) :
 Calls Tryz.prog 128 #[.pointer (some ⟨g,0,none⟩),.int .u16 may] w (WPick o c g n may w):=by
 obtain⟨hg,va,vb,ga,gb,ws,ls,fr,hh,r1,r2,hne,oa,ob,hfr,hws,hls⟩:=id hW;obtain⟨al1,al2,_⟩:=kbE ⟨n,zz1⟩;simp only at al1 al2;have hm:=(k8g ⟨may,hm6⟩ ⟨2 ^ n-1,al2⟩).1;simp only at hm;rw[Nat.and_two_pow_sub_one_eq_mod]at hm;have hlw:may % 2 ^ n=low may n:=rfl;rw[hlw]at hm;have hlow:=k7S (k:=n) hm6;obtain⟨a1,k1,hv1,_⟩:=r1.size;have cg0:w.cell? ⟨g,0,none⟩=some va:=k00 hh 0;have cg1:w.cell? ⟨g,1,none⟩=some vb:=k00 hh 1;have KW:=Ab hws;have KO:=Ac (_/\_/\_/\_) (⟨hg,hne,oa,ob⟩);have HW:=Ab hW;have HLW:=Ab hlw;clear hW hlw;by_cases hz:low may n=0
 ·have R:=Ac (∀k,k<n->may.testBit k=false) (fun k hk=>by
   have:=k27 may n k;rw[hz,Nat.zero_testBit]at this;simpa[hk] using this.symm)
  rw[hz]at hm;clear r1 r2 hws hls hh hg oa ob hne cg1;subst hv1;go_enter Tryz.func128,Tryz.ntmps128;go_wp2;go_ret;exact⟨-1,rfl,Only.refl _ _,HW.1,.inl ⟨rfl,R.1⟩⟩
 ·have e1:((low may n:Nat):Int)≠0:=by omega
  have t1:(((low may n:Nat):Int) == 0)=false:=beq_eq_false_iff_ne.mpr e1;have hsk0:=k38 ls n zz1;have ha0:=(k8g ⟨low may n,hlow⟩ ⟨k1n ls n,hsk0⟩).1;simp only at ha0;have hsc:=k3u g n vb ls (some gb) w hn0 hn cg1 r2;have KA0:=Ab r1;have KB0:=Ab r2;have KH0:=Ab hh;have KT0:=Ab hT;have KL0:=Ab hls;have CC:=Ab (And.intro cg0 cg1);by_cases hy:low may n &&& k1n ls n=0
  ·rw[hy]at ha0
   clear r1 r2 hws hls hh hg oa ob hT;subst hv1;go_enter Tryz.func128,Tryz.ntmps128
   go_wp2_with(go_at_call 151;refine hsc.mono ?_;rintro e w2 ⟨rfl,he⟩;rw[he];clear he)
   have HS6:=Sat.mk (S:=fun(W:World)=>W.cell? ⟨g,0,none⟩=some (.slice a1 n k1)/\W.cell? ⟨g,1,none⟩=some vb) (w:=w) (CC.1);obtain⟨V,hrun,KA',KB',hO,hsz⟩:=k99 (W:=w.drew) hn0 (KA0.1.drew) (KB0.1.drew) hne;obtain⟨c0,c1⟩:=HS6.1;refine WpL.rg HS6 8 zz2 ?_;refine WpL.T 0 [3,2,1] HS6.1 ?_;refine WpL.T 1 [3,2] HS6.1 ?_;refine WpL.T 2 [3] HS6.1 ?_;refine WpL.T 3 [] HS6.1 ?_;refine WpL.T 4 [7,6,5] HS6.1 ?_;refine WpL.T 5 [7,6] HS6.1 ?_;refine WpL.T 6 [7] HS6.1 ?_;refine WpL.T 7 [] HS6.1 ?_;refine WpL.one (i:=8) zz2 rfl (fun K hK=>?_);refine k3a zz2 _ _ 29 29 rfl 3 rfl vb (.slice a1 n k1) rfl rfl hrun ?_;refine hK.out _ _ (fun h=>absurd rfl h) ?_;clear hK K
   try refine Sm ?_
   refine WpL.done zz2 ?_ _;go_wp2;obtain⟨lsv,hlsv⟩:∃l,l=ws:=⟨_,rfl⟩;rw[<- hlsv]at KB';have KA:=Ab KA';have KB:=Ab KB';have hgb0:g≠gb:=fun e=>by
    obtain⟨_,⟨_,h0,_⟩|⟨_,_,_,_,e4,_,hh4,_⟩⟩:=KB0.1
    ·exact zz1
    ·cases e4;rw[<- e,KH0.1]at hh4;cases hh4
   have KH:=Ab ((hO.same (k03 KH0.1) hgb0).trans KH0.1);have KV:=Ac (Only (fun b=>o b=c) w V) ((Only.refl _ w).drew.then hO (fun b _ e=>by rw[e];exact KO.1.2.2.2));have KT:=Ac (Tab V) (KT0.1.only KV.1 h0);have KL:=Ac (∀x∈lsv,x<=5) (fun x hx=>(KW.1 x (hlsv▸hx)).2);have KN:=Ac (low may n &&& k1n lsv n≠0) (fun h=>hz (by
    apply Nat.eq_of_testBit_eq;intro j;rw[Nat.zero_testBit];have h1:=congrArg (fun m=>Nat.testBit m j) h;simp only[Nat.testBit_and,k3r,Nat.zero_testBit]at h1;rw[k27]at h1 ⊢;by_cases hj:j<n
    ·have hlw:ws.length=n:=by have:=KA0.1.1;simpa[i64s] using this
     have h2:0<lsv.getD j 0:=by
      rw[hlsv,List.getD_eq_getElem?_getD,List.getElem?_eq_getElem zz1];exact(KW.1 _ (List.getElem_mem _)).1
     rw[List.getD_eq_getElem?_getD]at h2;cases hb:may.testBit j with
     |false=>simp
     |true=>
      exfalso;simp[hj,hb]at h1;exact zz1
    ·simp[hj]))
   clear KA' KB' hO hsz hrun hlsv c0 c1 hsc ha0 cg0 cg1 CC HS6 KA0 KB0 KH0 KT0 KL0;obtain⟨b2,o2,c2,e2,rfl,hc2,hf2,hr2⟩:=KB.1.open hn0;have e2':gb=b2:=by simpa using e2
   subst e2';have hl:lsv.length=n:=by have:=KB.1.1;simpa[i64s] using this
   have cg1:V.cell? ⟨g,1,none⟩=some (.slice (some ⟨gb,o2,none⟩) n c2):=k00 KH.1 1;have cg2:V.cell? ⟨g,2,none⟩=some (.int .i64 (fr:Nat)):=k00 KH.1 2;have hsk6:=k38 lsv n zz1;have ha:=k8g ⟨low may n,hlow⟩ ⟨k1n lsv n,hsk6⟩;simp only at ha;have HS:=Sat.mk (S:=fun(W:World)=>W.cell? ⟨g,2,none⟩=some (.int .i64 (fr:Nat))) (w:=V) (cg2);have CG1:=Ab cg1;clear cg1 cg2 e2 hf2 hr2;refine WpL.rg HS 10 zz2 ?_;refine WpL.T 0 [] HS.1 ?_;refine WpL.T 1 [] HS.1 ?_;refine WpL.T 4 [] HS.1 ?_;refine WpL.T 5 [] HS.1 ?_;refine WpL.T 6 [] HS.1 ?_;refine WpL.T 7 [] HS.1 ?_;refine WpL.T 8 [] HS.1 ?_;refine WpL.one (i:=2) zz2 rfl (fun K hK=>?_);go_simp;refine(k3u g n _ lsv (some gb) V.drew hn0 hn CG1.1 KB.1.drew).mono ?_;rintro e w3 ⟨rfl,rfl⟩;simp only[];refine hK.out _ _ (fun _=>HS.1) ?_;clear hK K
   try refine Sm ?_
   refine WpL.T 3 [] HS.1 ?_;refine WpL.one (i:=9) zz2 rfl (fun K hK=>?_);go_simp;refine(k2F _ _ _ _ ha.2 hn0 zz1 hfr KT.1.drew).mono ?_;rintro e w3 ⟨rfl,hb3⟩;have B3:=Ac (Below V.heap.size V w3) (undrew hb3);have HS3:=HS.to w3 ((B3.1.cell (World.block_lt_of_cell? V _ HS.1)).trans HS.1);clear hb3;simp only[];refine hK.out _ _ (fun _=>HS3.1) ?_;clear hK K
   try refine Sm ?_
   refine WpL.one (i:=10) zz2 rfl (fun K hK=>?_);go_simp;refine hK.out _ _ (fun h=>absurd rfl h) ?_;clear hK K
   try refine Sm ?_
   refine WpL.done zz2 ?_ _;have hps:=k2n (low may n &&& k1n lsv n) fr n ha.2 hfr zz1;rcases hps with⟨_,hno⟩|⟨k,hk,hkb,hpk⟩
   ·exfalso
    apply KN.1;apply Nat.eq_of_testBit_eq;intro j;rw[Nat.zero_testBit];by_cases hj:j<n
    ·exact hno j hj
    ·rw[Nat.testBit_and,k27]
     simp[hj]
   ·rw[hpk]
    simp only[Nat.testBit_and,Bool.and_eq_true,k27,k3r,decide_eq_true_eq]at hkb;obtain⟨⟨_,hmk⟩,_,hpos⟩:=hkb;obtain⟨x,hx⟩:∃x,lsv[k]? = some x:=⟨_,List.getElem?_eq_getElem zz1⟩;have hx0:0<x:=by rw[List.getD_eq_getElem?_getD,hx]at hpos;exact hpos
    have hx5:x<=5:=KL.1 x (List.mem_of_getElem? hx);have KB3:=Ab (KB.1.below B3.1);have KA3:=Ab (KA.1.below B3.1);have KH3:=Ab ((B3.1.block _ (k03 KH.1)).trans KH.1);obtain⟨_,_,_,e3,hv3,_,hf3,hr3⟩:=KB3.1.open hn0;cases e3;simp only[Value.slice.injEq,Option.some.injEq,Addr.mk.injEq,and_true,true_and]at hv3;obtain⟨rfl,rfl⟩:=hv3;have c1:w3.cell? ⟨g,1,none⟩=some (.slice (some ⟨gb,o2,none⟩) n c2):=k00 KH3.1 1;have c2':w3.cell? ⟨g,2,none⟩=some (.int .i64 (fr:Nat)):=k00 KH3.1 2;have f2':w3.frozen? ⟨g,2,none⟩=false:=k02 KH3.1 2;have cx:w3.cell? ⟨gb,o2+k,none⟩=some (.int .i64 (x:Nat)):=by rw[hr3 k zz55];simp[i64s,hx]
    have fx:=hf3 (o2+k);have hgb:g≠gb:=fun e=>by
     obtain⟨_,⟨_,h0,_⟩|⟨_,_,_,_,e4,_,hh4,_⟩⟩:=KB3.1
     ·exact zz1
     ·exact zz77
    have hga:g≠ga:=fun e=>by
     obtain⟨_,⟨_,h0,_⟩|⟨_,_,_,_,e4,_,hh4,_⟩⟩:=KA3.1
     ·exact zz1
     ·exact zz77
    have hm1:=mod7 ⟨k,zz1⟩ ⟨n,zz1⟩ hn0;have hn00:¬n=0:=zz1
    have hki:(k:Int)<n:=zz1
    have hsub:(x:Int)-1=((x-1:Nat):Int):=zz1
    simp only at hm1;have FIN:=Ac (WheelAt ((w3.setCell ⟨gb,o2+k,none⟩ (.int .i64 (x-1:Nat))).setCell ⟨g,2,none⟩ (.int .i64 ((k+1) % n:Nat))) o c g n) (by
     refine⟨KO.1.1,.slice a1 n k1,.slice (some ⟨gb,o2,none⟩) n c2,ga,gb,ws,lsv.set k (x-1),(k+1) % n,?_,(KA3.1.of_blk (fun b e=>by cases e;exact(Below.heap_setCell _ _ _ _ (show ga≠g from fun e=>hga e.symm)).trans (Below.heap_setCell _ _ _ _ (show ga≠gb from KO.1.2.1)))),?_,KO.1.2.1,KO.1.2.2.1,KO.1.2.2.2,hm1.2,KW.1,?_⟩
     ·have h1:=(Below.heap_setCell w3 ⟨gb,o2+k,none⟩ (.int .i64 (x-1:Nat)) g hgb).trans KH3.1
      simpa using k05 h1 2 (.int .i64 ((k+1) % n:Nat))
     ·have h1:=KB3.1.set k zz55 (.int .i64 (x-1:Nat))
      have h2:(i64s lsv).set k (.int .i64 (x-1:Nat))=i64s (lsv.set k (x-1)):=by simp[i64s,List.map_set]
      rw[h2]at h1;exact h1.of_blk (fun b e=>by cases e;exact Below.heap_setCell _ _ _ _ (show gb≠g from fun e=>hgb e.symm))
     ·intro y hy
      rcases List.mem_or_eq_of_mem_set hy with h|h
      ·exact KL.1 y h
      ·omega)
    have ONLY:=Ac (Only (fun b=>o b=c) w ((w3.setCell ⟨gb,o2+k,none⟩ (.int .i64 (x-1:Nat))).setCell ⟨g,2,none⟩ (.int .i64 ((k+1) % n:Nat)))) (((KV.1.below B3.1).set (fun _=>KO.1.2.2.2) _).set (fun _=>KO.1.1) _);have c2'':=(World.cell?_of_block (Below.heap_setCell w3 ⟨gb,o2+k,none⟩ (.int .i64 (x-1:Nat)) g hgb)).trans c2';have f2'':=(World.frozen?_of_block (Below.heap_setCell w3 ⟨gb,o2+k,none⟩ (.int .i64 (x-1:Nat)) g hgb)).trans f2';clear hr3 hf3 hgb hga;go_wp2;go_ret;refine⟨k,rfl,?_,?_,.inr ⟨k,hk,hmk,rfl⟩⟩
    ·have:=ONLY.1;push_cast at this;exact this
    ·have:=FIN.1;push_cast at this;exact this
  ·have t2:(((low may n &&& k1n ls n:Nat):Int) == 0)=false:=beq_eq_false_iff_ne.mpr zz1
   have KN:=Ab hy;clear r1 r2 hws hls hh hg oa ob hT hy;subst hv1;go_enter Tryz.func128,Tryz.ntmps128
   go_wp2_with(go_at_call 151;refine hsc.mono ?_;rintro e w2 ⟨rfl,he⟩;rw[he];clear he)
   obtain⟨V,hV⟩:∃V,V=w:=⟨_,rfl⟩;obtain⟨lsv,hlsv⟩:∃l,l=ls:=⟨_,rfl⟩;have KV:=Ac (Only (fun b=>o b=c) w V) (hV▸Only.refl _ _);have KA:=Ac (Row V (.slice a1 n k1) 3 1 n (i64s ws) (some ga)) (hV▸KA0.1);have KB:=Ac (Row V vb 3 1 n (i64s lsv) (some gb)) (hV▸hlsv▸KB0.1);have KH:=Ac (V.heap[g]? = some (.cells #[.slice a1 n k1,vb,.int .i64 (fr:Nat)] 187 (0,0))) (hV▸KH0.1);have KT:=Ac (Tab V) (hV▸KT0.1);have KL:=Ac (∀x∈lsv,x<=5) (hlsv▸KL0.1);rw[<- hlsv]at KN;refine(congrArg (Code.wp Tryz.prog _ _ _) hV).mp ?_;clear hsc ha0 t2 cg0 cg1 CC KA0 KB0 KH0 KT0 KL0 hV hlsv;obtain⟨b2,o2,c2,e2,rfl,hc2,hf2,hr2⟩:=KB.1.open hn0;have e2':gb=b2:=by simpa using e2
   subst e2';have hl:lsv.length=n:=by have:=KB.1.1;simpa[i64s] using this
   have cg1:V.cell? ⟨g,1,none⟩=some (.slice (some ⟨gb,o2,none⟩) n c2):=k00 KH.1 1;have cg2:V.cell? ⟨g,2,none⟩=some (.int .i64 (fr:Nat)):=k00 KH.1 2;have hsk6:=k38 lsv n zz1;have ha:=k8g ⟨low may n,hlow⟩ ⟨k1n lsv n,hsk6⟩;simp only at ha;have HS:=Sat.mk (S:=fun(W:World)=>W.cell? ⟨g,2,none⟩=some (.int .i64 (fr:Nat))) (w:=V) (cg2);have CG1:=Ab cg1;clear cg1 cg2 e2 hf2 hr2;refine WpL.rg HS 10 zz2 ?_;refine WpL.T 0 [] HS.1 ?_;refine WpL.T 1 [] HS.1 ?_;refine WpL.T 4 [] HS.1 ?_;refine WpL.T 5 [] HS.1 ?_;refine WpL.T 6 [] HS.1 ?_;refine WpL.T 7 [] HS.1 ?_;refine WpL.T 8 [] HS.1 ?_;refine WpL.one (i:=2) zz2 rfl (fun K hK=>?_);go_simp;refine(k3u g n _ lsv (some gb) V.drew hn0 hn CG1.1 KB.1.drew).mono ?_;rintro e w3 ⟨rfl,rfl⟩;simp only[];refine hK.out _ _ (fun _=>HS.1) ?_;clear hK K
   try refine Sm ?_
   refine WpL.T 3 [] HS.1 ?_;refine WpL.one (i:=9) zz2 rfl (fun K hK=>?_);go_simp;refine(k2F _ _ _ _ ha.2 hn0 zz1 hfr KT.1.drew).mono ?_;rintro e w3 ⟨rfl,hb3⟩;have B3:=Ac (Below V.heap.size V w3) (undrew hb3);have HS3:=HS.to w3 ((B3.1.cell (World.block_lt_of_cell? V _ HS.1)).trans HS.1);clear hb3;simp only[];refine hK.out _ _ (fun _=>HS3.1) ?_;clear hK K
   try refine Sm ?_
   refine WpL.one (i:=10) zz2 rfl (fun K hK=>?_);go_simp;refine hK.out _ _ (fun h=>absurd rfl h) ?_;clear hK K
   try refine Sm ?_
   refine WpL.done zz2 ?_ _;have hps:=k2n (low may n &&& k1n lsv n) fr n ha.2 hfr zz1;rcases hps with⟨_,hno⟩|⟨k,hk,hkb,hpk⟩
   ·exfalso
    apply KN.1;apply Nat.eq_of_testBit_eq;intro j;rw[Nat.zero_testBit];by_cases hj:j<n
    ·exact hno j hj
    ·rw[Nat.testBit_and,k27]
     simp[hj]
   ·rw[hpk]
    simp only[Nat.testBit_and,Bool.and_eq_true,k27,k3r,decide_eq_true_eq]at hkb;obtain⟨⟨_,hmk⟩,_,hpos⟩:=hkb;obtain⟨x,hx⟩:∃x,lsv[k]? = some x:=⟨_,List.getElem?_eq_getElem zz1⟩;have hx0:0<x:=by rw[List.getD_eq_getElem?_getD,hx]at hpos;exact hpos
    have hx5:x<=5:=KL.1 x (List.mem_of_getElem? hx);have KB3:=Ab (KB.1.below B3.1);have KA3:=Ab (KA.1.below B3.1);have KH3:=Ab ((B3.1.block _ (k03 KH.1)).trans KH.1);obtain⟨_,_,_,e3,hv3,_,hf3,hr3⟩:=KB3.1.open hn0;cases e3;simp only[Value.slice.injEq,Option.some.injEq,Addr.mk.injEq,and_true,true_and]at hv3;obtain⟨rfl,rfl⟩:=hv3;have c1:w3.cell? ⟨g,1,none⟩=some (.slice (some ⟨gb,o2,none⟩) n c2):=k00 KH3.1 1;have c2':w3.cell? ⟨g,2,none⟩=some (.int .i64 (fr:Nat)):=k00 KH3.1 2;have f2':w3.frozen? ⟨g,2,none⟩=false:=k02 KH3.1 2;have cx:w3.cell? ⟨gb,o2+k,none⟩=some (.int .i64 (x:Nat)):=by rw[hr3 k zz55];simp[i64s,hx]
    have fx:=hf3 (o2+k);have hgb:g≠gb:=fun e=>by
     obtain⟨_,⟨_,h0,_⟩|⟨_,_,_,_,e4,_,hh4,_⟩⟩:=KB3.1
     ·exact zz1
     ·exact zz77
    have hga:g≠ga:=fun e=>by
     obtain⟨_,⟨_,h0,_⟩|⟨_,_,_,_,e4,_,hh4,_⟩⟩:=KA3.1
     ·exact zz1
     ·exact zz77
    have hm1:=mod7 ⟨k,zz1⟩ ⟨n,zz1⟩ hn0;have hn00:¬n=0:=zz1
    have hki:(k:Int)<n:=zz1
    have hsub:(x:Int)-1=((x-1:Nat):Int):=zz1
    simp only at hm1;have FIN:=Ac (WheelAt ((w3.setCell ⟨gb,o2+k,none⟩ (.int .i64 (x-1:Nat))).setCell ⟨g,2,none⟩ (.int .i64 ((k+1) % n:Nat))) o c g n) (by
     refine⟨KO.1.1,.slice a1 n k1,.slice (some ⟨gb,o2,none⟩) n c2,ga,gb,ws,lsv.set k (x-1),(k+1) % n,?_,(KA3.1.of_blk (fun b e=>by cases e;exact(Below.heap_setCell _ _ _ _ (show ga≠g from fun e=>hga e.symm)).trans (Below.heap_setCell _ _ _ _ (show ga≠gb from KO.1.2.1)))),?_,KO.1.2.1,KO.1.2.2.1,KO.1.2.2.2,hm1.2,KW.1,?_⟩
     ·have h1:=(Below.heap_setCell w3 ⟨gb,o2+k,none⟩ (.int .i64 (x-1:Nat)) g hgb).trans KH3.1
      simpa using k05 h1 2 (.int .i64 ((k+1) % n:Nat))
     ·have h1:=KB3.1.set k zz55 (.int .i64 (x-1:Nat))
      have h2:(i64s lsv).set k (.int .i64 (x-1:Nat))=i64s (lsv.set k (x-1)):=by simp[i64s,List.map_set]
      rw[h2]at h1;exact h1.of_blk (fun b e=>by cases e;exact Below.heap_setCell _ _ _ _ (show gb≠g from fun e=>hgb e.symm))
     ·intro y hy
      rcases List.mem_or_eq_of_mem_set hy with h|h
      ·exact KL.1 y h
      ·omega)
    have ONLY:=Ac (Only (fun b=>o b=c) w ((w3.setCell ⟨gb,o2+k,none⟩ (.int .i64 (x-1:Nat))).setCell ⟨g,2,none⟩ (.int .i64 ((k+1) % n:Nat)))) (((KV.1.below B3.1).set (fun _=>KO.1.2.2.2) _).set (fun _=>KO.1.1) _);have c2'':=(World.cell?_of_block (Below.heap_setCell w3 ⟨gb,o2+k,none⟩ (.int .i64 (x-1:Nat)) g hgb)).trans c2';have f2'':=(World.frozen?_of_block (Below.heap_setCell w3 ⟨gb,o2+k,none⟩ (.int .i64 (x-1:Nat)) g hgb)).trans f2';clear hr3 hf3 hgb hga;go_wp2;go_ret;refine⟨k,rfl,?_,?_,.inr ⟨k,hk,hmk,rfl⟩⟩
    ·have:=ONLY.1;push_cast at this;exact this
    ·have:=FIN.1;push_cast at this;exact this
theorem w16(n:Int):IntKind.u16.wrap n=n % 65536:=by simp[IntKind.wrap,IntKind.bits,IntKind.signed]
theorem w64(n:Int):IntKind.u64.wrap n=n % 18446744073709551616:=by simp[IntKind.wrap,IntKind.bits,IntKind.signed]
def k0p(a b:Int):Int:=((a-32768) % 18446744073709551616+(b-(a-32768)) % 65536) % 18446744073709551616
theorem k1Y(a b:Int):0<=k0p a b/\k0p a b<=18446744073709551615:=by unfold k0p;omega
def SndSt(w0 w:World)(g:Nat)(s l:Int):Prop:=w.heap[g]? = some (.cells #[.int .u64 s,.int .u64 l] 191 (0,0))/\Only (fun b=>b=g) w0 w
theorem SndSt.drewN{w0 w:World}{g:Nat}{s l:Int}(h:SndSt w0 w g s l)(m:Nat):SndSt w0 (w.drewN m) g s l:=⟨h.1,h.2.drewN m⟩
theorem SndSt.below{w0 w w1:World}{g:Nat}{s l:Int}(h:SndSt w0 w g s l)(hb:Below w.heap.size w w1):SndSt w0 w1 g s l:=⟨k0Z h.1 hb,h.2.below hb⟩
theorem SndSt.set0{w0 w:World}{g:Nat}{s l:Int}(h:SndSt w0 w g s l)(x:Int):SndSt w0 (w.setCell ⟨g,0,none⟩ (.int .u64 x)) g x l:=⟨by simpa using k05 h.1 0 (.int .u64 x),h.2.set (fun _=>rfl) _⟩
theorem SndSt.set1{w0 w:World}{g:Nat}{s l:Int}(h:SndSt w0 w g s l)(x:Int):SndSt w0 (w.setCell ⟨g,1,none⟩ (.int .u64 x)) g s x:=⟨by simpa using k05 h.1 1 (.int .u64 x),h.2.set (fun _=>rfl) _⟩
theorem SndSt.c0{w0 w:World}{g:Nat}{s l:Int}(h:SndSt w0 w g s l):w.cell? ⟨g,0,none⟩=some (.int .u64 s):=(k00 h.1 0).trans rfl
theorem SndSt.c1{w0 w:World}{g:Nat}{s l:Int}(h:SndSt w0 w g s l):w.cell? ⟨g,1,none⟩=some (.int .u64 l):=(k00 h.1 1).trans rfl
theorem SndSt.f0{w0 w:World}{g:Nat}{s l:Int}(h:SndSt w0 w g s l):w.frozen? ⟨g,0,none⟩=false:=k02 h.1 0
theorem SndSt.f1{w0 w:World}{g:Nat}{s l:Int}(h:SndSt w0 w g s l):w.frozen? ⟨g,1,none⟩=false:=k02 h.1 1
theorem k7C(a:Int)(w:World):Calls Tryz.prog 142 #[.int .u64 a] w fun e w'=>e=.returned (.int .u16 (IntKind.u16.wrap a))/\Drawn0 w w':=by
 go_enter Tryz.func142,Tryz.ntmps142;go_wp2;go_ret;exact⟨by first|rfl|(simp;done),zz18⟩
theorem k25(a b:Int)(w:World):Calls Tryz.prog 115 #[.int .u64 a,.int .u16 b] w fun e w'=>e=.returned (.int .u64 (k0p a b))/\Drawn0 w w':=by
 have hfin:k07 (IntKind.u64.wrap (IntKind.u64.wrap (a-32768)+IntKind.u64.wrap (IntKind.u16.wrap (b-IntKind.u16.wrap (IntKind.u64.wrap (a-32768)))))=k0p a b):=Ab (by
  simp only[w16,w64,k0p];omega)
 go_enter Tryz.func115,Tryz.ntmps115
 go_wp2_with(go_at_call 142;(with_reducible refine(k7C _ _).mono ?_);rintro e w' ⟨rfl,⟨nd,rfl⟩⟩)
 go_ret;exact⟨by rw[<- hfin.1];rfl,zz18⟩
theorem kcu(n r:Int)(w:World)(h0:0<=n)(h1:n<4611686018427387904)(h2:1<=r)(h3:r<=8) :
 Calls Tryz.prog 67 #[.int .u64 n,.int .i64 r] w fun e w'=>e=.returned (.pointer (some ⟨w.heap.size,0,none⟩))/\w'=w.alloc (.cells #[.int .u64 n,.int .u64 (n+r)] 191):=by
 have e1:decide (4611686018427387904<=n)=false:=zz20
 have e2:decide (r<1)=false:=zz20
 have e3:decide (8<r)=false:=zz20
 go_enter Tryz.func67,Tryz.ntmps67;exact zz16
theorem k2O(s l:Int)(w:World)(h0:0<=s)(h1:s<=l)(h2:l<=s+8)(h3:l<18446744073709551616) :
 Calls Tryz.prog 114 #[.agg #[.int .u64 s,.int .u64 l]] w fun e w'=>e=.returned (.int .i64 (l-s))/\Below w.heap.size w w':=by
 go_enter Tryz.func114,Tryz.ntmps114;go_wp2;go_ret;exact⟨rfl,(Below.refl _ _).alloc (Nat.le_refl _) _⟩
theorem k1t(g:Nat)(s l:Int)(w0 w:World)(hS:SndSt w0 w g s l)(h0:0<=s)(h1:s<=l)(h2:l<=s+8)(h3:l<18446744073709551616) :
 Calls Tryz.prog 79 #[.pointer (some ⟨g,0,none⟩)] w fun e w'=>e=.returned (.int .i64 (l-s))/\SndSt w0 w' g s l:=by
 have HS:=Ab hS;have hc0:=hS.c0;have hc1:=hS.c1;clear hS;go_enter Tryz.func79,Tryz.ntmps79
 go_wp2_with(go_at_call 114;(with_reducible refine(k2O _ _ _ h0 h1 h2 h3).mono ?_);rintro e w' ⟨rfl,hb⟩;have HB:=Ab hb;clear hb)
 go_ret;exact⟨rfl,HS.1.below HB.1⟩
theorem k1M(g:Nat)(s l:Int)(w0 w:World)(hS:SndSt w0 w g s l) :
 Calls Tryz.prog 85 #[.pointer (some ⟨g,0,none⟩)] w fun e w'=>e=.returned (.int .u64 s)/\SndSt w0 w' g s l:=by
 have HS:=Ab hS;have hc0:=hS.c0;clear hS;go_enter Tryz.func85,Tryz.ntmps85;go_wp2;go_ret;exact⟨rfl,by first|exact HS.1|exact HS.1.drewN _⟩
theorem k4n(g:Nat)(s l:Int)(w0 w:World)(hS:SndSt w0 w g s l) :
 Calls Tryz.prog 81 #[.pointer (some ⟨g,0,none⟩)] w fun e w'=>e=.returned (.int .u64 l)/\SndSt w0 w' g s l:=by
 have HS:=Ab hS;have hc1:=hS.c1;clear hS;go_enter Tryz.func81,Tryz.ntmps81;go_wp2;go_ret;exact⟨rfl,by first|exact HS.1|exact HS.1.drewN _⟩
theorem k3Q(g:Nat)(s l:Int)(w0 w:World)(hS:SndSt w0 w g s l)(h0:0<=s)(h1:s<l)(h2:l<=s+8)(h3:l<18446744073709551616) :
 Calls Tryz.prog 132 #[.pointer (some ⟨g,0,none⟩)] w fun e w'=>e=.returned (.tuple #[.int .u64 s,.bool true])/\SndSt w0 w' g (s+1) l:=by
 have HS:=Ab hS;have hc0:=hS.c0;have hc1:=hS.c1;clear hS;have e1:(l-s == 0)=false:=zz20
 go_enter Tryz.func132,Tryz.ntmps132
 go_wp2_with(go_at_call 114;(with_reducible refine(k2O _ _ _ h0 zz1 h2 h3).mono ?_);rintro e w' ⟨rfl,hb⟩;have hS2:=HS.1.below hb;clear hb;have hd0:=hS2.c0;have hd1:=hS2.c1;have hg0:=hS2.f0;have HS2:=Ab hS2;clear hS2)
 go_ret2
 exact⟨rfl,HS2.1.set0 _⟩
def k4Q(s l b:Int):Int:=if k0p l b<=l\/s+8<k0p l b then l else k0p l b
theorem k4Z(g:Nat)(s l b:Int)(w0 w:World)(hS:SndSt w0 w g s l)(h0:0<=s)(h3:s+8<18446744073709551616) :
 Calls Tryz.prog 98 #[.pointer (some ⟨g,0,none⟩),.int .u16 b] w fun e w'=>e=.returned (.bool (decide (l<k0p l b/\k0p l b<=s+8)))/\SndSt w0 w' g s (k4Q s l b):=by
 have HS:=Ab hS;have hc0:=hS.c0;have hc1:=hS.c1;have hf1:=hS.f1;clear hS;by_cases c1:k0p l b<=l
 ·rw[decide_eq_false zz1,show k4Q s l b=l from if_pos (Or.inl c1)]
  have e1:decide (k0p l b<=l)=true:=decide_eq_true c1;clear c1;go_enter Tryz.func98,Tryz.ntmps98
  go_wp2_with(go_at_call 115;(with_reducible refine(k25 _ _ _).mono ?_);rintro e w' ⟨rfl,⟨nd,rfl⟩⟩)
  go_ret;exact⟨rfl,by first|exact HS.1.drewN _|exact(HS.1.drewN _).drewN _⟩
 ·have e1:decide (k0p l b<=l)=false:=decide_eq_false c1
  by_cases c2:s+8<k0p l b
  ·rw[decide_eq_false zz1,show k4Q s l b=l from if_pos (Or.inr c2)]
   have e2:decide (s+8<k0p l b)=true:=decide_eq_true c2;clear c1 c2;go_enter Tryz.func98,Tryz.ntmps98
   go_wp2_with(go_at_call 115;(with_reducible refine(k25 _ _ _).mono ?_);rintro e w' ⟨rfl,⟨nd,rfl⟩⟩)
   go_ret;exact⟨rfl,by first|exact HS.1.drewN _|exact(HS.1.drewN _).drewN _⟩
  ·rw[decide_eq_true zz1,show k4Q s l b=k0p l b from if_neg zz1]
   have e2:decide (s+8<k0p l b)=false:=decide_eq_false c2;clear c1 c2;go_enter Tryz.func98,Tryz.ntmps98
   go_wp2_with(go_at_call 115;(with_reducible refine(k25 _ _ _).mono ?_);rintro e w' ⟨rfl,⟨nd,rfl⟩⟩)
   go_ret;exact⟨rfl,by first|exact(HS.1.drewN _).set1 _|exact((HS.1.drewN _).drewN _).set1 _⟩
def RcvSt(w0 w:World)(g:Nat)(x h r:Int):Prop:=w.heap[g]? = some (.cells #[.int .u64 x,.int .i64 h,.int .i64 r] 193 (0,0))/\Only (fun b=>b=g) w0 w
section
variable{w0 w w1:World}{g:Nat}{x h r:Int}
theorem RcvSt.drewN(s:RcvSt w0 w g x h r)(m:Nat):RcvSt w0 (w.drewN m) g x h r:=⟨s.1,s.2.drewN m⟩
theorem RcvSt.set0(s:RcvSt w0 w g x h r)(y:Int):RcvSt w0 (w.setCell ⟨g,0,none⟩ (.int .u64 y)) g y h r:=⟨by simpa using k05 s.1 0 (.int .u64 y),s.2.set (fun _=>rfl) _⟩
theorem RcvSt.set1(s:RcvSt w0 w g x h r)(y:Int):RcvSt w0 (w.setCell ⟨g,1,none⟩ (.int .i64 y)) g x y r:=⟨by simpa using k05 s.1 1 (.int .i64 y),s.2.set (fun _=>rfl) _⟩
theorem RcvSt.c0(s:RcvSt w0 w g x h r):w.cell? ⟨g,0,none⟩=some (.int .u64 x):=(k00 s.1 0).trans rfl
theorem RcvSt.c1(s:RcvSt w0 w g x h r):w.cell? ⟨g,1,none⟩=some (.int .i64 h):=(k00 s.1 1).trans rfl
theorem RcvSt.c2(s:RcvSt w0 w g x h r):w.cell? ⟨g,2,none⟩=some (.int .i64 r):=(k00 s.1 2).trans rfl
theorem RcvSt.f0(s:RcvSt w0 w g x h r):w.frozen? ⟨g,0,none⟩=false:=k02 s.1 0
theorem RcvSt.f1(s:RcvSt w0 w g x h r):w.frozen? ⟨g,1,none⟩=false:=k02 s.1 1
end
theorem kca(n r:Int)(w:World)(h0:0<=n)(h1:n<4611686018427387904)(h2:1<=r)(h3:r<=8) :
 Calls Tryz.prog 68 #[.int .u64 n,.int .i64 r] w fun e w'=>e=.returned (.pointer (some ⟨w.heap.size,0,none⟩))/\w'=w.alloc (.cells #[.int .u64 n,.int .i64 0,.int .i64 r] 193):=by
 have e1:decide (4611686018427387904<=n)=false:=zz20
 have e2:decide (r<1)=false:=zz20
 have e3:decide (8<r)=false:=zz20
 go_enter Tryz.func68,Tryz.ntmps68;exact zz16
theorem k6y(g:Nat)(x h r:Int)(w0 w:World)(s:RcvSt w0 w g x h r)(x0:0<=x)(x1:x<=9000000000000000000)(h0:0<=h)(h1:h<=r)(h2:r<=8) :
 Calls Tryz.prog 80 #[.pointer (some ⟨g,0,none⟩)] w fun e w'=>e=.returned (.int .u64 (x+(r-h)))/\RcvSt w0 w' g x h r:=by
 have HS:=Ab s;have hc0:=s.c0;have hc1:=s.c1;have hc2:=s.c2;have hf0:=s.f0;have hf1:=s.f1;clear s;go_enter Tryz.func80,Tryz.ntmps80;go_wp2
 go_quiet (fail)
 go_wp2;go_ret;exact⟨rfl,HS.1.drewN _⟩
theorem kbg(g:Nat)(x h r:Int)(w0 w:World)(s:RcvSt w0 w g x h r) :
 Calls Tryz.prog 82 #[.pointer (some ⟨g,0,none⟩)] w fun e w'=>e=.returned (.int .i64 h)/\RcvSt w0 w' g x h r:=by
 have HS:=Ab s;have hc0:=s.c0;have hc1:=s.c1;have hc2:=s.c2;have hf0:=s.f0;have hf1:=s.f1;clear s;go_enter Tryz.func82,Tryz.ntmps82;go_wp2;go_ret;exact⟨rfl,HS.1⟩
theorem k4A(g:Nat)(x h r:Int)(w0 w:World)(s:RcvSt w0 w g x h r) :
 Calls Tryz.prog 84 #[.pointer (some ⟨g,0,none⟩)] w fun e w'=>e=.returned (.int .u64 x)/\RcvSt w0 w' g x h r:=by
 have HS:=Ab s;have hc0:=s.c0;have hc1:=s.c1;have hc2:=s.c2;have hf0:=s.f0;have hf1:=s.f1;clear s;go_enter Tryz.func84,Tryz.ntmps84;go_wp2;go_ret;exact⟨rfl,HS.1⟩
theorem k7g(g:Nat)(x r:Int)(w0 w:World)(s:RcvSt w0 w g x 0 r) :
 Calls Tryz.prog 130 #[.pointer (some ⟨g,0,none⟩)] w fun e w'=>e=.returned (.bool false)/\RcvSt w0 w' g x 0 r:=by
 have HS:=Ab s;have hc0:=s.c0;have hc1:=s.c1;have hc2:=s.c2;have hf0:=s.f0;have hf1:=s.f1;clear s;go_enter Tryz.func130,Tryz.ntmps130;go_wp2;go_ret;exact⟨rfl,HS.1⟩
theorem k73(g:Nat)(x h r:Int)(w0 w:World)(s:RcvSt w0 w g x h r)(h0:0<h)(h1:h<=8) :
 Calls Tryz.prog 130 #[.pointer (some ⟨g,0,none⟩)] w fun e w'=>e=.returned (.bool true)/\RcvSt w0 w' g x (h-1) r:=by
 have e1:(h == 0)=false:=zz20
 have HS:=Ab s;have hc0:=s.c0;have hc1:=s.c1;have hc2:=s.c2;have hf0:=s.f0;have hf1:=s.f1;clear s;go_enter Tryz.func130,Tryz.ntmps130;go_wp2;go_ret;exact⟨rfl,HS.1.set1 _⟩
theorem k1C(g:Nat)(x h r b:Int)(w0 w:World)(s:RcvSt w0 w g x h r)(x0:0<=x)(x1:x<=9000000000000000000) :
 Calls Tryz.prog 134 #[.pointer (some ⟨g,0,none⟩),.int .u16 b] w fun e w'=>e=.returned (.tuple #[.int .u64 (k0p x b),.int .u64 ((k0p x b-x) % 18446744073709551616),.bool (decide (x<=k0p x b))])/\RcvSt w0 w' g x h r:=by
 have hr:=k1Y x b;have hw:=w64 (k0p x b-x);have HS:=Ab s;have hc0:=s.c0;have hc1:=s.c1;have hc2:=s.c2;have hf0:=s.f0;have hf1:=s.f1;clear s;go_enter Tryz.func134,Tryz.ntmps134
 go_wp2_with(go_at_call 115;(with_reducible refine(k25 _ _ _).mono ?_);rintro e w' ⟨rfl,⟨nd,rfl⟩⟩)
 go_quiet (fail)
 go_wp2
 go_ret3
 exact⟨rfl,(HS.1.drewN _).drewN _⟩
theorem k53(g:Nat)(x h r b:Int)(w0 w:World)(s:RcvSt w0 w g x h r)(x0:0<=x)(x1:x<=9000000000000000000)(h0:0<=h)(h1:h<=r)(h2:r<=8)(hs:k0p x b<x) :
 Calls Tryz.prog 135 #[.pointer (some ⟨g,0,none⟩),.int .u16 b] w fun e w'=>e=.returned (.int .u16 60)/\RcvSt w0 w' g x h r:=by
 have e1:decide (x<=k0p x b)=false:=decide_eq_false zz1;have HS:=Ab s;clear s;go_enter Tryz.func135,Tryz.ntmps135
 go_wp2_with(go_at_call 134;(with_reducible refine(k1C g x h r b w0 w HS.1 x0 x1).mono ?_);rintro e w2 ⟨rfl,hs2⟩;have HS2:=Ab hs2;have hc0:=hs2.c0;have hc1:=hs2.c1;have hc2:=hs2.c2;have hf0:=hs2.f0;have hf1:=hs2.f1;clear hs2)
 go_ret;exact⟨rfl,HS2.1⟩
theorem k5U(g:Nat)(x h r b:Int)(w0 w:World)(s:RcvSt w0 w g x h r)(x0:0<=x)(x1:x<=9000000000000000000)(h0:0<=h)(h1:h<=r)(h2:r<=8)(hs:x+(r-h)<=k0p x b) :
 Calls Tryz.prog 135 #[.pointer (some ⟨g,0,none⟩),.int .u16 b] w fun e w'=>e=.returned (.int .u16 61)/\RcvSt w0 w' g x h r:=by
 have hr:=k1Y x b;have e1:decide (x<=k0p x b)=true:=decide_eq_true zz1;have e3:decide (r-h<=(k0p x b-x) % 18446744073709551616)=true:=decide_eq_true zz1;have HS:=Ab s;clear s;go_enter Tryz.func135,Tryz.ntmps135
 go_wp2_with(go_at_call 134;(with_reducible refine(k1C g x h r b w0 w HS.1 x0 x1).mono ?_);rintro e w2 ⟨rfl,hs2⟩;have HS2:=Ab hs2;have hc0:=hs2.c0;have hc1:=hs2.c1;have hc2:=hs2.c2;have hf0:=hs2.f0;have hf1:=hs2.f1;clear hs2)
 go_quiet (fail)
 go_wp2;exact zz48
theorem k7D(X:Int)(g:Nat)(x h r b:Int)(w0 w:World)(s:RcvSt w0 w g x h r)(x0:0<=x)(x1:x<=9000000000000000000)(h0:0<=h)(h1:h<=r)(h2:r<=8)(hX:k0p x b=X)(hs:x<=X)(ht:X<x+(r-h)) :
 Calls Tryz.prog 135 #[.pointer (some ⟨g,0,none⟩),.int .u16 b] w fun e w'=>e=.returned (.int .u16 0)/\RcvSt w0 w' g (X+1) (h+1) r:=by
 have e1:decide (x<=k0p x b)=true:=decide_eq_true zz1;have e3:decide (r-h<=(k0p x b-x) % 18446744073709551616)=false:=decide_eq_false zz1;have HS:=Ab s;clear s;go_enter Tryz.func135,Tryz.ntmps135
 go_wp2_with(go_at_call 134;(with_reducible refine(k1C g x h r b w0 w HS.1 x0 x1).mono ?_);rintro e w2 ⟨rfl,hs2⟩;have HS2:=Ab hs2;have hc0:=hs2.c0;have hc1:=hs2.c1;have hc2:=hs2.c2;have hf0:=hs2.f0;have hf1:=hs2.f1;clear hs2)
 go_quiet (fail)
 go_wp2;go_ret;exact⟨rfl,by rw[<- hX];first|exact((HS2.1.drewN _).set0 _).set1 _|exact(HS2.1.set0 _).set1 _⟩
theorem k7t(g:Nat)(x h r b:Int)(w0 w:World)(s:RcvSt w0 w g x h r)(x0:0<=x)(x1:x<=9000000000000000000)(h0:0<=h)(h1:h<=r)(h2:r<=8)(hs:k0p x b<=x\/x+(r-h)<k0p x b) :
 Calls Tryz.prog 99 #[.pointer (some ⟨g,0,none⟩),.int .u16 b] w fun e w'=>e=.returned (.bool false)/\RcvSt w0 w' g x h r:=by
 have hr:=k1Y x b;have HS:=Ab s;clear s;by_cases c1:x<=k0p x b
 ·have e1:decide (x<=k0p x b)=true:=decide_eq_true c1
  by_cases c2:(k0p x b-x) % 18446744073709551616=0
  ·have e2:((k0p x b-x) % 18446744073709551616 == 0)=true:=by rw[c2];rfl
   clear hs c1 c2;go_enter Tryz.func99,Tryz.ntmps99
   go_wp2_with(go_at_call 134;(with_reducible refine(k1C g x h r b w0 w HS.1 x0 x1).mono ?_);rintro e w2 ⟨rfl,hs2⟩;have HS2:=Ab hs2;have hc0:=hs2.c0;have hc1:=hs2.c1;have hc2:=hs2.c2;have hf0:=hs2.f0;have hf1:=hs2.f1;clear hs2)
   go_quiet (fail)
   go_wp2;exact zz48
  ·have e2:((k0p x b-x) % 18446744073709551616 == 0)=false:=beq_eq_false_iff_ne.mpr c2
   have e3:decide (r-h<(k0p x b-x) % 18446744073709551616)=true:=decide_eq_true zz1;clear hs c1 c2;go_enter Tryz.func99,Tryz.ntmps99
   go_wp2_with(go_at_call 134;(with_reducible refine(k1C g x h r b w0 w HS.1 x0 x1).mono ?_);rintro e w2 ⟨rfl,hs2⟩;have HS2:=Ab hs2;have hc0:=hs2.c0;have hc1:=hs2.c1;have hc2:=hs2.c2;have hf0:=hs2.f0;have hf1:=hs2.f1;clear hs2)
   go_quiet (fail)
   go_wp2;exact zz48
 ·have e1:decide (x<=k0p x b)=false:=decide_eq_false c1
  clear hs c1;go_enter Tryz.func99,Tryz.ntmps99
  go_wp2_with(go_at_call 134;(with_reducible refine(k1C g x h r b w0 w HS.1 x0 x1).mono ?_);rintro e w2 ⟨rfl,hs2⟩;have HS2:=Ab hs2;have hc0:=hs2.c0;have hc1:=hs2.c1;have hc2:=hs2.c2;have hf0:=hs2.f0;have hf1:=hs2.f1;clear hs2)
  go_quiet (fail)
  go_wp2;exact zz48
theorem k6q(X:Int)(g:Nat)(x h r b:Int)(w0 w:World)(s:RcvSt w0 w g x h r)(x0:0<=x)(x1:x<=9000000000000000000)(h0:0<=h)(h1:h<=r)(h2:r<=8)(hX:k0p x b=X)(hs:x<X)(ht:X<=x+(r-h)) :
 Calls Tryz.prog 99 #[.pointer (some ⟨g,0,none⟩),.int .u16 b] w fun e w'=>e=.returned (.bool true)/\RcvSt w0 w' g X h r:=by
 have hr:=k1Y x b;have e1:decide (x<=k0p x b)=true:=decide_eq_true zz1;have e2:((k0p x b-x) % 18446744073709551616 == 0)=false:=beq_eq_false_iff_ne.mpr zz1;have e3:decide (r-h<(k0p x b-x) % 18446744073709551616)=false:=decide_eq_false zz1;have HS:=Ab s;clear s;have HX:=Ab hX;clear hX hs ht;go_enter Tryz.func99,Tryz.ntmps99
 go_wp2_with(go_at_call 134;(with_reducible refine(k1C g x h r b w0 w HS.1 x0 x1).mono ?_);rintro e w2 ⟨rfl,hs2⟩;have HS2:=Ab hs2;have hc0:=hs2.c0;have hc1:=hs2.c1;have hc2:=hs2.c2;have hf0:=hs2.f0;have hf1:=hs2.f1;clear hs2)
 go_quiet (fail)
 go_wp2;go_ret;exact⟨rfl,by rw[<- HX.1];first|exact(HS2.1.drewN _).set0 _|exact HS2.1.set0 _⟩
end Go.Proofs.YtdopmlopafgonaaGreatDoor.Own
