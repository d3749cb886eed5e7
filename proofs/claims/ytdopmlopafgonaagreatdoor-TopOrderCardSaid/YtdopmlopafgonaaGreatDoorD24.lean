/- TopOrder: of each flow what came is some of what was injected, in its order (a part of the walks and of the plain laws). -/
import Derived.Test.YtdopmlopafgonaaGreatDoorD0
import Derived.Test.YtdopmlopafgonaaGreatDoorD22
import Derived.Test.YtdopmlopafgonaaGreatDoorD23
import Derived.Deep.AppendLies
import Derived.Deep.RegionHeld3
import Derived.Deep.RegionLaw
import Derived.Laws.AppendOwnNone
import Derived.OwnWalk
set_option linter.unusedVariables false
set_option linter.unusedSimpArgs false
set_option maxHeartbeats 4000000
set_option maxRecDepth 100000
namespace Go.Proofs.YtdopmlopafgonaaGreatDoor.Wire
open Go.RowKit Go.Proofs.Ytamaemlhnkabcaa.Crc Go.Proofs.YtdopmlopafgonaaGreatDoor.PTopQuick Go.Proofs.YtdopmlopafgonaaGreatDoorW.PrintWords Go.Proofs.YtdopmlopafgonaaGreatDoorW.PrintLast Go.Proofs.YtdopmlopafgonaaGreatDoorW.PrintMore
open Go.Proofs.YtdopmlopafgonaaGreatDoor.Own
theorem k7A{W:World}{g:Nat}{cs:Array Value}{fr:Nat×Nat}(h:W.heap[g]? = some (.cells cs 5 fr))(l:List Int)(hn:l.length<=9223372036854775807)(hc:∀k,k<l.length->cs[k]? = some (.int .u8 (l.getD k 0))):ReadsInt W .u8 (some ⟨g,0,none⟩) l.length l:=
 ⟨rfl,hn,fun _=>⟨_,rfl,fun j hj=>by rw[k6J];exact(cell_of_row W g j cs 5 fr h).trans (hc j hj)⟩⟩
theorem Oct.cons{a:Int}{l:List Int}(h0:0<=a)(h1:a<=255)(h:Oct l):Oct (a :: l):=by
 intro x hx;rcases List.mem_cons.1 hx with rfl|hx
 ·simp[Lit.wf,IntKind.min,IntKind.max,IntKind.bits,IntKind.signed];omega
 ·exact h x hx
theorem Oct.nil:Oct []:=fun x hx=>by simp at hx
theorem Oct.two{a b:Int}(a0:0<=a)(a1:a<=255)(b0:0<=b)(b1:b<=255):Oct [a,b]:=Oct.cons a0 a1 (Oct.cons b0 b1 Oct.nil)
def Row(w0 w:World)(base:Nat)(v:Value)(l:List Int):Prop:=w.ownsRow base 5 1 v l.length (nums .u8 l)/\Below w0.heap.size w0 w/\w0.heap.size<=base/\base<=w.heap.size/\Oct l
theorem Row.nil{w0 w:World}(hb:Below w0.heap.size w0 w):Row w0 w w.heap.size (.slice none 0 0) []:=⟨kac _ _ _ _,hb,hb.size,Nat.le_refl _,Oct.nil⟩
theorem Row.below{w0 w w1:World}{base:Nat}{v:Value}{l:List Int}(h:Row w0 w base v l)(hb:Below w.heap.size w w1):Row w0 w1 base v l:=
 ⟨k6U h.1 hb,k0D h.2.1 h.2.1.size hb,h.2.2.1,Nat.le_trans h.2.2.2.1 hb.size,h.2.2.2.2⟩
theorem Row.alloc{w0 w:World}{base:Nat}{v:Value}{l:List Int}(h:Row w0 w base v l)(o:Obj):Row w0 (w.alloc o) base v l:=h.below (k0f (Below.refl _ _) o)
theorem Row.drew{w0 w:World}{base:Nat}{v:Value}{l:List Int}(h:Row w0 w base v l):Row w0 w.drew base v l:=h.below (Below.refl _ _).drew
theorem Oct.append{l m:List Int}(h:Oct l)(k:Oct m):Oct (l++m):=fun x hx=>by
 rcases List.mem_append.1 hx with hx|hx
 ·exact h x hx
 ·exact k x hx
theorem Row.block_ge{w0 w:World}{base:Nat}{v:Value}{l:List Int}(h:Row w0 w base v l):∀k,v.ownBlock=some k->base<=k:=fun k hk=>k2y h.1 k hk
theorem Row.reads{w0 w:World}{base:Nat}{v:Value}{l:List Int}(h:Row w0 w base v l):∃A c,v=.slice A l.length c/\ReadsInt w .u8 A l.length l/\(A=none->c=0):=by
 obtain⟨⟨hl,hv⟩,_⟩:=h;rcases hv with⟨rfl,hn⟩|⟨g,cap,cur,rfl,hg,hh,hc,hm,hs,ht⟩
 ·exact⟨none,0,by rw[hn],⟨rfl,zz1,fun k=>by omega⟩,fun _=>rfl⟩
 ·refine⟨some ⟨g,0,none⟩,cap,rfl,⟨rfl,by unfold maxLen at hm;omega,fun _=>⟨_,rfl,fun j hj=>?_⟩⟩,fun k=>by cases k⟩
  rw[k6J,k00 hh j];have e:cur.toList[j]? = (nums .u8 l)[j]?:=by
   rw[<- ht,Nat.mul_one,List.getElem?_take_of_lt hj]
  rw[<- Array.getElem?_toList,e];unfold nums;rw[List.getElem?_map,List.getElem?_eq_getElem hj,List.getD_eq_getElem?_getD,List.getElem?_eq_getElem hj];rfl
theorem kcs:(Tryz.prog.info? 5).map (fun i=>(i.zero,i.size,i.bytes))=some (some (.int .u8 0),1,1):=by kernel_rfl
theorem k6n{ops:Array Oper}{rest:List Oper}{o:Oper}{a:Act}{Q:Exit->Act->World->Prop}{w0 w:World}(hgd:o.guard=none)(s x:Operand)
 (ho:o.op=.call { callee:=.builtin .append,args:=#[s,x],argTypes:=#[22,22] })
 (base:Nat) (v:Value) (l:List Int) (R:Row w0 w base v l) (A:Option Addr) (m:List Int) (mn c:Nat) (hA:ReadsInt w .u8 A mn m) (hn:A=none->c=0) (hoct:Oct m) (hlen:l.length+mn<=1000000)
 (hs:a.eval s=v) (hx:a.eval x=.slice A mn c)
 (h:∀v' w',Row w0 w' base v' (l++m)->w.grownBy w' v.ownBlock->wpList Tryz.prog ops Q rest (a.put o.dst v') w'):wpList Tryz.prog ops Q (o :: rest) a w:=by
 obtain⟨i,hi,hz0,hz1,hz2⟩:=info_parts kcs;obtain⟨hml,hmb,hrd⟩:=hA;subst hml
 cases A with
 |none=>
  have hm0:m=[]:=by
   rcases Nat.eq_zero_or_pos m.length with k|k
   ·exact List.eq_nil_of_length_eq_zero k
   ·obtain⟨_,k,_⟩:=hrd k;cases k
  subst hm0;have hc:=hn rfl;subst hc;refine wpList_append_own_none hgd s x 22 ho base 5 i 1 Tryz.underlying22 hi v l.length (nums .u8 l) hs R.1 hx ?_;exact h v w (by rw[List.append_nil];exact R) (k2L (Below.refl _ _) _)
 |some ad=>
  refine wpList_append_own w hgd s x 22 ho base 5 i (.int .u8 0) 1 1 Tryz.underlying22 hi hz0 hz1 hz2 rfl zz7 v l.length (nums .u8 l) hs R.1 ad m.length c (nums .u8 m) hx (by rw[k4B,Nat.mul_one]) ?_ ?_ ?_ ?_ R.2.2.2.1 ?_
  ·intro j u hj
   have hj':j<m.length:=by
    have:=(List.getElem?_eq_some_iff.1 hj).1
    rwa [k4B]at this
   obtain⟨ad',e,hc⟩:=hrd zz1;obtain rfl:=Option.some.inj e;rw[hc j hj',<- hj];unfold nums;rw[List.getElem?_map,List.getElem?_eq_getElem hj',List.getD_eq_getElem?_getD,List.getElem?_eq_getElem hj'];rfl
  ·intro u hu
   obtain⟨z,_,rfl⟩:=List.mem_map.1 hu;rfl
  ·unfold maxLen;omega
  ·exact zz1
  ·intro v' w' hown hgr _
   refine h v' w' ⟨by rw[List.length_append,k4q];exact hown,?_,R.2.2.1,Nat.le_trans R.2.2.2.1 hgr.size,R.2.2.2.2.append hoct⟩ hgr;exact k2I R.2.1 _ R.2.1.size hgr (fun k hk=>Nat.le_trans R.2.2.1 (R.block_ge k hk))
theorem k9x(w0 w:World)(base:Nat)(v:Value)(l:List Int)(R:Row w0 w base v l) :
 Calls Tryz.prog 119 #[v] w fun e w'=>e=.returned (.int .u16 (crcI l))/\Below w.heap.size w w':=by
 obtain⟨A,c,rfl,hr,_⟩:=R.reads;exact k1h A c l w hr R.2.2.2.2
theorem k6P{W:World}{g:Nat}{a b:Int}(h:W.heap[g]? = some (.cells #[.int .u8 a,.int .u8 b] 5 (0,0))):ReadsInt W .u8 (some ⟨g,0,none⟩) 2 [a,b]:=
 k7A h [a,b] zz6 (by
  intro k hk;have hk:k<2:=hk
  match k,hk with
  |0,_=>rfl
  |1,_=>rfl)
theorem Row.two{w0 W:World}(hb:Below w0.heap.size w0 W)(a b:Int)(ho:Oct [a,b]):Row w0 (W.alloc (.cells #[.int .u8 a,.int .u8 b] 5)) W.heap.size (.slice (some ⟨W.heap.size,0,none⟩) 2 2) [a,b]:=
 ⟨⟨rfl,.inr ⟨W.heap.size,2,_,rfl,Nat.le_refl _,k1H _ _,Nat.le_refl _,by unfold maxLen;omega,rfl,rfl⟩⟩,k0f hb _,hb.size,zz6,ho⟩
theorem kaY{ops:Array Oper}{o:Oper}{a:Act}{K:Act->World->Prop}{Q:Exit->Act->World->Prop}{E:Prop}{w0 w:World}(hgd:o.guard=none)(s x:Operand)
 (ho:o.op=.call { callee:=.builtin .append,args:=#[s,x],argTypes:=#[22,22] })
 (base:Nat) (v:Value) (l:List Int) (R:Row w0 w base v l) (g:Nat) (p q:Int) (c:Nat) (hz:ReadsInt w .u8 (some ⟨g,0,none⟩) 2 [p,q]) (hoct:Oct [p,q]) (hlen:l.length+2<=1000000)
 (hs:a.eval s=v) (hx:a.eval x=.slice (some ⟨g,0,none⟩) 2 c)
 (h:∀v' w',Row w0 w' base v' (l++[p,q])->w.grownBy w' v.ownBlock->K (a.put o.dst v') w'):if Region.wanted o (yielded ops a.tmps)=true then Oper.wp Tryz.prog o a w K Q else E:=by
 obtain⟨i,hi,hz0,hz1,hz2⟩:=info_parts kcs;refine step_append_lies w hgd s x 22 ho base 5 i (.int .u8 0) 1 1 Tryz.underlying22 hi hz0 hz1 hz2 rfl zz7 v l.length (nums .u8 l) hs R.1 ⟨g,0,none⟩ 2 c (nums .u8 [p,q]) hx rfl ?_ ?_ zz1 ?_ ?_ R.2.2.2.1 w.heap.size rfl ?_
 ·intro j u hj
  have hj':j<2:=(List.getElem?_eq_some_iff.1 hj).1;obtain⟨ad',e,hc⟩:=hz.2.2 zz1;obtain rfl:=Option.some.inj e;rw[hc j hj',<- hj]
  match j,hj' with
  |0,_=>rfl
  |1,_=>rfl
 ·intro u hu
  obtain⟨z,_,rfl⟩:=List.mem_map.1 hu;rfl
 ·unfold maxLen;omega
 ·exact zz1
 ·intro gg cap w' hown hgr _ _
  refine h _ w' ⟨by rw[List.length_append,k4q];exact hown,?_,R.2.2.1,Nat.le_trans R.2.2.2.1 hgr.size,R.2.2.2.2.append hoct⟩ hgr;exact k2I R.2.1 _ R.2.1.size hgr (fun k hk=>Nat.le_trans R.2.2.1 (R.block_ge k hk))
def Ret(P:Value->World->Prop)(e:Ending)(w':World):Prop:=∃v',e=.returned v'/\P v' w'
theorem k1U(w0 w:World)(base:Nat)(v:Value)(l:List Int)(n:Int)(R:Row w0 w base v l)(n0:0<=n)(n1:n<=65535)(hl:l.length<=1000) :
 Calls Tryz.prog 117 #[v,.int .u16 n] w (Ret fun v' w'=>Row w0 w' base v' (l++[n / 256,n % 256])/\w.grownBy w' v.ownBlock):=by
 have HR:=Ab (R.alloc (.cells #[.int .u8 (n / 256),.int .u8 (n % 256)] 5));have HO:=Ab (Oct.two (a:=n / 256) (b:=n % 256) zz1 zz1 zz1 zz1);have HL:=Ab (show l.length+2<=1000000 by omega);have hd:n / 256 % 256=n / 256:=zz1
 clear R hl;go_enter Tryz.func117,Tryz.ntmps117
 go_wp2_with(at_builtin;have q2:=k6P (k1H w (.cells #[.int .u8 (n / 256),.int .u8 (n % 256)] 5));refine k6n rfl _ _ rfl _ _ l HR.1 (some ⟨w.heap.size,0,none⟩) [n / 256,n % 256] _ _ q2 (fun k=>by cases k) HO.1 HL.1 rfl rfl ?_;clear q2;intro v1 w2 R1 g1;have RA:=Ab R1;have GA:=Ab g1;clear R1 g1)
 go_ret;exact⟨v1,rfl,RA.1,(World.grownBy_alloc w _ v.ownBlock).trans GA.1⟩
theorem k8f(w0 w:World)(base:Nat)(v:Value)(l:List Int)(n:Int)(R:Row w0 w base v l)(n0:0<=n)(n1:n<=4294967295)(hl:l.length<=900) :
 Calls Tryz.prog 118 #[v,.int .u32 n] w (Ret fun v' w'=>Row w0 w' base v' (l++[n / 16777216,n / 65536 % 256,n / 256 % 256,n % 256])):=by
 have HR:=Ab R;have HE:k07 (l++[n / 65536 / 256,n / 65536 % 256]++[n % 65536 / 256,n % 65536 % 256]=l++[n / 16777216,n / 65536 % 256,n / 256 % 256,n % 256]):=Ab (by
  rw[show n / 65536 / 256=n / 16777216 by omega,show n % 65536 / 256=n / 256 % 256 by omega,show n % 65536 % 256=n % 256 by omega,List.append_assoc];rfl)
 have ew:IntKind.u16.wrap n=n % 65536:=w16 n;have HL:=Ab hl;clear R hl;go_enter Tryz.func118,Tryz.ntmps118
 go_wp2_with fail
 refine(k1U w0 _ base v l _ HR.1 zz1 zz1 zz82).mono ?_;rintro e w1 ⟨v1,rfl,R1,_⟩;have H1:=Ab R1;clear R1
 go_wp2_with fail
 refine(k1U w0 _ base v1 _ _ H1.1 zz1 zz1 (by have:=HL.1;simp;omega)).mono ?_;rintro e w2 ⟨v2,rfl,R2,_⟩;have H2:=Ab R2;clear R2;go_wp2;go_ret;exact⟨v2,rfl,by have:=H2.1;rwa [HE.1]at this⟩
def sound(k l a b y:Int):Bool:=(wire_Sound.f k l 0 a b y).getD false
theorem kbR(k l s a b y:Int):wire_Sound.f k l s a b y=some (sound k l a b y):=by
 unfold sound wire_Sound.f
 repeat' split
 all_goals rfl
theorem k1p(k l s a b y:Int)(w:World):Calls Tryz.prog 116 #[.agg #[.int .u8 k,.int .u8 l,.int .u16 s,.int .u8 a,.int .u8 b,.int .u32 y]] w fun e w'=>e=.returned (.bool (sound k l a b y))/\Below w.heap.size w w':=
 wire_Sound.calls k l s a b y _ w (kbR k l s a b y)
def pre(k l s a b y:Int):List Int:=[k,l]++[s / 256,s % 256]++(if k=1 then[a,b]++[y / 16777216,y / 65536 % 256,y / 256 % 256,y % 256] else[])
def enc(k l s a b y:Int):List Int:=pre k l s a b y++[crcI (pre k l s a b y) / 256,crcI (pre k l s a b y) % 256]
theorem Row.lift{w0 w w':World}{base:Nat}{v:Value}{l:List Int}(h:Row w w' base v l)(hb:Below w0.heap.size w0 w):Row w0 w' base v l:=
 ⟨h.1,k0D hb hb.size h.2.1,Nat.le_trans hb.size h.2.2.1,h.2.2.2.1,h.2.2.2.2⟩
theorem Row.bel{w0 w:World}{base:Nat}{v:Value}{l:List Int}(h:Row w0 w base v l):Below w0.heap.size w0 w:=h.2.1
def Enc(w:World)(l:List Int)(e:Ending)(w':World):Prop:=∃base v,e=.returned (.tuple #[v,.int .u16 0])/\Row w w' base v l
def Box(W:World)(g:Nat)(k l s a b y:Int):Prop:=W.heap[g]? = some (.cells #[.int .u8 k,.int .u8 l,.int .u16 s,.int .u8 a,.int .u8 b,.int .u32 y] 163 (0,0))
theorem Box.cells{W:World}{g:Nat}{k l s a b y:Int}(h:Box W g k l s a b y):W.cell? ⟨g,0,none⟩=some (.int .u8 k)/\W.cell? ⟨g,1,none⟩=some (.int .u8 l)/\W.cell? ⟨g,2,none⟩=some (.int .u16 s)/\W.cell? ⟨g,3,none⟩=some (.int .u8 a)/\W.cell? ⟨g,4,none⟩=some (.int .u8 b)/\W.cell? ⟨g,5,none⟩=some (.int .u32 y):=
 ⟨(k00 h 0).trans rfl,(k00 h 1).trans rfl,(k00 h 2).trans rfl,(k00 h 3).trans rfl,(k00 h 4).trans rfl,(k00 h 5).trans rfl⟩
theorem Box.below{W W1:World}{g:Nat}{k l s a b y:Int}(h:Box W g k l s a b y)(hb:Below W.heap.size W W1):Box W1 g k l s a b y:=k0Z h hb
theorem Box.grown{W W1:World}{g:Nat}{k l s a b y:Int}{row:Option Nat}(h:Box W g k l s a b y)(hg:W.grownBy W1 row)(hne:row≠some g):Box W1 g k l s a b y:=k12 h hg (fun e=>hne e.symm)
theorem Box.lt{W:World}{g:Nat}{k l s a b y:Int}(h:Box W g k l s a b y):g<W.heap.size:=k03 h
theorem k9k(k l s a b y:Int)(w:World)(k0:0<=k)(k1:k<=255)(l0:0<=l)(l1:l<=255)(s0:0<=s)(s1:s<=65535)(a0:0<=a)(a1:a<=255)(b0:0<=b)(b1:b<=255)(y0:0<=y)(y1:y<=4294967295)(h:sound k l a b y=true)(hk:¬k=1) :
 Calls Tryz.prog 88 #[.agg #[.int .u8 k,.int .u8 l,.int .u16 s,.int .u8 a,.int .u8 b,.int .u32 y]] w (Enc w (enc k l s a b y)):=by
 have S:=Ab h;have EP:=Ab (show pre k l s a b y=[k,l]++[s / 256,s % 256] by unfold pre;rw[if_neg hk,List.append_nil]);have e1:(k == 1)=false:=beq_eq_false_iff_ne.mpr hk;have OK:=Ab (Oct.two k0 k1 l0 l1);have BX0:=Ac (Box (w.alloc (.cells #[.int .u8 k,.int .u8 l,.int .u16 s,.int .u8 a,.int .u8 b,.int .u32 y] 163)) w.heap.size k l s a b y) (k1H _ _);clear h hk;go_enter Tryz.func88,Tryz.ntmps88
 go_wp2_with fail
 refine(k1p k l s a b y _).mono ?_;rw[S.1];rintro e w1 ⟨rfl,hb⟩;have B1:=Ab (k0D (k0f (Below.refl w.heap.size w) (.cells #[.int .u8 k,.int .u8 l,.int .u16 s,.int .u8 a,.int .u8 b,.int .u32 y] 163)) zz6 hb);have BX1:=Ab (BX0.1.below hb);clear hb;obtain⟨c0,c1,c2,c3,c4,c5⟩:=BX1.1.cells;obtain⟨-,-,d2,-,-,-⟩:=(BX1.1.below (k0f (Below.refl _ _) (.cells #[.int .u8 k,.int .u8 l] 5))).cells
 go_wp2_with fail
 clear d2;refine(k1U w _ _ _ [k,l] s (Row.two B1.1 k l OK.1) s0 s1 zz6).mono ?_;clear c0 c1 c2 c3 c4 c5;rintro e w2 ⟨v2,rfl,R2,g2⟩;have BX2:=Ab ((BX1.1.below (k0f (Below.refl _ _) (.cells #[.int .u8 k,.int .u8 l] 5))).grown g2 (by have:=BX1.1.lt;simp[Value.ownBlock];omega));have RA:=Ab R2;rw[<- EP.1]at RA;clear R2 g2;obtain⟨c0,c1,c2,c3,c4,c5⟩:=BX2.1.cells
 go_wp2_with fail
 refine(k9x _ _ _ _ _ RA.1).mono ?_;clear c0 c1 c2 c3 c4 c5;rintro e w3 ⟨rfl,hb⟩;have RB:=Ab (RA.1.below hb);clear hb;have CR:=Ab (k0y RA.1.2.2.2.2)
 go_wp2_with fail
 refine(k1U w _ _ _ _ _ RB.1 CR.1.1 CR.1.2 (by have:=EP.1;rw[this];simp)).mono ?_;rintro e w4 ⟨v4,rfl,R4,_⟩;have RC:=Ab R4;clear R4;go_wp2
 go_ret2
 exact⟨_,v4,rfl,RC.1⟩
theorem kaV(k l s a b y:Int)(w:World)(k0:0<=k)(k1:k<=255)(l0:0<=l)(l1:l<=255)(s0:0<=s)(s1:s<=65535)(a0:0<=a)(a1:a<=255)(b0:0<=b)(b1:b<=255)(y0:0<=y)(y1:y<=4294967295)(h:sound k l a b y=true)(hk:k=1) :
 Calls Tryz.prog 88 #[.agg #[.int .u8 k,.int .u8 l,.int .u16 s,.int .u8 a,.int .u8 b,.int .u32 y]] w (Enc w (enc k l s a b y)):=by
 have S:=Ab h;have EP:=Ab (show pre k l s a b y=[k,l]++[s / 256,s % 256]++[a,b]++[y / 16777216,y / 65536 % 256,y / 256 % 256,y % 256] by unfold pre;rw[if_pos hk,List.append_assoc ([k,l]++[s / 256,s % 256])]);have e1:(k == 1)=true:=beq_iff_eq.mpr hk;have OK:=Ab (Oct.two k0 k1 l0 l1);have OA:=Ab (Oct.two a0 a1 b0 b1);have BX0:=Ac (Box (w.alloc (.cells #[.int .u8 k,.int .u8 l,.int .u16 s,.int .u8 a,.int .u8 b,.int .u32 y] 163)) w.heap.size k l s a b y) (k1H _ _);clear h hk;go_enter Tryz.func88,Tryz.ntmps88
 go_wp2_with fail
 refine(k1p k l s a b y _).mono ?_;rw[S.1];rintro e w1 ⟨rfl,hb⟩;have B1:=Ab (k0D (k0f (Below.refl w.heap.size w) (.cells #[.int .u8 k,.int .u8 l,.int .u16 s,.int .u8 a,.int .u8 b,.int .u32 y] 163)) zz6 hb);have BX1:=Ab (BX0.1.below hb);clear hb;obtain⟨c0,c1,c2,c3,c4,c5⟩:=BX1.1.cells;obtain⟨-,-,d2,-,-,-⟩:=(BX1.1.below (k0f (Below.refl _ _) (.cells #[.int .u8 k,.int .u8 l] 5))).cells
 go_wp2_with fail
 clear d2;refine(k1U w1 _ _ _ [k,l] s (Row.two (Below.refl _ _) k l OK.1) s0 s1 zz6).mono ?_;clear c0 c1 c2 c3 c4 c5;rintro e w2 ⟨v2,rfl,R2,g2⟩;have RA:=Ab R2;clear R2 g2;obtain⟨c0,c1,c2,c3,c4,c5⟩:=(BX1.1.below RA.1.bel).cells
 go_wp2_with fail
 go_region_held3 (fun w'=>w'.cell? ⟨w.heap.size,3,none⟩=some (.int .u8 a)/\w'.cell? ⟨w.heap.size,4,none⟩=some (.int .u8 b)/\w'.cell? ⟨w.heap.size,5,none⟩=some (.int .u32 y))
  (first|go_keep|exact(BX1.1.below RB.1.bel).cells.2.2.2|exact(BX1.1.below RC.1.bel).cells.2.2.2)
  (first|(refine kaY rfl _ _ rfl _ _ ([k,l]++[s / 256,s % 256]) (Row.alloc (Row.drew RA.1) _) w2.heap.size a b _ (k6P (k1H _ _)) OA.1 zz6 rfl rfl ?_;intro v3 w3 R3 g3;have RB:=Ab R3;clear R3 g3)|(refine(k8f w1 _ _ _ _ _ RB.1 y0 y1 zz6).mono ?_;rintro e w4 ⟨v4,rfl,R4⟩;have RC:=Ab R4;clear R4))
 have RD:=Ab RC.1;rw[<- EP.1]at RD;clear RA RB RC
 go_wp2_with fail
 refine(k9x _ _ _ _ _ RD.1).mono ?_;rintro e w5 ⟨rfl,hb⟩;have RE:=Ab (RD.1.below hb);clear hb;have CR:=Ab (k0y RD.1.2.2.2.2)
 go_wp2_with fail
 refine(k1U w1 _ _ _ _ _ RE.1 CR.1.1 CR.1.2 (by have:=EP.1;rw[this];simp)).mono ?_;rintro e w6 ⟨v6,rfl,R6,_⟩;have RF:=Ab (R6.lift B1.1);clear R6;go_wp2
 go_ret2
 exact⟨_,v6,rfl,RF.1⟩
structure Fr where
 k:Int
 l:Int
 s:Int
 a:Int
 b:Int
 y:Int
  deriving DecidableEq
def Fr.zero:Fr:=⟨0,0,0,0,0,0⟩
def Fr.val(f:Fr):Value:=.agg #[.int .u8 f.k,.int .u8 f.l,.int .u16 f.s,.int .u8 f.a,.int .u8 f.b,.int .u32 f.y]
def Fr.sound(f:Fr):Bool:=Wire.sound f.k f.l f.a f.b f.y
def Fr.wf(f:Fr):Prop:=(0<=f.k/\f.k<=255)/\(0<=f.l/\f.l<=255)/\(0<=f.s/\f.s<=65535)/\(0<=f.a/\f.a<=255)/\(0<=f.b/\f.b<=255)/\(0<=f.y/\f.y<=4294967295)
def Fr.bytes(f:Fr):List Int:=Wire.enc f.k f.l f.s f.a f.b f.y
def At(W:World)(g:Nat)(f:Fr):Prop:=Box W g f.k f.l f.s f.a f.b f.y
theorem k3B(n c:Int)(n0:0<=n)(n1:n<16777216)(c0:0<=c)(c1:c<=255):bits .or .u32 (n*256) c=n*256+c:=by
 rw[u32_or _ _ zz1 zz1 zz1 zz1];have e:(n*256).toNat=256*n.toNat:=by omega
 rw[e,show(256:Nat)=2 ^ 8 from rfl,<- Nat.two_pow_add_eq_or_of_lt zz1];exact zz1
theorem kdc{w:World}{A:Option Addr}{n:Nat}{l:List Int}(h:ReadsInt w .u8 A n l):(Kd.int .u8).C w A n l:=
 ⟨h.1,h.2.1,fun hn=>by
  obtain⟨ad,e,hc⟩:=h.2.2 hn;refine⟨ad,e,fun j p hj=>⟨[.int .u8 p],rfl,rfl,fun i u hu=>?_⟩⟩;have hj':=(List.getElem?_eq_some_iff.1 hj).1;have hi:=(List.getElem?_eq_some_iff.1 hu).1
  match i,hi with
  |0,_=>
   have:=hc j (by rw[<- h.1];exact hj');rw[show j*(Kd.int .u8).sz+0=j by show j*1+0=j;omega,this,<- hu,List.getD_eq_getElem?_getD,hj];rfl⟩
theorem k41(ad:Addr)(c:Nat)(x y:Int)(w:World)(hr:ReadsInt w .u8 (some ad) 2 [x,y])(hc:2<=c)(x0:0<=x)(x1:x<=255)(y0:0<=y)(y1:y<=255) :
 Calls Tryz.prog 133 #[.slice (some ad) 2 c] w fun e w'=>e=.returned (.int .u32 (x*256+y))/\Below w.heap.size w w':=by
 have hf:wire_read.f 3 [x,y]=some (x*256+y):=by
  have o1:=k3B 0 x zz1 zz1 x0 x1;have o2:=k3B x y x0 zz1 y0 y1;simp[wire_read.f,wire_read.l0,rd,wrap64,Int.emod_eq_of_lt x0 (by omega:x<4294967296),Int.emod_eq_of_lt y0 (by omega:y<4294967296),Int.emod_eq_of_lt (by omega:0<=x*256) (by omega:x*256<4294967296)]at o1 o2 ⊢;rw[o1,Int.emod_eq_of_lt (by omega:0<=x*256) (by omega:x*256<4294967296)];exact o2
 refine(wire_read.calls 3 (some ad) c [x,y] _ w (kdc hr) hc hf).mono ?_;rintro e w' ⟨rfl,hd⟩;exact⟨rfl,hd.below⟩
theorem kcW(ad:Addr)(c:Nat)(x y z u:Int)(w:World)(hr:ReadsInt w .u8 (some ad) 4 [x,y,z,u])(hc:4<=c)(x0:0<=x)(x1:x<=255)(y0:0<=y)(y1:y<=255)(z0:0<=z)(z1:z<=255)(u0:0<=u)(u1:u<=255) :
 Calls Tryz.prog 133 #[.slice (some ad) 4 c] w fun e w'=>e=.returned (.int .u32 (x*16777216+y*65536+z*256+u))/\Below w.heap.size w w':=by
 have hf:wire_read.f 5 [x,y,z,u]=some (x*16777216+y*65536+z*256+u):=by
  have o1:=k3B 0 x zz1 zz1 x0 x1;have o2:=k3B x y x0 zz1 y0 y1;have o3:=k3B (x*256+y) z zz1 zz1 z0 z1;have o4:=k3B ((x*256+y)*256+z) u zz1 zz1 u0 u1;simp[wire_read.f,wire_read.l0,rd,wrap64,Int.emod_eq_of_lt x0 (by omega:x<4294967296),Int.emod_eq_of_lt y0 (by omega:y<4294967296),Int.emod_eq_of_lt z0 (by omega:z<4294967296),Int.emod_eq_of_lt u0 (by omega:u<4294967296)]at o1 o2 o3 o4 ⊢;rw[o1,Int.emod_eq_of_lt (by omega:0<=x*256) (by omega:x*256<4294967296),o2,Int.emod_eq_of_lt (by omega:0<=(x*256+y)*256) (by omega:(x*256+y)*256<4294967296),o3,Int.emod_eq_of_lt (by omega:0<=((x*256+y)*256+z)*256) (by omega:((x*256+y)*256+z)*256<4294967296),o4];exact zz1
 refine(wire_read.calls 5 (some ad) c [x,y,z,u] _ w (kdc hr) hc hf).mono ?_;rintro e w' ⟨rfl,hd⟩;exact⟨rfl,hd.below⟩
theorem k0K{P:Program}{fn:Func}{p u:Tmp}{ty:TypeId}(h:fn.results=#[.cell p ty,.tmp u])(tmps:Array Value)(w:World)(g:Nat)(t:TypeId)(cs:Array Value)(fr:Nat×Nat)(d:TypeDesc)
 (hp:tmps.getD p undef=.pointer (some ⟨g,0,none⟩)) (hg:w.heap[g]? = some (.cells cs t fr))
 (hu:P.underlying ty=some d) (hd:(match d with|.struct _|.array _ _=>true|_=>false)=true) (hi:(P.info? ty).map (·.size)=some cs.size) :
 (results fn tmps).run P w=.ok (.tuple #[.agg cs,tmps.getD u undef]) w:=by
 rw[results_cell_tmp h,hp];simp[asAddr,Result.andThen,run_loadVar_row w g t ty cs fr d hg hu hd hi]
theorem k2q{P:Program}(t e:TypeId)(kh km:IntKind){i:TypeInfo}(ht:P.underlying t=some (.slice e))(hi:P.info? e=some i)(A:Option Addr)(n c:Nat)(j:Int)(h0:0<=j)(hc:j<=c) :
 ∀W:World,(Instr.slice t (.slice A n c) none (some (.int kh j)) (some (.int km j))).run P W=.ok (.slice A j.toNat j.toNat) W:=by
 intro W;have hel:P.elem t=e:=by simp[Program.elem,ht]
 have hu:P.underlying t=some (.slice (P.elem t)):=by rw[hel];exact ht
 have ha:(A.map fun x=>x.add 0)=A:=by cases A<;>simp[Addr.add]
 rw[run_slice_hm W t A n c hu kh km j j h0 zz1 hc,hel];simp[sizeOf,typeInfo,hi,sliced,Result.andThen,ha]
theorem kbc(a:Addr)(i j:Nat):(a.add i).add j=a.add (i+j):=by
 unfold Addr.add;by_cases hi:i=0<;>by_cases hj:j=0<;>simp[hi,hj,Nat.add_assoc]
theorem k0o{W:World}{ad:Addr}{l m:List Int}(h:ReadsInt W .u8 (some ad) l.length l)(i n:Nat)(hn:i+n<=l.length)(hm:m=(l.drop i).take n):ReadsInt W .u8 (some (ad.add i)) n m:=by
 subst hm;refine⟨by rw[List.length_take,List.length_drop];omega,by have:=h.2.1;omega,fun hp=>⟨_,rfl,fun j hj=>?_⟩⟩;obtain⟨a',e,hc⟩:=h.2.2 zz1;obtain rfl:=Option.some.inj e;rw[kbc,hc _ zz1,List.getD_eq_getElem?_getD,List.getD_eq_getElem?_getD,List.getElem?_take_of_lt hj,List.getElem?_drop]
theorem k5C{W:World}{ad:Addr}{l:List Int}(h:ReadsInt W .u8 (some ad) l.length l)(k:Nat)(hk:k<l.length){x:Int}(hx:l.getD k 0=x):W.cell? (ad.add k)=some (.int .u8 x):=by
 obtain⟨a',e,hc⟩:=h.2.2 zz1;obtain rfl:=Option.some.inj e;rw[hc k hk,hx]
def Two(w W:World):Prop:=At W w.heap.size Fr.zero/\At W (w.heap.size+1) Fr.zero/\Below w.heap.size w W
theorem Two.new(w:World):Two w ((w.alloc (.cells #[.int .u8 0,.int .u8 0,.int .u16 0,.int .u8 0,.int .u8 0,.int .u32 0] 163)).alloc (.cells #[.int .u8 0,.int .u8 0,.int .u16 0,.int .u8 0,.int .u8 0,.int .u32 0] 163)):=
 ⟨k0Z (k1H _ _) (k0f (Below.refl _ _) _),(by have:=k1H (w.alloc (.cells #[.int .u8 0,.int .u8 0,.int .u16 0,.int .u8 0,.int .u8 0,.int .u32 0] 163)) (.cells #[.int .u8 0,.int .u8 0,.int .u16 0,.int .u8 0,.int .u8 0,.int .u32 0] 163);rwa [show(w.alloc (.cells #[.int .u8 0,.int .u8 0,.int .u16 0,.int .u8 0,.int .u8 0,.int .u32 0] 163)).heap.size=w.heap.size+1 by simp]at this:((w.alloc (.cells #[.int .u8 0,.int .u8 0,.int .u16 0,.int .u8 0,.int .u8 0,.int .u32 0] 163)).alloc (.cells #[.int .u8 0,.int .u8 0,.int .u16 0,.int .u8 0,.int .u8 0,.int .u32 0] 163)).heap[w.heap.size+1]? = some (.cells #[.int .u8 0,.int .u8 0,.int .u16 0,.int .u8 0,.int .u8 0,.int .u32 0] 163)),k0f (k0f (Below.refl _ _) _) _⟩
theorem Two.below{w W W1:World}(h:Two w W)(hb:Below W.heap.size W W1):Two w W1:=⟨k0Z h.1 hb,k0Z h.2.1 hb,k0D h.2.2 h.2.2.size hb⟩
theorem Two.drew{w W:World}(h:Two w W):Two w W.drew:=h.below (Below.refl _ _).drew
theorem Two.reads{w W:World}{A:Option Addr}{l:List Int}(h:Two w W)(hr:ReadsInt w .u8 A l.length l):ReadsInt W .u8 A l.length l:=hr.below h.2.2
theorem At.free{W:World}{g:Nat}{f:Fr}(h:At W g f)(i:Nat):W.frozen? ⟨g,i,none⟩=false:=k02 h i
def Back(w:World)(f:Fr)(c:Int)(e:Ending)(w':World):Prop:=e=.returned (.tuple #[f.val,.int .u16 c])/\Below w.heap.size w w'
theorem Box.set6{W:World}{g:Nat}{k' l' s' a' b' y':Int}(h:Box W g k' l' s' a' b' y')(k l s a b y:Int):Box ((((((W.setCell ⟨g,0,none⟩ (.int .u8 k)).setCell ⟨g,1,none⟩ (.int .u8 l)).setCell ⟨g,2,none⟩ (.int .u16 s)).setCell ⟨g,3,none⟩ (.int .u8 a)).setCell ⟨g,4,none⟩ (.int .u8 b)).setCell ⟨g,5,none⟩ (.int .u32 y)) g k l s a b y:=by
 have h0:=k05 h 0 (.int .u8 k);have h1:=k05 h0 1 (.int .u8 l);have h2:=k05 h1 2 (.int .u16 s);have h3:=k05 h2 3 (.int .u8 a);have h4:=k05 h3 4 (.int .u8 b);exact k05 h4 5 (.int .u32 y)
theorem Box.far6{W:World}{g q:Nat}{k' l' s' a' b' y':Int}(h:Box W q k' l' s' a' b' y')(hne:q≠g)(k l s a b y:Int):Box ((((((W.setCell ⟨g,0,none⟩ (.int .u8 k)).setCell ⟨g,1,none⟩ (.int .u8 l)).setCell ⟨g,2,none⟩ (.int .u16 s)).setCell ⟨g,3,none⟩ (.int .u8 a)).setCell ⟨g,4,none⟩ (.int .u8 b)).setCell ⟨g,5,none⟩ (.int .u32 y)) q k' l' s' a' b' y':=
 k1d (k1d (k1d (k1d (k1d (k1d h hne _) hne _) hne _) hne _) hne _) hne _
theorem k2M{w W:World}{g:Nat}(h:Below w.heap.size w W)(hg:w.heap.size<=g)(k l s a b y:Int):Below w.heap.size w ((((((W.setCell ⟨g,0,none⟩ (.int .u8 k)).setCell ⟨g,1,none⟩ (.int .u8 l)).setCell ⟨g,2,none⟩ (.int .u16 s)).setCell ⟨g,3,none⟩ (.int .u8 a)).setCell ⟨g,4,none⟩ (.int .u8 b)).setCell ⟨g,5,none⟩ (.int .u32 y)):=
 k0x (k0x (k0x (k0x (k0x (k0x h hg) hg) hg) hg) hg) hg
theorem k15{W:World}{ad:Addr}{x:Int}{l:List Int}(h:ReadsInt W .u8 (some ad) (x :: l).length (x :: l)):W.cell? ad=some (.int .u8 x):=by
 have:=k5C h 0 zz6 rfl;simpa[Addr.add] using this
theorem k2A{W:World}{ad:Addr}{l:List Int}(h:ReadsInt W .u8 (some ad) l.length l)(k:Nat)(hk:k+1<l.length){x:Int}(hx:l.getD (k+1) 0=x):W.cell? ⟨ad.block,ad.off+(k+1),none⟩=some (.int .u8 x):=by
 have:=k5C h (k+1) hk hx;simpa[Addr.add] using this
theorem k40{w W:World}{ad:Addr}{x0 x1:Int}{l:List Int}(T:Two w W)(h:ReadsInt w .u8 (some ad) (x0 :: x1 :: l).length (x0 :: x1 :: l)) :
 Two w W/\W.cell? ad=some (.int .u8 x0)/\W.cell? ⟨ad.block,ad.off+1,none⟩=some (.int .u8 x1)/\W.frozen? ⟨w.heap.size+1,0,none⟩=false/\W.frozen? ⟨w.heap.size+1,1,none⟩=false/\W.frozen? ⟨w.heap.size+1,2,none⟩=false/\W.frozen? ⟨w.heap.size+1,3,none⟩=false/\W.frozen? ⟨w.heap.size+1,4,none⟩=false/\W.frozen? ⟨w.heap.size+1,5,none⟩=false:=
 ⟨T,k15 (T.reads h),k2A (T.reads h) 0 zz6 rfl,T.2.1.free 0,T.2.1.free 1,T.2.1.free 2,T.2.1.free 3,T.2.1.free 4,T.2.1.free 5⟩
theorem kaK{w W:World}{ad:Addr}{x0 x1:Int}{m:List Int}(T:Two w W)(h:ReadsInt w .u8 (some ad) (x0 :: x1 :: m).length (x0 :: x1 :: m))(k l s a b y:Int) :
 ((((((W.setCell ⟨w.heap.size+1,0,none⟩ (.int .u8 k)).setCell ⟨w.heap.size+1,1,none⟩ (.int .u8 l)).setCell ⟨w.heap.size+1,2,none⟩ (.int .u16 s)).setCell ⟨w.heap.size+1,3,none⟩ (.int .u8 a)).setCell ⟨w.heap.size+1,4,none⟩ (.int .u8 b)).setCell ⟨w.heap.size+1,5,none⟩ (.int .u32 y)).cell? ad=some (.int .u8 x0)/\((((((W.setCell ⟨w.heap.size+1,0,none⟩ (.int .u8 k)).setCell ⟨w.heap.size+1,1,none⟩ (.int .u8 l)).setCell ⟨w.heap.size+1,2,none⟩ (.int .u16 s)).setCell ⟨w.heap.size+1,3,none⟩ (.int .u8 a)).setCell ⟨w.heap.size+1,4,none⟩ (.int .u8 b)).setCell ⟨w.heap.size+1,5,none⟩ (.int .u32 y)).cell? ⟨ad.block,ad.off+1,none⟩=some (.int .u8 x1)/\((((((W.setCell ⟨w.heap.size+1,0,none⟩ (.int .u8 k)).setCell ⟨w.heap.size+1,1,none⟩ (.int .u8 l)).setCell ⟨w.heap.size+1,2,none⟩ (.int .u16 s)).setCell ⟨w.heap.size+1,3,none⟩ (.int .u8 a)).setCell ⟨w.heap.size+1,4,none⟩ (.int .u8 b)).setCell ⟨w.heap.size+1,5,none⟩ (.int .u32 y)).frozen? ⟨w.heap.size+1,0,none⟩=false/\((((((W.setCell ⟨w.heap.size+1,0,none⟩ (.int .u8 k)).setCell ⟨w.heap.size+1,1,none⟩ (.int .u8 l)).setCell ⟨w.heap.size+1,2,none⟩ (.int .u16 s)).setCell ⟨w.heap.size+1,3,none⟩ (.int .u8 a)).setCell ⟨w.heap.size+1,4,none⟩ (.int .u8 b)).setCell ⟨w.heap.size+1,5,none⟩ (.int .u32 y)).frozen? ⟨w.heap.size+1,1,none⟩=false/\((((((W.setCell ⟨w.heap.size+1,0,none⟩ (.int .u8 k)).setCell ⟨w.heap.size+1,1,none⟩ (.int .u8 l)).setCell ⟨w.heap.size+1,2,none⟩ (.int .u16 s)).setCell ⟨w.heap.size+1,3,none⟩ (.int .u8 a)).setCell ⟨w.heap.size+1,4,none⟩ (.int .u8 b)).setCell ⟨w.heap.size+1,5,none⟩ (.int .u32 y)).frozen? ⟨w.heap.size+1,2,none⟩=false/\((((((W.setCell ⟨w.heap.size+1,0,none⟩ (.int .u8 k)).setCell ⟨w.heap.size+1,1,none⟩ (.int .u8 l)).setCell ⟨w.heap.size+1,2,none⟩ (.int .u16 s)).setCell ⟨w.heap.size+1,3,none⟩ (.int .u8 a)).setCell ⟨w.heap.size+1,4,none⟩ (.int .u8 b)).setCell ⟨w.heap.size+1,5,none⟩ (.int .u32 y)).frozen? ⟨w.heap.size+1,3,none⟩=false/\((((((W.setCell ⟨w.heap.size+1,0,none⟩ (.int .u8 k)).setCell ⟨w.heap.size+1,1,none⟩ (.int .u8 l)).setCell ⟨w.heap.size+1,2,none⟩ (.int .u16 s)).setCell ⟨w.heap.size+1,3,none⟩ (.int .u8 a)).setCell ⟨w.heap.size+1,4,none⟩ (.int .u8 b)).setCell ⟨w.heap.size+1,5,none⟩ (.int .u32 y)).frozen? ⟨w.heap.size+1,4,none⟩=false/\((((((W.setCell ⟨w.heap.size+1,0,none⟩ (.int .u8 k)).setCell ⟨w.heap.size+1,1,none⟩ (.int .u8 l)).setCell ⟨w.heap.size+1,2,none⟩ (.int .u16 s)).setCell ⟨w.heap.size+1,3,none⟩ (.int .u8 a)).setCell ⟨w.heap.size+1,4,none⟩ (.int .u8 b)).setCell ⟨w.heap.size+1,5,none⟩ (.int .u32 y)).frozen? ⟨w.heap.size+1,5,none⟩=false:=
 have hb:=k2M T.2.2 (Nat.le_succ w.heap.size) k l s a b y;have hx:=Box.set6 T.2.1 k l s a b y
 ⟨k15 (h.below hb),k2A (h.below hb) 0 zz6 rfl,k02 hx 0,k02 hx 1,k02 hx 2,k02 hx 3,k02 hx 4,k02 hx 5⟩
def Pair(w W:World)(f:Fr):Prop:=At W w.heap.size Fr.zero/\At W (w.heap.size+1) f/\Below w.heap.size w W
theorem Two.six{w W:World}(h:Two w W)(k l s a b y:Int):Pair w ((((((W.setCell ⟨w.heap.size+1,0,none⟩ (.int .u8 k)).setCell ⟨w.heap.size+1,1,none⟩ (.int .u8 l)).setCell ⟨w.heap.size+1,2,none⟩ (.int .u16 s)).setCell ⟨w.heap.size+1,3,none⟩ (.int .u8 a)).setCell ⟨w.heap.size+1,4,none⟩ (.int .u8 b)).setCell ⟨w.heap.size+1,5,none⟩ (.int .u32 y)) ⟨k,l,s,a,b,y⟩:=
 ⟨Box.far6 h.1 zz1 k l s a b y,Box.set6 h.2.1 k l s a b y,k2M h.2.2 (Nat.le_succ w.heap.size) k l s a b y⟩
theorem Pair.below{w W W1:World}{f:Fr}(h:Pair w W f)(hb:Below W.heap.size W W1):Pair w W1 f:=⟨k0Z h.1 hb,k0Z h.2.1 hb,k0D h.2.2 h.2.2.size hb⟩
theorem Pair.drew{w W:World}{f:Fr}(h:Pair w W f):Pair w W.drew f:=h.below (Below.refl _ _).drew
theorem Pair.reads{w W:World}{f:Fr}{A:Option Addr}{l:List Int}(h:Pair w W f)(hr:ReadsInt w .u8 A l.length l):ReadsInt W .u8 A l.length l:=hr.below h.2.2
theorem Pair.three{w W:World}{k l s a' b' y':Int}(h:Pair w W ⟨k,l,s,a',b',y'⟩)(a b y:Int):Pair w (((W.setCell ⟨w.heap.size+1,3,none⟩ (.int .u8 a)).setCell ⟨w.heap.size+1,4,none⟩ (.int .u8 b)).setCell ⟨w.heap.size+1,5,none⟩ (.int .u32 y)) ⟨k,l,s,a,b,y⟩:=
 ⟨k1d (k1d (k1d h.1 (p:=⟨w.heap.size+1,3,none⟩) zz6 _) (p:=⟨w.heap.size+1,4,none⟩) zz6 _) (p:=⟨w.heap.size+1,5,none⟩) zz6 _,by
  have h3:=k05 h.2.1 3 (.int .u8 a);have h4:=k05 h3 4 (.int .u8 b);exact k05 h4 5 (.int .u32 y),k0x (k0x (k0x h.2.2 (Nat.le_succ w.heap.size)) (Nat.le_succ w.heap.size)) (Nat.le_succ w.heap.size)⟩
theorem k85{w W:World}{ad:Addr}{l:List Int}{x4 x5:Int}{cs:Array Value}(hb:Below w.heap.size w W)(hx:W.heap[w.heap.size+1]? = some (.cells cs 163 (0,0)))(h:ReadsInt w .u8 (some ad) l.length l)(hl:12<=l.length)(e4:l.getD 4 0=x4)(e5:l.getD 5 0=x5):W.cell? ⟨ad.block,ad.off+4,none⟩=some (.int .u8 x4)/\W.cell? ⟨ad.block,ad.off+5,none⟩=some (.int .u8 x5)/\W.frozen? ⟨w.heap.size+1,3,none⟩=false/\W.frozen? ⟨w.heap.size+1,4,none⟩=false/\W.frozen? ⟨w.heap.size+1,5,none⟩=false:=
 ⟨k2A (h.below hb) 3 zz1 e4,k2A (h.below hb) 4 zz1 e5,k02 hx 3,k02 hx 4,k02 hx 5⟩
theorem k3H{w W:World}{ad:Addr}{l:List Int}{x4 x5:Int}{f:Fr}(P:Pair w W f)(h:ReadsInt w .u8 (some ad) l.length l)(hl:12<=l.length)(e4:l.getD 4 0=x4)(e5:l.getD 5 0=x5):W.cell? ⟨ad.block,ad.off+4,none⟩=some (.int .u8 x4)/\W.cell? ⟨ad.block,ad.off+5,none⟩=some (.int .u8 x5)/\W.frozen? ⟨w.heap.size+1,3,none⟩=false/\W.frozen? ⟨w.heap.size+1,4,none⟩=false/\W.frozen? ⟨w.heap.size+1,5,none⟩=false:=
 k85 P.2.2 P.2.1 h hl e4 e5
theorem k9K{w W:World}{ad:Addr}{l:List Int}{x4 x5:Int}{f:Fr}(P:Pair w W f)(h:ReadsInt w .u8 (some ad) l.length l)(hl:12<=l.length)(e4:l.getD 4 0=x4)(e5:l.getD 5 0=x5)(a:Int):(W.setCell ⟨w.heap.size+1,3,none⟩ (.int .u8 a)).cell? ⟨ad.block,ad.off+4,none⟩=some (.int .u8 x4)/\(W.setCell ⟨w.heap.size+1,3,none⟩ (.int .u8 a)).cell? ⟨ad.block,ad.off+5,none⟩=some (.int .u8 x5)/\(W.setCell ⟨w.heap.size+1,3,none⟩ (.int .u8 a)).frozen? ⟨w.heap.size+1,3,none⟩=false/\(W.setCell ⟨w.heap.size+1,3,none⟩ (.int .u8 a)).frozen? ⟨w.heap.size+1,4,none⟩=false/\(W.setCell ⟨w.heap.size+1,3,none⟩ (.int .u8 a)).frozen? ⟨w.heap.size+1,5,none⟩=false:=
 k85 (k0x P.2.2 (Nat.le_succ w.heap.size)) (k05 P.2.1 3 (.int .u8 a)) h hl e4 e5
theorem kai{w W:World}{ad:Addr}{l:List Int}{x4 x5:Int}{f:Fr}(P:Pair w W f)(h:ReadsInt w .u8 (some ad) l.length l)(hl:12<=l.length)(e4:l.getD 4 0=x4)(e5:l.getD 5 0=x5)(a b:Int):((W.setCell ⟨w.heap.size+1,3,none⟩ (.int .u8 a)).setCell ⟨w.heap.size+1,4,none⟩ (.int .u8 b)).cell? ⟨ad.block,ad.off+4,none⟩=some (.int .u8 x4)/\((W.setCell ⟨w.heap.size+1,3,none⟩ (.int .u8 a)).setCell ⟨w.heap.size+1,4,none⟩ (.int .u8 b)).cell? ⟨ad.block,ad.off+5,none⟩=some (.int .u8 x5)/\((W.setCell ⟨w.heap.size+1,3,none⟩ (.int .u8 a)).setCell ⟨w.heap.size+1,4,none⟩ (.int .u8 b)).frozen? ⟨w.heap.size+1,3,none⟩=false/\((W.setCell ⟨w.heap.size+1,3,none⟩ (.int .u8 a)).setCell ⟨w.heap.size+1,4,none⟩ (.int .u8 b)).frozen? ⟨w.heap.size+1,4,none⟩=false/\((W.setCell ⟨w.heap.size+1,3,none⟩ (.int .u8 a)).setCell ⟨w.heap.size+1,4,none⟩ (.int .u8 b)).frozen? ⟨w.heap.size+1,5,none⟩=false:=
 k85 (k0x (k0x P.2.2 (Nat.le_succ w.heap.size)) (Nat.le_succ w.heap.size)) (k05 (k05 P.2.1 3 (.int .u8 a)) 4 (.int .u8 b)) h hl e4 e5
theorem k96{w W:World}{ad:Addr}{l:List Int}{x4 x5:Int}{f:Fr}(P:Pair w W f)(h:ReadsInt w .u8 (some ad) l.length l)(hl:12<=l.length)(e4:l.getD 4 0=x4)(e5:l.getD 5 0=x5)(a b y:Int):(((W.setCell ⟨w.heap.size+1,3,none⟩ (.int .u8 a)).setCell ⟨w.heap.size+1,4,none⟩ (.int .u8 b)).setCell ⟨w.heap.size+1,5,none⟩ (.int .u32 y)).cell? ⟨ad.block,ad.off+4,none⟩=some (.int .u8 x4)/\(((W.setCell ⟨w.heap.size+1,3,none⟩ (.int .u8 a)).setCell ⟨w.heap.size+1,4,none⟩ (.int .u8 b)).setCell ⟨w.heap.size+1,5,none⟩ (.int .u32 y)).cell? ⟨ad.block,ad.off+5,none⟩=some (.int .u8 x5)/\(((W.setCell ⟨w.heap.size+1,3,none⟩ (.int .u8 a)).setCell ⟨w.heap.size+1,4,none⟩ (.int .u8 b)).setCell ⟨w.heap.size+1,5,none⟩ (.int .u32 y)).frozen? ⟨w.heap.size+1,3,none⟩=false/\(((W.setCell ⟨w.heap.size+1,3,none⟩ (.int .u8 a)).setCell ⟨w.heap.size+1,4,none⟩ (.int .u8 b)).setCell ⟨w.heap.size+1,5,none⟩ (.int .u32 y)).frozen? ⟨w.heap.size+1,4,none⟩=false/\(((W.setCell ⟨w.heap.size+1,3,none⟩ (.int .u8 a)).setCell ⟨w.heap.size+1,4,none⟩ (.int .u8 b)).setCell ⟨w.heap.size+1,5,none⟩ (.int .u32 y)).frozen? ⟨w.heap.size+1,5,none⟩=false:=
 k85 (k0x (k0x (k0x P.2.2 (Nat.le_succ w.heap.size)) (Nat.le_succ w.heap.size)) (Nat.le_succ w.heap.size)) (k05 (k05 (k05 P.2.1 3 (.int .u8 a)) 4 (.int .u8 b)) 5 (.int .u32 y)) h hl e4 e5
theorem k3T:∃i,Tryz.prog.info? 5=some i/\i.size=1:=by
 obtain⟨i,hi,_,hz1,_⟩:=info_parts kcs;exact⟨i,hi,hz1⟩
theorem ka1(A:Option Addr)(n c:Nat)(w:World)(h6:¬n=6)(h12:¬n=12)(hn:n<=9223372036854775807) :
 Calls Tryz.prog 96 #[.slice A n c] w (Back w Fr.zero 30):=by
 have e6:(((n:Int)) != 6)=true:=bne_iff_ne.mpr zz1;have e12:(((n:Int)) != 12)=true:=bne_iff_ne.mpr zz1;go_enter Tryz.func96,Tryz.ntmps96
 go_wp2_with fail
 refine bodyPost_ret (k0K rfl _ _ w.heap.size 163 _ (0,0) _ (by rfl) (k0Z (k1H _ _) (k0f (Below.refl _ _) _)) Tryz.underlying163 rfl zz2) rfl ?_;exact⟨rfl,k0f (k0f (Below.refl _ _) _) _⟩
theorem kay(ad:Addr)(c:Nat)(x0 x1 x2 x3 x4 x5:Int)(w:World)(hr:ReadsInt w .u8 (some ad) 6 [x0,x1,x2,x3,x4,x5])(hc:6<=c)(g0:0<=x0/\x0<=255)(g1:0<=x1/\x1<=255)(g2:0<=x2/\x2<=255)(g3:0<=x3/\x3<=255)(g4:0<=x4/\x4<=255)(g5:0<=x5/\x5<=255)(hs:¬crcI [x0,x1,x2,x3]=x4*256+x5):Calls Tryz.prog 96 #[.slice (some ad) 6 c] w (Back w Fr.zero 30):=by
 have H0:=Ac (ReadsInt w .u8 (some ad) ([x0,x1,x2,x3,x4,x5]:List Int).length [x0,x1,x2,x3,x4,x5]) (hr);have HO:=Ac (Oct [x0,x1,x2,x3,x4,x5]) (Oct.cons g0.1 g0.2 (Oct.cons g1.1 g1.2 (Oct.cons g2.1 g2.2 (Oct.cons g3.1 g3.2 (Oct.cons g4.1 g4.2 (Oct.cons g5.1 g5.2 (Oct.nil)))))));have HM:=Ac (Oct [x0,x1,x2,x3]) (Oct.cons g0.1 g0.2 (Oct.cons g1.1 g1.2 (Oct.cons g2.1 g2.2 (Oct.cons g3.1 g3.2 (Oct.nil)))));have HC:=Ab hc;have G0:=Ab g4;have G1:=Ab g5;obtain⟨i5,hi5,hs5⟩:=k3T;have cA:∀W:World,(Instr.slice 22 (.slice (some ad) 6 c) none (some (.int .i64 4)) (some (.int .i64 4))).run Tryz.prog W=.ok (.slice (some ad) 4 4) W:=fun W=>k2q 22 5 .i64 .i64 Tryz.underlying22 hi5 _ _ _ 4 zz1 zz1 W
 have cB:∀W:World,(Instr.slice 22 (.slice (some ad) 6 c) (some (.int .i64 4)) none none).run Tryz.prog W=.ok (.slice (some (ad.add 4)) 2 (c-4)) W:=fun W=>by
  rw[k0P 22 5 .i64 Tryz.underlying22 hi5 1 hs5 (some ad) 6 c 4 zz1 zz1 W,if_neg zz1];rfl
 have ES:(crcI [x0,x1,x2,x3] != x4*256+x5)=true:=bne_iff_ne.mpr hs;clear hs;have W1:IntKind.i64.wrap (((6:Nat):Int)-2)=4:=zz7
 have W2:IntKind.i64.wrap (6-2)=4:=zz7
 have WC:IntKind.u32.wrap (crcI [x0,x1,x2,x3])=crcI [x0,x1,x2,x3]:=zz14
 have W3:IntKind.i64.wrap 4=4:=zz7
 have I1:(4:Int)<=(c:Int):=zz1
 have ER:∀x y:Int,(((crcI [x0,x1,x2,x3]:Int):Int) != (x4*256+x5))=true\/True:=fun _ _=>.inr trivial
 have CR:=k0y HM.1;clear hc hi5 hs5 hr ER;go_enter Tryz.func96,Tryz.ntmps96
 go_wp2_with fail
 have T0:=Ab (Two.new w);generalize ((w.alloc (.cells #[.int .u8 0,.int .u8 0,.int .u16 0,.int .u8 0,.int .u8 0,.int .u32 0] 163)).alloc (.cells #[.int .u8 0,.int .u8 0,.int .u16 0,.int .u8 0,.int .u8 0,.int .u32 0] 163))=w2 at T0 ⊢
 go_region_held3 (fun W=>Two w W) (first|exact T0.1.drew|exact T0.1|assumption|exact Two.below zz40 hbs)
  (first|(go_at_call 119;refine(k1h (some ad) 4 [x0,x1,x2,x3] _ (k0o (Two.reads zz40 H0.1) 0 4 zz6 rfl) HM.1).mono ?_;rintro e wn ⟨rfl,hbs⟩)|(go_at_call 133;refine(k41 (ad.add 4) (c-4) x4 x5 _ (k0o (Two.reads zz40 H0.1) 4 2 zz6 rfl) zz43 G0.1.1 G0.1.2 G1.1.1 G1.1.2).mono ?_;rintro e wn ⟨rfl,hbs⟩))
 rename_i hHeld
 have T3:=Ab hHeld;clear hHeld;obtain⟨c0,c1,c2,c3,c4,c5⟩:=T3.1.1.cells;obtain⟨d0,d1,d2,d3,d4,d5⟩:=T3.1.2.1.cells;have f0:=T3.1.1.free 0;have f1:=T3.1.1.free 1;have f2:=T3.1.1.free 2;have f3:=T3.1.1.free 3;have f4:=T3.1.1.free 4;have f5:=T3.1.1.free 5
 go_wp2_with fail
 refine bodyPost_ret (k0K rfl _ _ w.heap.size 163 _ (0,0) _ (by rfl) (Box.set6 T3.1.1 _ _ _ _ _ _) Tryz.underlying163 rfl zz2) rfl ?_;exact⟨rfl,k2M T3.1.2.2 (Nat.le_refl _) _ _ _ _ _ _⟩
theorem k9s(ad:Addr)(c:Nat)(x0 x1 x2 x3 x4 x5:Int)(w:World)(hr:ReadsInt w .u8 (some ad) 6 [x0,x1,x2,x3,x4,x5])(hc:6<=c)(g0:0<=x0/\x0<=255)(g1:0<=x1/\x1<=255)(g2:0<=x2/\x2<=255)(g3:0<=x3/\x3<=255)(g4:0<=x4/\x4<=255)(g5:0<=x5/\x5<=255)(hs:crcI [x0,x1,x2,x3]=x4*256+x5)(hx:x0=1):Calls Tryz.prog 96 #[.slice (some ad) 6 c] w (Back w Fr.zero 30):=by
 have H0:=Ac (ReadsInt w .u8 (some ad) ([x0,x1,x2,x3,x4,x5]:List Int).length [x0,x1,x2,x3,x4,x5]) (hr);have HO:=Ac (Oct [x0,x1,x2,x3,x4,x5]) (Oct.cons g0.1 g0.2 (Oct.cons g1.1 g1.2 (Oct.cons g2.1 g2.2 (Oct.cons g3.1 g3.2 (Oct.cons g4.1 g4.2 (Oct.cons g5.1 g5.2 (Oct.nil)))))));have HM:=Ac (Oct [x0,x1,x2,x3]) (Oct.cons g0.1 g0.2 (Oct.cons g1.1 g1.2 (Oct.cons g2.1 g2.2 (Oct.cons g3.1 g3.2 (Oct.nil)))));have HC:=Ab hc;have G0:=Ab g4;have G1:=Ab g5;obtain⟨i5,hi5,hs5⟩:=k3T;have cA:∀W:World,(Instr.slice 22 (.slice (some ad) 6 c) none (some (.int .i64 4)) (some (.int .i64 4))).run Tryz.prog W=.ok (.slice (some ad) 4 4) W:=fun W=>k2q 22 5 .i64 .i64 Tryz.underlying22 hi5 _ _ _ 4 zz1 zz1 W
 have cB:∀W:World,(Instr.slice 22 (.slice (some ad) 6 c) (some (.int .i64 4)) none none).run Tryz.prog W=.ok (.slice (some (ad.add 4)) 2 (c-4)) W:=fun W=>by
  rw[k0P 22 5 .i64 Tryz.underlying22 hi5 1 hs5 (some ad) 6 c 4 zz1 zz1 W,if_neg zz1];rfl
 have ES:(crcI [x0,x1,x2,x3] != x4*256+x5)=false:=bne_eq_false_iff_eq.mpr hs;clear hs;have EX:(x0 == 1)=true:=beq_iff_eq.mpr hx;clear hx;have W1:IntKind.i64.wrap (((6:Nat):Int)-2)=4:=zz7
 have W2:IntKind.i64.wrap (6-2)=4:=zz7
 have WC:IntKind.u32.wrap (crcI [x0,x1,x2,x3])=crcI [x0,x1,x2,x3]:=zz14
 have W3:IntKind.i64.wrap 4=4:=zz7
 have I1:(4:Int)<=(c:Int):=zz1
 have ER:∀x y:Int,(((crcI [x0,x1,x2,x3]:Int):Int) != (x4*256+x5))=true\/True:=fun _ _=>.inr trivial
 have CR:=k0y HM.1;clear hc hi5 hs5 hr ER;go_enter Tryz.func96,Tryz.ntmps96
 go_wp2_with fail
 have T0:=Ab (Two.new w);generalize ((w.alloc (.cells #[.int .u8 0,.int .u8 0,.int .u16 0,.int .u8 0,.int .u8 0,.int .u32 0] 163)).alloc (.cells #[.int .u8 0,.int .u8 0,.int .u16 0,.int .u8 0,.int .u8 0,.int .u32 0] 163))=w2 at T0 ⊢
 go_region_held3 (fun W=>Two w W) (first|exact T0.1.drew|exact T0.1|assumption|exact Two.below zz40 hbs)
  (first|(go_at_call 119;refine(k1h (some ad) 4 [x0,x1,x2,x3] _ (k0o (Two.reads zz40 H0.1) 0 4 zz6 rfl) HM.1).mono ?_;rintro e wn ⟨rfl,hbs⟩)|(go_at_call 133;refine(k41 (ad.add 4) (c-4) x4 x5 _ (k0o (Two.reads zz40 H0.1) 4 2 zz6 rfl) zz43 G0.1.1 G0.1.2 G1.1.1 G1.1.2).mono ?_;rintro e wn ⟨rfl,hbs⟩))
 rename_i hHeld
 have T3:=Ab hHeld;clear hHeld;obtain⟨c0,c1,c2,c3,c4,c5⟩:=T3.1.1.cells;obtain⟨d0,d1,d2,d3,d4,d5⟩:=T3.1.2.1.cells;have f0:=T3.1.1.free 0;have f1:=T3.1.1.free 1;have f2:=T3.1.1.free 2;have f3:=T3.1.1.free 3;have f4:=T3.1.1.free 4;have f5:=T3.1.1.free 5;have e0:=k15 (Two.reads T3.1 H0.1)
 go_wp2_with fail
 refine bodyPost_ret (k0K rfl _ _ w.heap.size 163 _ (0,0) _ (by rfl) (Box.set6 T3.1.1 _ _ _ _ _ _) Tryz.underlying163 rfl zz2) rfl ?_;exact⟨rfl,k2M T3.1.2.2 (Nat.le_refl _) _ _ _ _ _ _⟩
theorem k9g(ad:Addr)(c:Nat)(x0 x1 x2 x3 x4 x5 x6 x7 x8 x9 x10 x11:Int)(w:World)(hr:ReadsInt w .u8 (some ad) 12 [x0,x1,x2,x3,x4,x5,x6,x7,x8,x9,x10,x11])(hc:12<=c)(g0:0<=x0/\x0<=255)(g1:0<=x1/\x1<=255)(g2:0<=x2/\x2<=255)(g3:0<=x3/\x3<=255)(g4:0<=x4/\x4<=255)(g5:0<=x5/\x5<=255)(g6:0<=x6/\x6<=255)(g7:0<=x7/\x7<=255)(g8:0<=x8/\x8<=255)(g9:0<=x9/\x9<=255)(g10:0<=x10/\x10<=255)(g11:0<=x11/\x11<=255)(hs:¬crcI [x0,x1,x2,x3,x4,x5,x6,x7,x8,x9]=x10*256+x11):Calls Tryz.prog 96 #[.slice (some ad) 12 c] w (Back w Fr.zero 30):=by
 have H0:=Ac (ReadsInt w .u8 (some ad) ([x0,x1,x2,x3,x4,x5,x6,x7,x8,x9,x10,x11]:List Int).length [x0,x1,x2,x3,x4,x5,x6,x7,x8,x9,x10,x11]) (hr);have HO:=Ac (Oct [x0,x1,x2,x3,x4,x5,x6,x7,x8,x9,x10,x11]) (Oct.cons g0.1 g0.2 (Oct.cons g1.1 g1.2 (Oct.cons g2.1 g2.2 (Oct.cons g3.1 g3.2 (Oct.cons g4.1 g4.2 (Oct.cons g5.1 g5.2 (Oct.cons g6.1 g6.2 (Oct.cons g7.1 g7.2 (Oct.cons g8.1 g8.2 (Oct.cons g9.1 g9.2 (Oct.cons g10.1 g10.2 (Oct.cons g11.1 g11.2 (Oct.nil)))))))))))));have HM:=Ac (Oct [x0,x1,x2,x3,x4,x5,x6,x7,x8,x9]) (Oct.cons g0.1 g0.2 (Oct.cons g1.1 g1.2 (Oct.cons g2.1 g2.2 (Oct.cons g3.1 g3.2 (Oct.cons g4.1 g4.2 (Oct.cons g5.1 g5.2 (Oct.cons g6.1 g6.2 (Oct.cons g7.1 g7.2 (Oct.cons g8.1 g8.2 (Oct.cons g9.1 g9.2 (Oct.nil)))))))))));have HC:=Ab hc;have G0:=Ab g10;have G1:=Ab g11;obtain⟨i5,hi5,hs5⟩:=k3T;have cA:∀W:World,(Instr.slice 22 (.slice (some ad) 12 c) none (some (.int .i64 10)) (some (.int .i64 10))).run Tryz.prog W=.ok (.slice (some ad) 10 10) W:=fun W=>k2q 22 5 .i64 .i64 Tryz.underlying22 hi5 _ _ _ 10 zz1 zz1 W
 have cB:∀W:World,(Instr.slice 22 (.slice (some ad) 12 c) (some (.int .i64 10)) none none).run Tryz.prog W=.ok (.slice (some (ad.add 10)) 2 (c-10)) W:=fun W=>by
  rw[k0P 22 5 .i64 Tryz.underlying22 hi5 1 hs5 (some ad) 12 c 10 zz1 zz1 W,if_neg zz1];rfl
 have ES:(crcI [x0,x1,x2,x3,x4,x5,x6,x7,x8,x9] != x10*256+x11)=true:=bne_iff_ne.mpr hs;clear hs;have W1:IntKind.i64.wrap (((12:Nat):Int)-2)=10:=zz7
 have W2:IntKind.i64.wrap (12-2)=10:=zz7
 have WC:IntKind.u32.wrap (crcI [x0,x1,x2,x3,x4,x5,x6,x7,x8,x9])=crcI [x0,x1,x2,x3,x4,x5,x6,x7,x8,x9]:=zz14
 have W3:IntKind.i64.wrap 10=10:=zz7
 have I1:(10:Int)<=(c:Int):=zz1
 have ER:∀x y:Int,(((crcI [x0,x1,x2,x3,x4,x5,x6,x7,x8,x9]:Int):Int) != (x10*256+x11))=true\/True:=fun _ _=>.inr trivial
 have CR:=k0y HM.1;clear hc hi5 hs5 hr ER;go_enter Tryz.func96,Tryz.ntmps96
 go_wp2_with fail
 have T0:=Ab (Two.new w);generalize ((w.alloc (.cells #[.int .u8 0,.int .u8 0,.int .u16 0,.int .u8 0,.int .u8 0,.int .u32 0] 163)).alloc (.cells #[.int .u8 0,.int .u8 0,.int .u16 0,.int .u8 0,.int .u8 0,.int .u32 0] 163))=w2 at T0 ⊢
 go_region_held3 (fun W=>Two w W) (first|exact T0.1.drew|exact T0.1|assumption|exact Two.below zz40 hbs)
  (first|(go_at_call 119;refine(k1h (some ad) 10 [x0,x1,x2,x3,x4,x5,x6,x7,x8,x9] _ (k0o (Two.reads zz40 H0.1) 0 10 zz6 rfl) HM.1).mono ?_;rintro e wn ⟨rfl,hbs⟩)|(go_at_call 133;refine(k41 (ad.add 10) (c-10) x10 x11 _ (k0o (Two.reads zz40 H0.1) 10 2 zz6 rfl) zz43 G0.1.1 G0.1.2 G1.1.1 G1.1.2).mono ?_;rintro e wn ⟨rfl,hbs⟩))
 rename_i hHeld
 have T3:=Ab hHeld;clear hHeld;obtain⟨c0,c1,c2,c3,c4,c5⟩:=T3.1.1.cells;obtain⟨d0,d1,d2,d3,d4,d5⟩:=T3.1.2.1.cells;have f0:=T3.1.1.free 0;have f1:=T3.1.1.free 1;have f2:=T3.1.1.free 2;have f3:=T3.1.1.free 3;have f4:=T3.1.1.free 4;have f5:=T3.1.1.free 5
 go_wp2_with fail
 refine bodyPost_ret (k0K rfl _ _ w.heap.size 163 _ (0,0) _ (by rfl) (Box.set6 T3.1.1 _ _ _ _ _ _) Tryz.underlying163 rfl zz2) rfl ?_;exact⟨rfl,k2M T3.1.2.2 (Nat.le_refl _) _ _ _ _ _ _⟩
theorem k8Q(ad:Addr)(c:Nat)(x0 x1 x2 x3 x4 x5 x6 x7 x8 x9 x10 x11:Int)(w:World)(hr:ReadsInt w .u8 (some ad) 12 [x0,x1,x2,x3,x4,x5,x6,x7,x8,x9,x10,x11])(hc:12<=c)(g0:0<=x0/\x0<=255)(g1:0<=x1/\x1<=255)(g2:0<=x2/\x2<=255)(g3:0<=x3/\x3<=255)(g4:0<=x4/\x4<=255)(g5:0<=x5/\x5<=255)(g6:0<=x6/\x6<=255)(g7:0<=x7/\x7<=255)(g8:0<=x8/\x8<=255)(g9:0<=x9/\x9<=255)(g10:0<=x10/\x10<=255)(g11:0<=x11/\x11<=255)(hs:crcI [x0,x1,x2,x3,x4,x5,x6,x7,x8,x9]=x10*256+x11)(hx:¬x0=1):Calls Tryz.prog 96 #[.slice (some ad) 12 c] w (Back w Fr.zero 30):=by
 have H0:=Ac (ReadsInt w .u8 (some ad) ([x0,x1,x2,x3,x4,x5,x6,x7,x8,x9,x10,x11]:List Int).length [x0,x1,x2,x3,x4,x5,x6,x7,x8,x9,x10,x11]) (hr);have HO:=Ac (Oct [x0,x1,x2,x3,x4,x5,x6,x7,x8,x9,x10,x11]) (Oct.cons g0.1 g0.2 (Oct.cons g1.1 g1.2 (Oct.cons g2.1 g2.2 (Oct.cons g3.1 g3.2 (Oct.cons g4.1 g4.2 (Oct.cons g5.1 g5.2 (Oct.cons g6.1 g6.2 (Oct.cons g7.1 g7.2 (Oct.cons g8.1 g8.2 (Oct.cons g9.1 g9.2 (Oct.cons g10.1 g10.2 (Oct.cons g11.1 g11.2 (Oct.nil)))))))))))));have HM:=Ac (Oct [x0,x1,x2,x3,x4,x5,x6,x7,x8,x9]) (Oct.cons g0.1 g0.2 (Oct.cons g1.1 g1.2 (Oct.cons g2.1 g2.2 (Oct.cons g3.1 g3.2 (Oct.cons g4.1 g4.2 (Oct.cons g5.1 g5.2 (Oct.cons g6.1 g6.2 (Oct.cons g7.1 g7.2 (Oct.cons g8.1 g8.2 (Oct.cons g9.1 g9.2 (Oct.nil)))))))))));have HC:=Ab hc;have G0:=Ab g10;have G1:=Ab g11;obtain⟨i5,hi5,hs5⟩:=k3T;have cA:∀W:World,(Instr.slice 22 (.slice (some ad) 12 c) none (some (.int .i64 10)) (some (.int .i64 10))).run Tryz.prog W=.ok (.slice (some ad) 10 10) W:=fun W=>k2q 22 5 .i64 .i64 Tryz.underlying22 hi5 _ _ _ 10 zz1 zz1 W
 have cB:∀W:World,(Instr.slice 22 (.slice (some ad) 12 c) (some (.int .i64 10)) none none).run Tryz.prog W=.ok (.slice (some (ad.add 10)) 2 (c-10)) W:=fun W=>by
  rw[k0P 22 5 .i64 Tryz.underlying22 hi5 1 hs5 (some ad) 12 c 10 zz1 zz1 W,if_neg zz1];rfl
 have ES:(crcI [x0,x1,x2,x3,x4,x5,x6,x7,x8,x9] != x10*256+x11)=false:=bne_eq_false_iff_eq.mpr hs;clear hs;have EX:(x0 == 1)=false:=beq_eq_false_iff_ne.mpr hx;clear hx;have W1:IntKind.i64.wrap (((12:Nat):Int)-2)=10:=zz7
 have W2:IntKind.i64.wrap (12-2)=10:=zz7
 have WC:IntKind.u32.wrap (crcI [x0,x1,x2,x3,x4,x5,x6,x7,x8,x9])=crcI [x0,x1,x2,x3,x4,x5,x6,x7,x8,x9]:=zz14
 have W3:IntKind.i64.wrap 10=10:=zz7
 have I1:(10:Int)<=(c:Int):=zz1
 have ER:∀x y:Int,(((crcI [x0,x1,x2,x3,x4,x5,x6,x7,x8,x9]:Int):Int) != (x10*256+x11))=true\/True:=fun _ _=>.inr trivial
 have CR:=k0y HM.1;clear hc hi5 hs5 hr ER;go_enter Tryz.func96,Tryz.ntmps96
 go_wp2_with fail
 have T0:=Ab (Two.new w);generalize ((w.alloc (.cells #[.int .u8 0,.int .u8 0,.int .u16 0,.int .u8 0,.int .u8 0,.int .u32 0] 163)).alloc (.cells #[.int .u8 0,.int .u8 0,.int .u16 0,.int .u8 0,.int .u8 0,.int .u32 0] 163))=w2 at T0 ⊢
 go_region_held3 (fun W=>Two w W) (first|exact T0.1.drew|exact T0.1|assumption|exact Two.below zz40 hbs)
  (first|(go_at_call 119;refine(k1h (some ad) 10 [x0,x1,x2,x3,x4,x5,x6,x7,x8,x9] _ (k0o (Two.reads zz40 H0.1) 0 10 zz6 rfl) HM.1).mono ?_;rintro e wn ⟨rfl,hbs⟩)|(go_at_call 133;refine(k41 (ad.add 10) (c-10) x10 x11 _ (k0o (Two.reads zz40 H0.1) 10 2 zz6 rfl) zz43 G0.1.1 G0.1.2 G1.1.1 G1.1.2).mono ?_;rintro e wn ⟨rfl,hbs⟩))
 rename_i hHeld
 have T3:=Ab hHeld;clear hHeld;obtain⟨c0,c1,c2,c3,c4,c5⟩:=T3.1.1.cells;obtain⟨d0,d1,d2,d3,d4,d5⟩:=T3.1.2.1.cells;have f0:=T3.1.1.free 0;have f1:=T3.1.1.free 1;have f2:=T3.1.1.free 2;have f3:=T3.1.1.free 3;have f4:=T3.1.1.free 4;have f5:=T3.1.1.free 5;have e0:=k15 (Two.reads T3.1 H0.1)
 go_wp2_with fail
 refine bodyPost_ret (k0K rfl _ _ w.heap.size 163 _ (0,0) _ (by rfl) (Box.set6 T3.1.1 _ _ _ _ _ _) Tryz.underlying163 rfl zz2) rfl ?_;exact⟨rfl,k2M T3.1.2.2 (Nat.le_refl _) _ _ _ _ _ _⟩
theorem kcL(ad:Addr)(c:Nat)(x0 x1 x2 x3 x4 x5:Int)(w:World)(hr:ReadsInt w .u8 (some ad) 6 [x0,x1,x2,x3,x4,x5])(hc:6<=c)(g0:0<=x0/\x0<=255)(g1:0<=x1/\x1<=255)(g2:0<=x2/\x2<=255)(g3:0<=x3/\x3<=255)(g4:0<=x4/\x4<=255)(g5:0<=x5/\x5<=255)(hs:crcI [x0,x1,x2,x3]=x4*256+x5)(hx:¬x0=1)(hf:Wire.sound x0 x1 0 0 0=true):Calls Tryz.prog 96 #[.slice (some ad) 6 c] w (Back w (Fr.mk x0 x1 (x2*256+x3) 0 0 0) 0):=by
 have H0:=Ac (ReadsInt w .u8 (some ad) ([x0,x1,x2,x3,x4,x5]:List Int).length [x0,x1,x2,x3,x4,x5]) (hr);have HO:=Ac (Oct [x0,x1,x2,x3,x4,x5]) (Oct.cons g0.1 g0.2 (Oct.cons g1.1 g1.2 (Oct.cons g2.1 g2.2 (Oct.cons g3.1 g3.2 (Oct.cons g4.1 g4.2 (Oct.cons g5.1 g5.2 (Oct.nil)))))));have HM:=Ac (Oct [x0,x1,x2,x3]) (Oct.cons g0.1 g0.2 (Oct.cons g1.1 g1.2 (Oct.cons g2.1 g2.2 (Oct.cons g3.1 g3.2 (Oct.nil)))));have HC:=Ab hc;have G0:=Ab g4;have G1:=Ab g5;obtain⟨i5,hi5,hs5⟩:=k3T;have cA:∀W:World,(Instr.slice 22 (.slice (some ad) 6 c) none (some (.int .i64 4)) (some (.int .i64 4))).run Tryz.prog W=.ok (.slice (some ad) 4 4) W:=fun W=>k2q 22 5 .i64 .i64 Tryz.underlying22 hi5 _ _ _ 4 zz1 zz1 W
 have cB:∀W:World,(Instr.slice 22 (.slice (some ad) 6 c) (some (.int .i64 4)) none none).run Tryz.prog W=.ok (.slice (some (ad.add 4)) 2 (c-4)) W:=fun W=>by
  rw[k0P 22 5 .i64 Tryz.underlying22 hi5 1 hs5 (some ad) 6 c 4 zz1 zz1 W,if_neg zz1];rfl
 have ES:(crcI [x0,x1,x2,x3] != x4*256+x5)=false:=bne_eq_false_iff_eq.mpr hs;clear hs;have EX:(x0 == 1)=false:=beq_eq_false_iff_ne.mpr hx;clear hx;have SF:=Ab hf;clear hf;have WS:IntKind.u16.wrap (x2*256+x3)=x2*256+x3:=by rw[w16];omega
 have G2:=Ab g2;have G3:=Ab g3;have cC:∀W:World,(Instr.slice 22 (.slice (some ad) 6 c) (some (.int .i64 2)) (some (.int .i64 4)) none).run Tryz.prog W=.ok (.slice (some (ad.add 2)) 2 (c-2)) W:=fun W=>by
  rw[k3s 22 5 .i64 .i64 Tryz.underlying22 hi5 1 hs5 (some ad) 6 c 2 4 zz1 zz1 zz1 zz1 W,if_neg zz1];rfl
 have W1:IntKind.i64.wrap (((6:Nat):Int)-2)=4:=zz7
 have W2:IntKind.i64.wrap (6-2)=4:=zz7
 have WC:IntKind.u32.wrap (crcI [x0,x1,x2,x3])=crcI [x0,x1,x2,x3]:=zz14
 have W3:IntKind.i64.wrap 4=4:=zz7
 have I1:(4:Int)<=(c:Int):=zz1
 have ER:∀x y:Int,(((crcI [x0,x1,x2,x3]:Int):Int) != (x4*256+x5))=true\/True:=fun _ _=>.inr trivial
 have CR:=k0y HM.1;clear hc hi5 hs5 hr ER;go_enter Tryz.func96,Tryz.ntmps96
 go_wp2_with fail
 have T0:=Ab (Two.new w);generalize ((w.alloc (.cells #[.int .u8 0,.int .u8 0,.int .u16 0,.int .u8 0,.int .u8 0,.int .u32 0] 163)).alloc (.cells #[.int .u8 0,.int .u8 0,.int .u16 0,.int .u8 0,.int .u8 0,.int .u32 0] 163))=w2 at T0 ⊢
 go_region_held3 (fun W=>Two w W) (first|exact T0.1.drew|exact T0.1|assumption|exact Two.below zz40 hbs)
  (first|(go_at_call 119;refine(k1h (some ad) 4 [x0,x1,x2,x3] _ (k0o (Two.reads zz40 H0.1) 0 4 zz6 rfl) HM.1).mono ?_;rintro e wn ⟨rfl,hbs⟩)|(go_at_call 133;refine(k41 (ad.add 4) (c-4) x4 x5 _ (k0o (Two.reads zz40 H0.1) 4 2 zz6 rfl) zz43 G0.1.1 G0.1.2 G1.1.1 G1.1.2).mono ?_;rintro e wn ⟨rfl,hbs⟩))
 rename_i hHeld
 have T3:=Ab hHeld;clear hHeld;have e0:=k15 (Two.reads T3.1 H0.1)
 go_wp2_with fail
 clear e0
 go_region_held3 (fun W=>W.cell? ad=some (.int .u8 x0)/\W.cell? ⟨ad.block,ad.off+1,none⟩=some (.int .u8 x1)/\W.frozen? ⟨w.heap.size+1,0,none⟩=false/\W.frozen? ⟨w.heap.size+1,1,none⟩=false/\W.frozen? ⟨w.heap.size+1,2,none⟩=false/\W.frozen? ⟨w.heap.size+1,3,none⟩=false/\W.frozen? ⟨w.heap.size+1,4,none⟩=false/\W.frozen? ⟨w.heap.size+1,5,none⟩=false)
  (first|(with_reducible exact kaK T8.1 H0.1 _ _ _ _ _ _)|(with_reducible exact(k40 T8.1 H0.1).2)|(with_reducible exact(k40 T3.1.drew H0.1).2)|(with_reducible exact(k40 T3.1 H0.1).2))
  (first|(go_at_call 133;refine(k41 (ad.add 2) (c-2) x2 x3 _ (k0o (Two.reads T3.1.drew H0.1) 2 2 zz6 rfl) zz43 G2.1.1 G2.1.2 G3.1.1 G3.1.2).mono ?_;rintro e w8 ⟨rfl,hb8⟩;have T8:=Ab (Two.below T3.1.drew hb8);clear hb8;obtain⟨d0,d1,d2,d3,d4,d5⟩:=T8.1.2.1.cells))
 rename_i hHeld
 clear hHeld d0 d1 d2 d3 d4 d5;have P9:=Ab (Two.six T8.1 x0 x1 (x2*256+x3) 0 0 0);generalize ((((((w8.setCell ⟨w.heap.size+1,0,none⟩ (.int .u8 x0)).setCell ⟨w.heap.size+1,1,none⟩ (.int .u8 x1)).setCell ⟨w.heap.size+1,2,none⟩ (.int .u16 (x2*256+x3))).setCell ⟨w.heap.size+1,3,none⟩ (.int .u8 0)).setCell ⟨w.heap.size+1,4,none⟩ (.int .u8 0)).setCell ⟨w.heap.size+1,5,none⟩ (.int .u32 0))=w9 at P9 ⊢;obtain⟨d0,d1,d2,d3,d4,d5⟩:=P9.1.2.1.cells
 go_wp2_with fail
 refine(k1p _ _ _ _ _ _ _).mono ?_;clear d0 d1 d2 d3 d4 d5;rw[SF.1];rintro e wA ⟨rfl,hb⟩;have PA:=Ab (P9.1.below hb);clear hb;obtain⟨c0,c1,c2,c3,c4,c5⟩:=PA.1.1.cells;obtain⟨d0,d1,d2,d3,d4,d5⟩:=PA.1.2.1.cells;have f0:=PA.1.1.free 0;have f1:=PA.1.1.free 1;have f2:=PA.1.1.free 2;have f3:=PA.1.1.free 3;have f4:=PA.1.1.free 4;have f5:=PA.1.1.free 5
 go_wp2_with fail
 refine bodyPost_ret (k0K rfl _ _ w.heap.size 163 _ (0,0) _ (by rfl) (Box.set6 PA.1.1 _ _ _ _ _ _) Tryz.underlying163 rfl zz2) rfl ?_;exact⟨rfl,k2M PA.1.2.2 (Nat.le_refl _) _ _ _ _ _ _⟩
theorem kbk(ad:Addr)(c:Nat)(x0 x1 x2 x3 x4 x5:Int)(w:World)(hr:ReadsInt w .u8 (some ad) 6 [x0,x1,x2,x3,x4,x5])(hc:6<=c)(g0:0<=x0/\x0<=255)(g1:0<=x1/\x1<=255)(g2:0<=x2/\x2<=255)(g3:0<=x3/\x3<=255)(g4:0<=x4/\x4<=255)(g5:0<=x5/\x5<=255)(hs:crcI [x0,x1,x2,x3]=x4*256+x5)(hx:¬x0=1)(hf:Wire.sound x0 x1 0 0 0=false):Calls Tryz.prog 96 #[.slice (some ad) 6 c] w (Back w Fr.zero 30):=by
 have H0:=Ac (ReadsInt w .u8 (some ad) ([x0,x1,x2,x3,x4,x5]:List Int).length [x0,x1,x2,x3,x4,x5]) (hr);have HO:=Ac (Oct [x0,x1,x2,x3,x4,x5]) (Oct.cons g0.1 g0.2 (Oct.cons g1.1 g1.2 (Oct.cons g2.1 g2.2 (Oct.cons g3.1 g3.2 (Oct.cons g4.1 g4.2 (Oct.cons g5.1 g5.2 (Oct.nil)))))));have HM:=Ac (Oct [x0,x1,x2,x3]) (Oct.cons g0.1 g0.2 (Oct.cons g1.1 g1.2 (Oct.cons g2.1 g2.2 (Oct.cons g3.1 g3.2 (Oct.nil)))));have HC:=Ab hc;have G0:=Ab g4;have G1:=Ab g5;obtain⟨i5,hi5,hs5⟩:=k3T;have cA:∀W:World,(Instr.slice 22 (.slice (some ad) 6 c) none (some (.int .i64 4)) (some (.int .i64 4))).run Tryz.prog W=.ok (.slice (some ad) 4 4) W:=fun W=>k2q 22 5 .i64 .i64 Tryz.underlying22 hi5 _ _ _ 4 zz1 zz1 W
 have cB:∀W:World,(Instr.slice 22 (.slice (some ad) 6 c) (some (.int .i64 4)) none none).run Tryz.prog W=.ok (.slice (some (ad.add 4)) 2 (c-4)) W:=fun W=>by
  rw[k0P 22 5 .i64 Tryz.underlying22 hi5 1 hs5 (some ad) 6 c 4 zz1 zz1 W,if_neg zz1];rfl
 have ES:(crcI [x0,x1,x2,x3] != x4*256+x5)=false:=bne_eq_false_iff_eq.mpr hs;clear hs;have EX:(x0 == 1)=false:=beq_eq_false_iff_ne.mpr hx;clear hx;have SF:=Ab hf;clear hf;have WS:IntKind.u16.wrap (x2*256+x3)=x2*256+x3:=by rw[w16];omega
 have G2:=Ab g2;have G3:=Ab g3;have cC:∀W:World,(Instr.slice 22 (.slice (some ad) 6 c) (some (.int .i64 2)) (some (.int .i64 4)) none).run Tryz.prog W=.ok (.slice (some (ad.add 2)) 2 (c-2)) W:=fun W=>by
  rw[k3s 22 5 .i64 .i64 Tryz.underlying22 hi5 1 hs5 (some ad) 6 c 2 4 zz1 zz1 zz1 zz1 W,if_neg zz1];rfl
 have W1:IntKind.i64.wrap (((6:Nat):Int)-2)=4:=zz7
 have W2:IntKind.i64.wrap (6-2)=4:=zz7
 have WC:IntKind.u32.wrap (crcI [x0,x1,x2,x3])=crcI [x0,x1,x2,x3]:=zz14
 have W3:IntKind.i64.wrap 4=4:=zz7
 have I1:(4:Int)<=(c:Int):=zz1
 have ER:∀x y:Int,(((crcI [x0,x1,x2,x3]:Int):Int) != (x4*256+x5))=true\/True:=fun _ _=>.inr trivial
 have CR:=k0y HM.1;clear hc hi5 hs5 hr ER;go_enter Tryz.func96,Tryz.ntmps96
 go_wp2_with fail
 have T0:=Ab (Two.new w);generalize ((w.alloc (.cells #[.int .u8 0,.int .u8 0,.int .u16 0,.int .u8 0,.int .u8 0,.int .u32 0] 163)).alloc (.cells #[.int .u8 0,.int .u8 0,.int .u16 0,.int .u8 0,.int .u8 0,.int .u32 0] 163))=w2 at T0 ⊢
 go_region_held3 (fun W=>Two w W) (first|exact T0.1.drew|exact T0.1|assumption|exact Two.below zz40 hbs)
  (first|(go_at_call 119;refine(k1h (some ad) 4 [x0,x1,x2,x3] _ (k0o (Two.reads zz40 H0.1) 0 4 zz6 rfl) HM.1).mono ?_;rintro e wn ⟨rfl,hbs⟩)|(go_at_call 133;refine(k41 (ad.add 4) (c-4) x4 x5 _ (k0o (Two.reads zz40 H0.1) 4 2 zz6 rfl) zz43 G0.1.1 G0.1.2 G1.1.1 G1.1.2).mono ?_;rintro e wn ⟨rfl,hbs⟩))
 rename_i hHeld
 have T3:=Ab hHeld;clear hHeld;have e0:=k15 (Two.reads T3.1 H0.1)
 go_wp2_with fail
 clear e0
 go_region_held3 (fun W=>W.cell? ad=some (.int .u8 x0)/\W.cell? ⟨ad.block,ad.off+1,none⟩=some (.int .u8 x1)/\W.frozen? ⟨w.heap.size+1,0,none⟩=false/\W.frozen? ⟨w.heap.size+1,1,none⟩=false/\W.frozen? ⟨w.heap.size+1,2,none⟩=false/\W.frozen? ⟨w.heap.size+1,3,none⟩=false/\W.frozen? ⟨w.heap.size+1,4,none⟩=false/\W.frozen? ⟨w.heap.size+1,5,none⟩=false)
  (first|(with_reducible exact kaK T8.1 H0.1 _ _ _ _ _ _)|(with_reducible exact(k40 T8.1 H0.1).2)|(with_reducible exact(k40 T3.1.drew H0.1).2)|(with_reducible exact(k40 T3.1 H0.1).2))
  (first|(go_at_call 133;refine(k41 (ad.add 2) (c-2) x2 x3 _ (k0o (Two.reads T3.1.drew H0.1) 2 2 zz6 rfl) zz43 G2.1.1 G2.1.2 G3.1.1 G3.1.2).mono ?_;rintro e w8 ⟨rfl,hb8⟩;have T8:=Ab (Two.below T3.1.drew hb8);clear hb8;obtain⟨d0,d1,d2,d3,d4,d5⟩:=T8.1.2.1.cells))
 rename_i hHeld
 clear hHeld d0 d1 d2 d3 d4 d5;have P9:=Ab (Two.six T8.1 x0 x1 (x2*256+x3) 0 0 0);generalize ((((((w8.setCell ⟨w.heap.size+1,0,none⟩ (.int .u8 x0)).setCell ⟨w.heap.size+1,1,none⟩ (.int .u8 x1)).setCell ⟨w.heap.size+1,2,none⟩ (.int .u16 (x2*256+x3))).setCell ⟨w.heap.size+1,3,none⟩ (.int .u8 0)).setCell ⟨w.heap.size+1,4,none⟩ (.int .u8 0)).setCell ⟨w.heap.size+1,5,none⟩ (.int .u32 0))=w9 at P9 ⊢;obtain⟨d0,d1,d2,d3,d4,d5⟩:=P9.1.2.1.cells
 go_wp2_with fail
 refine(k1p _ _ _ _ _ _ _).mono ?_;clear d0 d1 d2 d3 d4 d5;rw[SF.1];rintro e wA ⟨rfl,hb⟩;have PA:=Ab (P9.1.below hb);clear hb;obtain⟨c0,c1,c2,c3,c4,c5⟩:=PA.1.1.cells;obtain⟨d0,d1,d2,d3,d4,d5⟩:=PA.1.2.1.cells;have f0:=PA.1.1.free 0;have f1:=PA.1.1.free 1;have f2:=PA.1.1.free 2;have f3:=PA.1.1.free 3;have f4:=PA.1.1.free 4;have f5:=PA.1.1.free 5
 go_wp2_with fail
 refine bodyPost_ret (k0K rfl _ _ w.heap.size 163 _ (0,0) _ (by rfl) (Box.set6 PA.1.1 _ _ _ _ _ _) Tryz.underlying163 rfl zz2) rfl ?_;exact⟨rfl,k2M PA.1.2.2 (Nat.le_refl _) _ _ _ _ _ _⟩
theorem kaX(ad:Addr)(c:Nat)(x0 x1 x2 x3 x4 x5 x6 x7 x8 x9 x10 x11:Int)(w:World)(hr:ReadsInt w .u8 (some ad) 12 [x0,x1,x2,x3,x4,x5,x6,x7,x8,x9,x10,x11])(hc:12<=c)(g0:0<=x0/\x0<=255)(g1:0<=x1/\x1<=255)(g2:0<=x2/\x2<=255)(g3:0<=x3/\x3<=255)(g4:0<=x4/\x4<=255)(g5:0<=x5/\x5<=255)(g6:0<=x6/\x6<=255)(g7:0<=x7/\x7<=255)(g8:0<=x8/\x8<=255)(g9:0<=x9/\x9<=255)(g10:0<=x10/\x10<=255)(g11:0<=x11/\x11<=255)(hs:crcI [x0,x1,x2,x3,x4,x5,x6,x7,x8,x9]=x10*256+x11)(hx:x0=1)(hf:Wire.sound x0 x1 x4 x5 (x6*16777216+x7*65536+x8*256+x9)=true):Calls Tryz.prog 96 #[.slice (some ad) 12 c] w (Back w (Fr.mk x0 x1 (x2*256+x3) x4 x5 (x6*16777216+x7*65536+x8*256+x9)) 0):=by
 have H0:=Ac (ReadsInt w .u8 (some ad) ([x0,x1,x2,x3,x4,x5,x6,x7,x8,x9,x10,x11]:List Int).length [x0,x1,x2,x3,x4,x5,x6,x7,x8,x9,x10,x11]) (hr);have HO:=Ac (Oct [x0,x1,x2,x3,x4,x5,x6,x7,x8,x9,x10,x11]) (Oct.cons g0.1 g0.2 (Oct.cons g1.1 g1.2 (Oct.cons g2.1 g2.2 (Oct.cons g3.1 g3.2 (Oct.cons g4.1 g4.2 (Oct.cons g5.1 g5.2 (Oct.cons g6.1 g6.2 (Oct.cons g7.1 g7.2 (Oct.cons g8.1 g8.2 (Oct.cons g9.1 g9.2 (Oct.cons g10.1 g10.2 (Oct.cons g11.1 g11.2 (Oct.nil)))))))))))));have HM:=Ac (Oct [x0,x1,x2,x3,x4,x5,x6,x7,x8,x9]) (Oct.cons g0.1 g0.2 (Oct.cons g1.1 g1.2 (Oct.cons g2.1 g2.2 (Oct.cons g3.1 g3.2 (Oct.cons g4.1 g4.2 (Oct.cons g5.1 g5.2 (Oct.cons g6.1 g6.2 (Oct.cons g7.1 g7.2 (Oct.cons g8.1 g8.2 (Oct.cons g9.1 g9.2 (Oct.nil)))))))))));have HC:=Ab hc;have G0:=Ab g10;have G1:=Ab g11;obtain⟨i5,hi5,hs5⟩:=k3T;have cA:∀W:World,(Instr.slice 22 (.slice (some ad) 12 c) none (some (.int .i64 10)) (some (.int .i64 10))).run Tryz.prog W=.ok (.slice (some ad) 10 10) W:=fun W=>k2q 22 5 .i64 .i64 Tryz.underlying22 hi5 _ _ _ 10 zz1 zz1 W
 have cB:∀W:World,(Instr.slice 22 (.slice (some ad) 12 c) (some (.int .i64 10)) none none).run Tryz.prog W=.ok (.slice (some (ad.add 10)) 2 (c-10)) W:=fun W=>by
  rw[k0P 22 5 .i64 Tryz.underlying22 hi5 1 hs5 (some ad) 12 c 10 zz1 zz1 W,if_neg zz1];rfl
 have ES:(crcI [x0,x1,x2,x3,x4,x5,x6,x7,x8,x9] != x10*256+x11)=false:=bne_eq_false_iff_eq.mpr hs;clear hs;have EX:(x0 == 1)=true:=beq_iff_eq.mpr hx;clear hx;have SF:=Ab hf;clear hf;have WS:IntKind.u16.wrap (x2*256+x3)=x2*256+x3:=by rw[w16];omega
 have G2:=Ab g2;have G3:=Ab g3;have cC:∀W:World,(Instr.slice 22 (.slice (some ad) 12 c) (some (.int .i64 2)) (some (.int .i64 4)) none).run Tryz.prog W=.ok (.slice (some (ad.add 2)) 2 (c-2)) W:=fun W=>by
  rw[k3s 22 5 .i64 .i64 Tryz.underlying22 hi5 1 hs5 (some ad) 12 c 2 4 zz1 zz1 zz1 zz1 W,if_neg zz1];rfl
 have cD:∀W:World,(Instr.slice 22 (.slice (some ad) 12 c) (some (.int .i64 6)) (some (.int .i64 10)) none).run Tryz.prog W=.ok (.slice (some (ad.add 6)) 4 (c-6)) W:=fun W=>by
  rw[k3s 22 5 .i64 .i64 Tryz.underlying22 hi5 1 hs5 (some ad) 12 c 6 10 zz1 zz1 zz1 zz1 W,if_neg zz1];rfl
 have HL:=Ab (show 12<=([x0,x1,x2,x3,x4,x5,x6,x7,x8,x9,x10,x11]:List Int).length by simp);have E4:=Ac (([x0,x1,x2,x3,x4,x5,x6,x7,x8,x9,x10,x11]:List Int).getD 4 0=x4) (rfl);have E5:=Ac (([x0,x1,x2,x3,x4,x5,x6,x7,x8,x9,x10,x11]:List Int).getD 5 0=x5) (rfl);have G6:=Ab g6;have G7:=Ab g7;have G8:=Ab g8;have G9:=Ab g9;have W1:IntKind.i64.wrap (((12:Nat):Int)-2)=10:=zz7
 have W2:IntKind.i64.wrap (12-2)=10:=zz7
 have WC:IntKind.u32.wrap (crcI [x0,x1,x2,x3,x4,x5,x6,x7,x8,x9])=crcI [x0,x1,x2,x3,x4,x5,x6,x7,x8,x9]:=zz14
 have W3:IntKind.i64.wrap 10=10:=zz7
 have I1:(10:Int)<=(c:Int):=zz1
 have ER:∀x y:Int,(((crcI [x0,x1,x2,x3,x4,x5,x6,x7,x8,x9]:Int):Int) != (x10*256+x11))=true\/True:=fun _ _=>.inr trivial
 have CR:=k0y HM.1;clear hc hi5 hs5 hr ER;go_enter Tryz.func96,Tryz.ntmps96
 go_wp2_with fail
 have T0:=Ab (Two.new w);generalize ((w.alloc (.cells #[.int .u8 0,.int .u8 0,.int .u16 0,.int .u8 0,.int .u8 0,.int .u32 0] 163)).alloc (.cells #[.int .u8 0,.int .u8 0,.int .u16 0,.int .u8 0,.int .u8 0,.int .u32 0] 163))=w2 at T0 ⊢
 go_region_held3 (fun W=>Two w W) (first|exact T0.1.drew|exact T0.1|assumption|exact Two.below zz40 hbs)
  (first|(go_at_call 119;refine(k1h (some ad) 10 [x0,x1,x2,x3,x4,x5,x6,x7,x8,x9] _ (k0o (Two.reads zz40 H0.1) 0 10 zz6 rfl) HM.1).mono ?_;rintro e wn ⟨rfl,hbs⟩)|(go_at_call 133;refine(k41 (ad.add 10) (c-10) x10 x11 _ (k0o (Two.reads zz40 H0.1) 10 2 zz6 rfl) zz43 G0.1.1 G0.1.2 G1.1.1 G1.1.2).mono ?_;rintro e wn ⟨rfl,hbs⟩))
 rename_i hHeld
 have T3:=Ab hHeld;clear hHeld;have e0:=k15 (Two.reads T3.1 H0.1)
 go_wp2_with fail
 clear e0
 go_region_held3 (fun W=>W.cell? ad=some (.int .u8 x0)/\W.cell? ⟨ad.block,ad.off+1,none⟩=some (.int .u8 x1)/\W.frozen? ⟨w.heap.size+1,0,none⟩=false/\W.frozen? ⟨w.heap.size+1,1,none⟩=false/\W.frozen? ⟨w.heap.size+1,2,none⟩=false/\W.frozen? ⟨w.heap.size+1,3,none⟩=false/\W.frozen? ⟨w.heap.size+1,4,none⟩=false/\W.frozen? ⟨w.heap.size+1,5,none⟩=false)
  (first|(with_reducible exact kaK T8.1 H0.1 _ _ _ _ _ _)|(with_reducible exact(k40 T8.1 H0.1).2)|(with_reducible exact(k40 T3.1.drew H0.1).2)|(with_reducible exact(k40 T3.1 H0.1).2))
  (first|(go_at_call 133;refine(k41 (ad.add 2) (c-2) x2 x3 _ (k0o (Two.reads T3.1.drew H0.1) 2 2 zz6 rfl) zz43 G2.1.1 G2.1.2 G3.1.1 G3.1.2).mono ?_;rintro e w8 ⟨rfl,hb8⟩;have T8:=Ab (Two.below T3.1.drew hb8);clear hb8;obtain⟨d0,d1,d2,d3,d4,d5⟩:=T8.1.2.1.cells))
 rename_i hHeld
 clear hHeld d0 d1 d2 d3 d4 d5;have P9:=Ab (Two.six T8.1 x0 x1 (x2*256+x3) 0 0 0);generalize ((((((w8.setCell ⟨w.heap.size+1,0,none⟩ (.int .u8 x0)).setCell ⟨w.heap.size+1,1,none⟩ (.int .u8 x1)).setCell ⟨w.heap.size+1,2,none⟩ (.int .u16 (x2*256+x3))).setCell ⟨w.heap.size+1,3,none⟩ (.int .u8 0)).setCell ⟨w.heap.size+1,4,none⟩ (.int .u8 0)).setCell ⟨w.heap.size+1,5,none⟩ (.int .u32 0))=w9 at P9 ⊢
 go_wp2_with fail
 go_region_held3 (fun W=>W.cell? ⟨ad.block,ad.off+4,none⟩=some (.int .u8 x4)/\W.cell? ⟨ad.block,ad.off+5,none⟩=some (.int .u8 x5)/\W.frozen? ⟨w.heap.size+1,3,none⟩=false/\W.frozen? ⟨w.heap.size+1,4,none⟩=false/\W.frozen? ⟨w.heap.size+1,5,none⟩=false)
  (first|(with_reducible exact k96 P10.1 H0.1 HL.1 E4.1 E5.1 _ _ _)|(with_reducible exact kai P10.1 H0.1 HL.1 E4.1 E5.1 _ _)|(with_reducible exact k9K P10.1 H0.1 HL.1 E4.1 E5.1 _)|(with_reducible exact k3H P10.1 H0.1 HL.1 E4.1 E5.1)|(with_reducible exact k3H P9.1.drew H0.1 HL.1 E4.1 E5.1)|(with_reducible exact k3H P9.1 H0.1 HL.1 E4.1 E5.1))
  (first|(go_at_call 133;refine(kcW (ad.add 6) (c-6) x6 x7 x8 x9 _ (k0o (Pair.reads P9.1.drew H0.1) 6 4 zz6 rfl) zz43 G6.1.1 G6.1.2 G7.1.1 G7.1.2 G8.1.1 G8.1.2 G9.1.1 G9.1.2).mono ?_;rintro e w10 ⟨rfl,hb8⟩;have P10:=Ab (Pair.below P9.1.drew hb8);clear hb8;obtain⟨d0,d1,d2,d3,d4,d5⟩:=P10.1.2.1.cells))
 rename_i hHeld
 clear hHeld d0 d1 d2 d3 d4 d5 P9;have P9:=Ab (Pair.three P10.1 x4 x5 (x6*16777216+x7*65536+x8*256+x9));generalize (((w10.setCell ⟨w.heap.size+1,3,none⟩ (.int .u8 x4)).setCell ⟨w.heap.size+1,4,none⟩ (.int .u8 x5)).setCell ⟨w.heap.size+1,5,none⟩ (.int .u32 (x6*16777216+x7*65536+x8*256+x9)))=w9 at P9 ⊢;obtain⟨d0,d1,d2,d3,d4,d5⟩:=P9.1.2.1.cells
 go_wp2_with fail
 refine(k1p _ _ _ _ _ _ _).mono ?_;clear d0 d1 d2 d3 d4 d5;rw[SF.1];rintro e wA ⟨rfl,hb⟩;have PA:=Ab (P9.1.below hb);clear hb;obtain⟨c0,c1,c2,c3,c4,c5⟩:=PA.1.1.cells;obtain⟨d0,d1,d2,d3,d4,d5⟩:=PA.1.2.1.cells;have f0:=PA.1.1.free 0;have f1:=PA.1.1.free 1;have f2:=PA.1.1.free 2;have f3:=PA.1.1.free 3;have f4:=PA.1.1.free 4;have f5:=PA.1.1.free 5
 go_wp2_with fail
 refine bodyPost_ret (k0K rfl _ _ w.heap.size 163 _ (0,0) _ (by rfl) (Box.set6 PA.1.1 _ _ _ _ _ _) Tryz.underlying163 rfl zz2) rfl ?_;exact⟨rfl,k2M PA.1.2.2 (Nat.le_refl _) _ _ _ _ _ _⟩
theorem k9d(ad:Addr)(c:Nat)(x0 x1 x2 x3 x4 x5 x6 x7 x8 x9 x10 x11:Int)(w:World)(hr:ReadsInt w .u8 (some ad) 12 [x0,x1,x2,x3,x4,x5,x6,x7,x8,x9,x10,x11])(hc:12<=c)(g0:0<=x0/\x0<=255)(g1:0<=x1/\x1<=255)(g2:0<=x2/\x2<=255)(g3:0<=x3/\x3<=255)(g4:0<=x4/\x4<=255)(g5:0<=x5/\x5<=255)(g6:0<=x6/\x6<=255)(g7:0<=x7/\x7<=255)(g8:0<=x8/\x8<=255)(g9:0<=x9/\x9<=255)(g10:0<=x10/\x10<=255)(g11:0<=x11/\x11<=255)(hs:crcI [x0,x1,x2,x3,x4,x5,x6,x7,x8,x9]=x10*256+x11)(hx:x0=1)(hf:Wire.sound x0 x1 x4 x5 (x6*16777216+x7*65536+x8*256+x9)=false):Calls Tryz.prog 96 #[.slice (some ad) 12 c] w (Back w Fr.zero 30):=by
 have H0:=Ac (ReadsInt w .u8 (some ad) ([x0,x1,x2,x3,x4,x5,x6,x7,x8,x9,x10,x11]:List Int).length [x0,x1,x2,x3,x4,x5,x6,x7,x8,x9,x10,x11]) (hr);have HO:=Ac (Oct [x0,x1,x2,x3,x4,x5,x6,x7,x8,x9,x10,x11]) (Oct.cons g0.1 g0.2 (Oct.cons g1.1 g1.2 (Oct.cons g2.1 g2.2 (Oct.cons g3.1 g3.2 (Oct.cons g4.1 g4.2 (Oct.cons g5.1 g5.2 (Oct.cons g6.1 g6.2 (Oct.cons g7.1 g7.2 (Oct.cons g8.1 g8.2 (Oct.cons g9.1 g9.2 (Oct.cons g10.1 g10.2 (Oct.cons g11.1 g11.2 (Oct.nil)))))))))))));have HM:=Ac (Oct [x0,x1,x2,x3,x4,x5,x6,x7,x8,x9]) (Oct.cons g0.1 g0.2 (Oct.cons g1.1 g1.2 (Oct.cons g2.1 g2.2 (Oct.cons g3.1 g3.2 (Oct.cons g4.1 g4.2 (Oct.cons g5.1 g5.2 (Oct.cons g6.1 g6.2 (Oct.cons g7.1 g7.2 (Oct.cons g8.1 g8.2 (Oct.cons g9.1 g9.2 (Oct.nil)))))))))));have HC:=Ab hc;have G0:=Ab g10;have G1:=Ab g11;obtain⟨i5,hi5,hs5⟩:=k3T;have cA:∀W:World,(Instr.slice 22 (.slice (some ad) 12 c) none (some (.int .i64 10)) (some (.int .i64 10))).run Tryz.prog W=.ok (.slice (some ad) 10 10) W:=fun W=>k2q 22 5 .i64 .i64 Tryz.underlying22 hi5 _ _ _ 10 zz1 zz1 W
 have cB:∀W:World,(Instr.slice 22 (.slice (some ad) 12 c) (some (.int .i64 10)) none none).run Tryz.prog W=.ok (.slice (some (ad.add 10)) 2 (c-10)) W:=fun W=>by
  rw[k0P 22 5 .i64 Tryz.underlying22 hi5 1 hs5 (some ad) 12 c 10 zz1 zz1 W,if_neg zz1];rfl
 have ES:(crcI [x0,x1,x2,x3,x4,x5,x6,x7,x8,x9] != x10*256+x11)=false:=bne_eq_false_iff_eq.mpr hs;clear hs;have EX:(x0 == 1)=true:=beq_iff_eq.mpr hx;clear hx;have SF:=Ab hf;clear hf;have WS:IntKind.u16.wrap (x2*256+x3)=x2*256+x3:=by rw[w16];omega
 have G2:=Ab g2;have G3:=Ab g3;have cC:∀W:World,(Instr.slice 22 (.slice (some ad) 12 c) (some (.int .i64 2)) (some (.int .i64 4)) none).run Tryz.prog W=.ok (.slice (some (ad.add 2)) 2 (c-2)) W:=fun W=>by
  rw[k3s 22 5 .i64 .i64 Tryz.underlying22 hi5 1 hs5 (some ad) 12 c 2 4 zz1 zz1 zz1 zz1 W,if_neg zz1];rfl
 have cD:∀W:World,(Instr.slice 22 (.slice (some ad) 12 c) (some (.int .i64 6)) (some (.int .i64 10)) none).run Tryz.prog W=.ok (.slice (some (ad.add 6)) 4 (c-6)) W:=fun W=>by
  rw[k3s 22 5 .i64 .i64 Tryz.underlying22 hi5 1 hs5 (some ad) 12 c 6 10 zz1 zz1 zz1 zz1 W,if_neg zz1];rfl
 have HL:=Ab (show 12<=([x0,x1,x2,x3,x4,x5,x6,x7,x8,x9,x10,x11]:List Int).length by simp);have E4:=Ac (([x0,x1,x2,x3,x4,x5,x6,x7,x8,x9,x10,x11]:List Int).getD 4 0=x4) (rfl);have E5:=Ac (([x0,x1,x2,x3,x4,x5,x6,x7,x8,x9,x10,x11]:List Int).getD 5 0=x5) (rfl);have G6:=Ab g6;have G7:=Ab g7;have G8:=Ab g8;have G9:=Ab g9;have W1:IntKind.i64.wrap (((12:Nat):Int)-2)=10:=zz7
 have W2:IntKind.i64.wrap (12-2)=10:=zz7
 have WC:IntKind.u32.wrap (crcI [x0,x1,x2,x3,x4,x5,x6,x7,x8,x9])=crcI [x0,x1,x2,x3,x4,x5,x6,x7,x8,x9]:=zz14
 have W3:IntKind.i64.wrap 10=10:=zz7
 have I1:(10:Int)<=(c:Int):=zz1
 have ER:∀x y:Int,(((crcI [x0,x1,x2,x3,x4,x5,x6,x7,x8,x9]:Int):Int) != (x10*256+x11))=true\/True:=fun _ _=>.inr trivial
 have CR:=k0y HM.1;clear hc hi5 hs5 hr ER;go_enter Tryz.func96,Tryz.ntmps96
 go_wp2_with fail
 have T0:=Ab (Two.new w);generalize ((w.alloc (.cells #[.int .u8 0,.int .u8 0,.int .u16 0,.int .u8 0,.int .u8 0,.int .u32 0] 163)).alloc (.cells #[.int .u8 0,.int .u8 0,.int .u16 0,.int .u8 0,.int .u8 0,.int .u32 0] 163))=w2 at T0 ⊢
 go_region_held3 (fun W=>Two w W) (first|exact T0.1.drew|exact T0.1|assumption|exact Two.below zz40 hbs)
  (first|(go_at_call 119;refine(k1h (some ad) 10 [x0,x1,x2,x3,x4,x5,x6,x7,x8,x9] _ (k0o (Two.reads zz40 H0.1) 0 10 zz6 rfl) HM.1).mono ?_;rintro e wn ⟨rfl,hbs⟩)|(go_at_call 133;refine(k41 (ad.add 10) (c-10) x10 x11 _ (k0o (Two.reads zz40 H0.1) 10 2 zz6 rfl) zz43 G0.1.1 G0.1.2 G1.1.1 G1.1.2).mono ?_;rintro e wn ⟨rfl,hbs⟩))
 rename_i hHeld
 have T3:=Ab hHeld;clear hHeld;have e0:=k15 (Two.reads T3.1 H0.1)
 go_wp2_with fail
 clear e0
 go_region_held3 (fun W=>W.cell? ad=some (.int .u8 x0)/\W.cell? ⟨ad.block,ad.off+1,none⟩=some (.int .u8 x1)/\W.frozen? ⟨w.heap.size+1,0,none⟩=false/\W.frozen? ⟨w.heap.size+1,1,none⟩=false/\W.frozen? ⟨w.heap.size+1,2,none⟩=false/\W.frozen? ⟨w.heap.size+1,3,none⟩=false/\W.frozen? ⟨w.heap.size+1,4,none⟩=false/\W.frozen? ⟨w.heap.size+1,5,none⟩=false)
  (first|(with_reducible exact kaK T8.1 H0.1 _ _ _ _ _ _)|(with_reducible exact(k40 T8.1 H0.1).2)|(with_reducible exact(k40 T3.1.drew H0.1).2)|(with_reducible exact(k40 T3.1 H0.1).2))
  (first|(go_at_call 133;refine(k41 (ad.add 2) (c-2) x2 x3 _ (k0o (Two.reads T3.1.drew H0.1) 2 2 zz6 rfl) zz43 G2.1.1 G2.1.2 G3.1.1 G3.1.2).mono ?_;rintro e w8 ⟨rfl,hb8⟩;have T8:=Ab (Two.below T3.1.drew hb8);clear hb8;obtain⟨d0,d1,d2,d3,d4,d5⟩:=T8.1.2.1.cells))
 rename_i hHeld
 clear hHeld d0 d1 d2 d3 d4 d5;have P9:=Ab (Two.six T8.1 x0 x1 (x2*256+x3) 0 0 0);generalize ((((((w8.setCell ⟨w.heap.size+1,0,none⟩ (.int .u8 x0)).setCell ⟨w.heap.size+1,1,none⟩ (.int .u8 x1)).setCell ⟨w.heap.size+1,2,none⟩ (.int .u16 (x2*256+x3))).setCell ⟨w.heap.size+1,3,none⟩ (.int .u8 0)).setCell ⟨w.heap.size+1,4,none⟩ (.int .u8 0)).setCell ⟨w.heap.size+1,5,none⟩ (.int .u32 0))=w9 at P9 ⊢
 go_wp2_with fail
 go_region_held3 (fun W=>W.cell? ⟨ad.block,ad.off+4,none⟩=some (.int .u8 x4)/\W.cell? ⟨ad.block,ad.off+5,none⟩=some (.int .u8 x5)/\W.frozen? ⟨w.heap.size+1,3,none⟩=false/\W.frozen? ⟨w.heap.size+1,4,none⟩=false/\W.frozen? ⟨w.heap.size+1,5,none⟩=false)
  (first|(with_reducible exact k96 P10.1 H0.1 HL.1 E4.1 E5.1 _ _ _)|(with_reducible exact kai P10.1 H0.1 HL.1 E4.1 E5.1 _ _)|(with_reducible exact k9K P10.1 H0.1 HL.1 E4.1 E5.1 _)|(with_reducible exact k3H P10.1 H0.1 HL.1 E4.1 E5.1)|(with_reducible exact k3H P9.1.drew H0.1 HL.1 E4.1 E5.1)|(with_reducible exact k3H P9.1 H0.1 HL.1 E4.1 E5.1))
  (first|(go_at_call 133;refine(kcW (ad.add 6) (c-6) x6 x7 x8 x9 _ (k0o (Pair.reads P9.1.drew H0.1) 6 4 zz6 rfl) zz43 G6.1.1 G6.1.2 G7.1.1 G7.1.2 G8.1.1 G8.1.2 G9.1.1 G9.1.2).mono ?_;rintro e w10 ⟨rfl,hb8⟩;have P10:=Ab (Pair.below P9.1.drew hb8);clear hb8;obtain⟨d0,d1,d2,d3,d4,d5⟩:=P10.1.2.1.cells))
 rename_i hHeld
 clear hHeld d0 d1 d2 d3 d4 d5 P9;have P9:=Ab (Pair.three P10.1 x4 x5 (x6*16777216+x7*65536+x8*256+x9));generalize (((w10.setCell ⟨w.heap.size+1,3,none⟩ (.int .u8 x4)).setCell ⟨w.heap.size+1,4,none⟩ (.int .u8 x5)).setCell ⟨w.heap.size+1,5,none⟩ (.int .u32 (x6*16777216+x7*65536+x8*256+x9)))=w9 at P9 ⊢;obtain⟨d0,d1,d2,d3,d4,d5⟩:=P9.1.2.1.cells
 go_wp2_with fail
 refine(k1p _ _ _ _ _ _ _).mono ?_;clear d0 d1 d2 d3 d4 d5;rw[SF.1];rintro e wA ⟨rfl,hb⟩;have PA:=Ab (P9.1.below hb);clear hb;obtain⟨c0,c1,c2,c3,c4,c5⟩:=PA.1.1.cells;obtain⟨d0,d1,d2,d3,d4,d5⟩:=PA.1.2.1.cells;have f0:=PA.1.1.free 0;have f1:=PA.1.1.free 1;have f2:=PA.1.1.free 2;have f3:=PA.1.1.free 3;have f4:=PA.1.1.free 4;have f5:=PA.1.1.free 5
 go_wp2_with fail
 refine bodyPost_ret (k0K rfl _ _ w.heap.size 163 _ (0,0) _ (by rfl) (Box.set6 PA.1.1 _ _ _ _ _ _) Tryz.underlying163 rfl zz2) rfl ?_;exact⟨rfl,k2M PA.1.2.2 (Nat.le_refl _) _ _ _ _ _ _⟩
end Go.Proofs.YtdopmlopafgonaaGreatDoor.Wire
