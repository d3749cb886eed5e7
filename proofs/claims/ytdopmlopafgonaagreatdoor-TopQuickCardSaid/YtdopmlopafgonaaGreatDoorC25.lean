/- TopQuick: one packet alone is brought from host to host (a part of the walks and of the plain laws). -/
import Derived.Test.YtdopmlopafgonaaGreatDoorC0
import Derived.Test.YtdopmlopafgonaaGreatDoorC22
import Derived.Test.YtdopmlopafgonaaGreatDoorC24
import Derived.Deep.AppendLies
import Derived.Deep.RegionHeld3
import Derived.Deep.RegionLaw
import Derived.Laws.AppendOwnNone
import Derived.OwnWalk
set_option linter.unusedVariables false
set_option linter.unusedSimpArgs false
set_option maxHeartbeats 4000000
set_option maxRecDepth 100000
namespace Go.Proofs.YtdopmlopafgonaaGreatDoor.Wire
open Go.RowKit Go.Proofs.Ytamaemlhnkabcaa.Crc Go.Proofs.YtdopmlopafgonaaGreatDoor.PTopQuick Go.Proofs.YtdopmlopafgonaaGreatDoorW.PrintWords Go.Proofs.YtdopmlopafgonaaGreatDoorW.PrintLast Go.Proofs.YtdopmlopafgonaaGreatDoorW.PrintMore
open Go.Proofs.YtdopmlopafgonaaGreatDoor.Own
theorem k6S {W:World} {g:Nat} {cs:Array Value} {fr:Nat × Nat} (h:W.heap[g]? = some (.cells cs 5 fr)) (l:List Int) (hn:l.length<=9223372036854775807) (hc:∀ k,k<l.length->cs[k]? = some (.int .u8 (l.getD k 0))):ReadsInt W .u8 (some ⟨g,0,none⟩) l.length l:=
 ⟨rfl,hn,fun _=>⟨_,rfl,fun j hj=>by rw [k6g];exact (cell_of_row W g j cs 5 fr h).trans (hc j hj)⟩⟩
theorem Oct.cons {a:Int} {l:List Int} (h0:0<=a) (h1:a<=255) (h:Oct l):Oct (a :: l):=by
 intro x hx;rcases List.mem_cons.1 hx with rfl | hx
 · simp [Lit.wf,IntKind.min,IntKind.max,IntKind.bits,IntKind.signed];omega
 · exact h x hx
theorem Oct.nil:Oct []:=fun x hx=>by simp at hx
theorem Oct.two {a b:Int} (a0:0<=a) (a1:a<=255) (b0:0<=b) (b1:b<=255):Oct [a,b]:=Oct.cons a0 a1 (Oct.cons b0 b1 Oct.nil)
def Row (w0 w:World) (base:Nat) (v:Value) (l:List Int):Prop:=w.ownsRow base 5 1 v l.length (nums .u8 l)/\Below w0.heap.size w0 w/\w0.heap.size<=base/\base<=w.heap.size/\Oct l
theorem Row.nil {w0 w:World} (hb:Below w0.heap.size w0 w):Row w0 w w.heap.size (.slice none 0 0) []:=⟨k8I _ _ _ _,hb,hb.size,Nat.le_refl _,Oct.nil⟩
theorem Row.below {w0 w w1:World} {base:Nat} {v:Value} {l:List Int} (h:Row w0 w base v l) (hb:Below w.heap.size w w1):Row w0 w1 base v l:=
 ⟨k6E h.1 hb,k0B h.2.1 h.2.1.size hb,h.2.2.1,Nat.le_trans h.2.2.2.1 hb.size,h.2.2.2.2⟩
theorem Row.alloc {w0 w:World} {base:Nat} {v:Value} {l:List Int} (h:Row w0 w base v l) (o:Obj):Row w0 (w.alloc o) base v l:=h.below (k0f (Below.refl _ _) o)
theorem Row.drew {w0 w:World} {base:Nat} {v:Value} {l:List Int} (h:Row w0 w base v l):Row w0 w.drew base v l:=h.below (Below.refl _ _).drew
theorem Oct.append {l m:List Int} (h:Oct l) (k:Oct m):Oct (l++m):=fun x hx=>by
 rcases List.mem_append.1 hx with hx | hx
 · exact h x hx
 · exact k x hx
theorem Row.block_ge {w0 w:World} {base:Nat} {v:Value} {l:List Int} (h:Row w0 w base v l):∀ k,v.ownBlock=some k->base<=k:=fun k hk=>k2r h.1 k hk
theorem Row.reads {w0 w:World} {base:Nat} {v:Value} {l:List Int} (h:Row w0 w base v l):∃ A c,v = .slice A l.length c/\ReadsInt w .u8 A l.length l/\(A=none->c=0):=by
 obtain ⟨⟨hl,hv⟩,_⟩:=h;rcases hv with ⟨rfl,hn⟩ | ⟨g,cap,cur,rfl,hg,hh,hc,hm,hs,ht⟩
 · exact ⟨none,0,by rw [hn],⟨rfl,zz1,fun k=>by omega⟩,fun _=>rfl⟩
 · refine ⟨some ⟨g,0,none⟩,cap,rfl,⟨rfl,by unfold maxLen at hm;omega,fun _=>⟨_,rfl,fun j hj=>?_⟩⟩,fun k=>by cases k⟩
   rw [k6g,k00 hh j];have e:cur.toList[j]? = (nums .u8 l)[j]?:=by
    rw [<- ht,Nat.mul_one,List.getElem?_take_of_lt hj]
   rw [<- Array.getElem?_toList,e];unfold nums;rw [List.getElem?_map,List.getElem?_eq_getElem hj,List.getD_eq_getElem?_getD,List.getElem?_eq_getElem hj];rfl
theorem kbt:(Tryz.prog.info? 5).map (fun i=>(i.zero,i.size,i.bytes))=some (some (.int .u8 0),1,1):=by kernel_rfl
theorem k6v {ops:Array Oper} {rest:List Oper} {o:Oper} {a:Act} {Q:Exit->Act->World->Prop} {w0 w:World} (hgd:o.guard=none) (s x:Operand)
 (ho:o.op = .call { callee:=.builtin .append,args:=#[s,x],argTypes:=#[22,22] })
 (base:Nat) (v:Value) (l:List Int) (R:Row w0 w base v l) (A:Option Addr) (m:List Int) (mn c:Nat) (hA:ReadsInt w .u8 A mn m) (hn:A=none->c=0) (hoct:Oct m) (hlen:l.length+mn<=1000000)
 (hs:a.eval s=v) (hx:a.eval x = .slice A mn c)
 (h:∀ v' w',Row w0 w' base v' (l++m)->w.grownBy w' v.ownBlock->wpList Tryz.prog ops Q rest (a.put o.dst v') w'):wpList Tryz.prog ops Q (o :: rest) a w:=by
 obtain ⟨i,hi,hz0,hz1,hz2⟩:=info_parts kbt;obtain ⟨hml,hmb,hrd⟩:=hA;subst hml
 cases A with
 | none=>
   have hm0:m=[]:=by
    rcases Nat.eq_zero_or_pos m.length with k | k
    · exact List.eq_nil_of_length_eq_zero k
    · obtain ⟨_,k,_⟩:=hrd k;cases k
   subst hm0;have hc:=hn rfl;subst hc;refine wpList_append_own_none hgd s x 22 ho base 5 i 1 Tryz.underlying22 hi v l.length (nums .u8 l) hs R.1 hx ?_;exact h v w (by rw [List.append_nil];exact R) (k2F (Below.refl _ _) _)
 | some ad=>
   refine wpList_append_own w hgd s x 22 ho base 5 i (.int .u8 0) 1 1 Tryz.underlying22 hi hz0 hz1 hz2 rfl zz8 v l.length (nums .u8 l) hs R.1 ad m.length c (nums .u8 m) hx (by rw [k41,Nat.mul_one]) ?_ ?_ ?_ ?_ R.2.2.2.1 ?_
   · intro j u hj
     have hj':j<m.length:=by
      have:=(List.getElem?_eq_some_iff.1 hj).1
      rwa [k41] at this
     obtain ⟨ad',e,hc⟩:=hrd zz1;obtain rfl:=Option.some.inj e;rw [hc j hj',<- hj];unfold nums;rw [List.getElem?_map,List.getElem?_eq_getElem hj',List.getD_eq_getElem?_getD,List.getElem?_eq_getElem hj'];rfl
   · intro u hu
     obtain ⟨z,_,rfl⟩:=List.mem_map.1 hu;rfl
   · unfold maxLen;omega
   · exact zz1
   · intro v' w' hown hgr _
     refine h v' w' ⟨by rw [List.length_append,k4i];exact hown,?_,R.2.2.1,Nat.le_trans R.2.2.2.1 hgr.size,R.2.2.2.2.append hoct⟩ hgr;exact k2A R.2.1 _ R.2.1.size hgr (fun k hk=>Nat.le_trans R.2.2.1 (R.block_ge k hk))
theorem k8R (w0 w:World) (base:Nat) (v:Value) (l:List Int) (R:Row w0 w base v l) :
 Calls Tryz.prog 119 #[v] w fun e w'=>e = .returned (.int .u16 (crcI l))/\Below w.heap.size w w':=by
 obtain ⟨A,c,rfl,hr,_⟩:=R.reads;exact k1d A c l w hr R.2.2.2.2
theorem k6c {W:World} {g:Nat} {a b:Int} (h:W.heap[g]? = some (.cells #[.int .u8 a,.int .u8 b] 5 (0,0))):ReadsInt W .u8 (some ⟨g,0,none⟩) 2 [a,b]:=
 k6S h [a,b] zz17 (by
  intro k hk;have hk:k<2:=hk
  match k,hk with
  | 0,_=>rfl
  | 1,_=>rfl)
theorem Row.two {w0 W:World} (hb:Below w0.heap.size w0 W) (a b:Int) (ho:Oct [a,b]):Row w0 (W.alloc (.cells #[.int .u8 a,.int .u8 b] 5)) W.heap.size (.slice (some ⟨W.heap.size,0,none⟩) 2 2) [a,b]:=
 ⟨⟨rfl,.inr ⟨W.heap.size,2,_,rfl,Nat.le_refl _,k1D _ _,Nat.le_refl _,by unfold maxLen;omega,rfl,rfl⟩⟩,k0f hb _,hb.size,zz17,ho⟩
theorem kax {ops:Array Oper} {o:Oper} {a:Act} {K:Act->World->Prop} {Q:Exit->Act->World->Prop} {E:Prop} {w0 w:World} (hgd:o.guard=none) (s x:Operand)
 (ho:o.op = .call { callee:=.builtin .append,args:=#[s,x],argTypes:=#[22,22] })
 (base:Nat) (v:Value) (l:List Int) (R:Row w0 w base v l) (g:Nat) (p q:Int) (c:Nat) (hz:ReadsInt w .u8 (some ⟨g,0,none⟩) 2 [p,q]) (hoct:Oct [p,q]) (hlen:l.length+2<=1000000)
 (hs:a.eval s=v) (hx:a.eval x = .slice (some ⟨g,0,none⟩) 2 c)
 (h:∀ v' w',Row w0 w' base v' (l++[p,q])->w.grownBy w' v.ownBlock->K (a.put o.dst v') w'):if Region.wanted o (yielded ops a.tmps)=true then Oper.wp Tryz.prog o a w K Q else E:=by
 obtain ⟨i,hi,hz0,hz1,hz2⟩:=info_parts kbt;refine step_append_lies w hgd s x 22 ho base 5 i (.int .u8 0) 1 1 Tryz.underlying22 hi hz0 hz1 hz2 rfl zz8 v l.length (nums .u8 l) hs R.1 ⟨g,0,none⟩ 2 c (nums .u8 [p,q]) hx rfl ?_ ?_ zz1 ?_ ?_ R.2.2.2.1 w.heap.size rfl ?_
 · intro j u hj
   have hj':j<2:=(List.getElem?_eq_some_iff.1 hj).1;obtain ⟨ad',e,hc⟩:=hz.2.2 zz1;obtain rfl:=Option.some.inj e;rw [hc j hj',<- hj]
   match j,hj' with
   | 0,_=>rfl
   | 1,_=>rfl
 · intro u hu
   obtain ⟨z,_,rfl⟩:=List.mem_map.1 hu;rfl
 · unfold maxLen;omega
 · exact zz1
 · intro gg cap w' hown hgr _ _
   refine h _ w' ⟨by rw [List.length_append,k4i];exact hown,?_,R.2.2.1,Nat.le_trans R.2.2.2.1 hgr.size,R.2.2.2.2.append hoct⟩ hgr;exact k2A R.2.1 _ R.2.1.size hgr (fun k hk=>Nat.le_trans R.2.2.1 (R.block_ge k hk))
def Ret (P:Value->World->Prop) (e:Ending) (w':World):Prop:=∃ v',e = .returned v'/\P v' w'
theorem k1N (w0 w:World) (base:Nat) (v:Value) (l:List Int) (n:Int) (R:Row w0 w base v l) (n0:0<=n) (n1:n<=65535) (hl:l.length<=1000) :
 Calls Tryz.prog 117 #[v,.int .u16 n] w (Ret fun v' w'=>Row w0 w' base v' (l++[n / 256,n % 256])/\w.grownBy w' v.ownBlock):=by
 have HR:=Ab (R.alloc (.cells #[.int .u8 (n / 256),.int .u8 (n % 256)] 5));have HO:=Ab (Oct.two (a:=n / 256) (b:=n % 256) zz1 zz1 zz1 zz1);have HL:=Ab (show l.length+2<=1000000 by omega);have hd:n / 256 % 256=n / 256:=by omega
 clear R hl;go_enter Tryz.func117,Tryz.ntmps117
 go_wp2_with (at_builtin;have q2:=k6c (k1D w (.cells #[.int .u8 (n / 256),.int .u8 (n % 256)] 5));refine k6v rfl _ _ rfl _ _ l HR.out (some ⟨w.heap.size,0,none⟩) [n / 256,n % 256] _ _ q2 (fun k=>by cases k) HO.out HL.out rfl rfl ?_;clear q2;intro v1 w2 R1 g1;have RA:=Ab R1;have GA:=Ab g1;clear R1 g1)
 go_ret;exact ⟨v1,rfl,RA.out,(World.grownBy_alloc w _ v.ownBlock).trans GA.out⟩
theorem k7O (w0 w:World) (base:Nat) (v:Value) (l:List Int) (n:Int) (R:Row w0 w base v l) (n0:0<=n) (n1:n<=4294967295) (hl:l.length<=900) :
 Calls Tryz.prog 118 #[v,.int .u32 n] w (Ret fun v' w'=>Row w0 w' base v' (l++[n / 16777216,n / 65536 % 256,n / 256 % 256,n % 256])):=by
 have HR:=Ab R;have HE:k08 (l++[n / 65536 / 256,n / 65536 % 256]++[n % 65536 / 256,n % 65536 % 256]=l++[n / 16777216,n / 65536 % 256,n / 256 % 256,n % 256]):=Ab (by
  rw [show n / 65536 / 256=n / 16777216 by omega,show n % 65536 / 256=n / 256 % 256 by omega,show n % 65536 % 256=n % 256 by omega,List.append_assoc];rfl)
 have ew:IntKind.u16.wrap n=n % 65536:=w16 n;have HL:=Ab hl;clear R hl;go_enter Tryz.func118,Tryz.ntmps118
 go_wp2_with fail
 refine (k1N w0 _ base v l _ HR.out zz1 zz1 zz63).mono ?_;rintro e w1 ⟨v1,rfl,R1,_⟩;have H1:=Ab R1;clear R1
 go_wp2_with fail
 refine (k1N w0 _ base v1 _ _ H1.out zz1 zz1 (by have:=HL.out;simp;omega)).mono ?_;rintro e w2 ⟨v2,rfl,R2,_⟩;have H2:=Ab R2;clear R2;go_wp2;go_ret;exact ⟨v2,rfl,by have:=H2.out;rwa [HE.out] at this⟩
def sound (k l a b y:Int):Bool:=(wire_Sound.f k l 0 a b y).getD false
theorem kbT (k l s a b y:Int):wire_Sound.f k l s a b y=some (sound k l a b y):=by
 unfold sound wire_Sound.f
 repeat' split
 all_goals rfl
theorem k1j (k l s a b y:Int) (w:World):Calls Tryz.prog 116 #[.agg #[.int .u8 k,.int .u8 l,.int .u16 s,.int .u8 a,.int .u8 b,.int .u32 y]] w fun e w'=>e = .returned (.bool (sound k l a b y))/\Below w.heap.size w w':=
 wire_Sound.calls k l s a b y _ w (kbT k l s a b y)
def pre (k l s a b y:Int):List Int:=[k,l]++[s / 256,s % 256]++(if k=1 then [a,b]++[y / 16777216,y / 65536 % 256,y / 256 % 256,y % 256] else [])
def enc (k l s a b y:Int):List Int:=pre k l s a b y++[crcI (pre k l s a b y) / 256,crcI (pre k l s a b y) % 256]
theorem Row.lift {w0 w w':World} {base:Nat} {v:Value} {l:List Int} (h:Row w w' base v l) (hb:Below w0.heap.size w0 w):Row w0 w' base v l:=
 ⟨h.1,k0B hb hb.size h.2.1,Nat.le_trans hb.size h.2.2.1,h.2.2.2.1,h.2.2.2.2⟩
theorem Row.bel {w0 w:World} {base:Nat} {v:Value} {l:List Int} (h:Row w0 w base v l):Below w0.heap.size w0 w:=h.2.1
def Enc (w:World) (l:List Int) (e:Ending) (w':World):Prop:=∃ base v,e = .returned (.tuple #[v,.int .u16 0])/\Row w w' base v l
def Box (W:World) (g:Nat) (k l s a b y:Int):Prop:=W.heap[g]? = some (.cells #[.int .u8 k,.int .u8 l,.int .u16 s,.int .u8 a,.int .u8 b,.int .u32 y] 163 (0,0))
theorem Box.cells {W:World} {g:Nat} {k l s a b y:Int} (h:Box W g k l s a b y):W.cell? ⟨g,0,none⟩=some (.int .u8 k)/\W.cell? ⟨g,1,none⟩=some (.int .u8 l)/\W.cell? ⟨g,2,none⟩=some (.int .u16 s)/\W.cell? ⟨g,3,none⟩=some (.int .u8 a)/\W.cell? ⟨g,4,none⟩=some (.int .u8 b)/\W.cell? ⟨g,5,none⟩=some (.int .u32 y):=
 ⟨(k00 h 0).trans rfl,(k00 h 1).trans rfl,(k00 h 2).trans rfl,(k00 h 3).trans rfl,(k00 h 4).trans rfl,(k00 h 5).trans rfl⟩
theorem Box.below {W W1:World} {g:Nat} {k l s a b y:Int} (h:Box W g k l s a b y) (hb:Below W.heap.size W W1):Box W1 g k l s a b y:=k0U h hb
theorem Box.grown {W W1:World} {g:Nat} {k l s a b y:Int} {row:Option Nat} (h:Box W g k l s a b y) (hg:W.grownBy W1 row) (hne:row≠some g):Box W1 g k l s a b y:=k0V h hg (fun e=>hne e.symm)
theorem Box.lt {W:World} {g:Nat} {k l s a b y:Int} (h:Box W g k l s a b y):g<W.heap.size:=k03 h
theorem k8X (k l s a b y:Int) (w:World) (k0:0<=k) (k1:k<=255) (l0:0<=l) (l1:l<=255) (s0:0<=s) (s1:s<=65535) (a0:0<=a) (a1:a<=255) (b0:0<=b) (b1:b<=255) (y0:0<=y) (y1:y<=4294967295) (h:sound k l a b y=true) (hk:¬ k=1) :
 Calls Tryz.prog 88 #[.agg #[.int .u8 k,.int .u8 l,.int .u16 s,.int .u8 a,.int .u8 b,.int .u32 y]] w (Enc w (enc k l s a b y)):=by
 have S:=Ab h;have EP:=Ab (show pre k l s a b y=[k,l]++[s / 256,s % 256] by unfold pre;rw [if_neg hk,List.append_nil]);have e1:(k == 1)=false:=beq_eq_false_iff_ne.mpr hk;have OK:=Ab (Oct.two k0 k1 l0 l1);have BX0:=Ab (show Box (w.alloc (.cells #[.int .u8 k,.int .u8 l,.int .u16 s,.int .u8 a,.int .u8 b,.int .u32 y] 163)) w.heap.size k l s a b y from k1D _ _);clear h hk;go_enter Tryz.func88,Tryz.ntmps88
 go_wp2_with fail
 refine (k1j k l s a b y _).mono ?_;rw [S.out];rintro e w1 ⟨rfl,hb⟩;have B1:=Ab (k0B (k0f (Below.refl w.heap.size w) (.cells #[.int .u8 k,.int .u8 l,.int .u16 s,.int .u8 a,.int .u8 b,.int .u32 y] 163)) zz17 hb);have BX1:=Ab (BX0.out.below hb);clear hb;obtain ⟨c0,c1,c2,c3,c4,c5⟩:=BX1.out.cells;obtain ⟨-,-,d2,-,-,-⟩:=(BX1.out.below (k0f (Below.refl _ _) (.cells #[.int .u8 k,.int .u8 l] 5))).cells
 go_wp2_with fail
 clear d2;refine (k1N w _ _ _ [k,l] s (Row.two B1.out k l OK.out) s0 s1 zz17).mono ?_;clear c0 c1 c2 c3 c4 c5;rintro e w2 ⟨v2,rfl,R2,g2⟩;have BX2:=Ab ((BX1.out.below (k0f (Below.refl _ _) (.cells #[.int .u8 k,.int .u8 l] 5))).grown g2 (by have:=BX1.out.lt;simp [Value.ownBlock];omega));have RA:=Ab R2;rw [<- EP.out] at RA;clear R2 g2;obtain ⟨c0,c1,c2,c3,c4,c5⟩:=BX2.out.cells
 go_wp2_with fail
 refine (k8R _ _ _ _ _ RA.out).mono ?_;clear c0 c1 c2 c3 c4 c5;rintro e w3 ⟨rfl,hb⟩;have RB:=Ab (RA.out.below hb);clear hb;have CR:=Ab (k0j RA.out.2.2.2.2)
 go_wp2_with fail
 refine (k1N w _ _ _ _ _ RB.out CR.out.1 CR.out.2 (by have:=EP.out;rw [this];simp)).mono ?_;rintro e w4 ⟨v4,rfl,R4,_⟩;have RC:=Ab R4;clear R4;go_wp2
 go_ret2
 exact ⟨_,v4,rfl,RC.out⟩
theorem k9P (k l s a b y:Int) (w:World) (k0:0<=k) (k1:k<=255) (l0:0<=l) (l1:l<=255) (s0:0<=s) (s1:s<=65535) (a0:0<=a) (a1:a<=255) (b0:0<=b) (b1:b<=255) (y0:0<=y) (y1:y<=4294967295) (h:sound k l a b y=true) (hk:k=1) :
 Calls Tryz.prog 88 #[.agg #[.int .u8 k,.int .u8 l,.int .u16 s,.int .u8 a,.int .u8 b,.int .u32 y]] w (Enc w (enc k l s a b y)):=by
 have S:=Ab h;have EP:=Ab (show pre k l s a b y=[k,l]++[s / 256,s % 256]++[a,b]++[y / 16777216,y / 65536 % 256,y / 256 % 256,y % 256] by unfold pre;rw [if_pos hk,List.append_assoc ([k,l]++[s / 256,s % 256])]);have e1:(k == 1)=true:=beq_iff_eq.mpr hk;have OK:=Ab (Oct.two k0 k1 l0 l1);have OA:=Ab (Oct.two a0 a1 b0 b1);have BX0:=Ab (show Box (w.alloc (.cells #[.int .u8 k,.int .u8 l,.int .u16 s,.int .u8 a,.int .u8 b,.int .u32 y] 163)) w.heap.size k l s a b y from k1D _ _);clear h hk;go_enter Tryz.func88,Tryz.ntmps88
 go_wp2_with fail
 refine (k1j k l s a b y _).mono ?_;rw [S.out];rintro e w1 ⟨rfl,hb⟩;have B1:=Ab (k0B (k0f (Below.refl w.heap.size w) (.cells #[.int .u8 k,.int .u8 l,.int .u16 s,.int .u8 a,.int .u8 b,.int .u32 y] 163)) zz17 hb);have BX1:=Ab (BX0.out.below hb);clear hb;obtain ⟨c0,c1,c2,c3,c4,c5⟩:=BX1.out.cells;obtain ⟨-,-,d2,-,-,-⟩:=(BX1.out.below (k0f (Below.refl _ _) (.cells #[.int .u8 k,.int .u8 l] 5))).cells
 go_wp2_with fail
 clear d2;refine (k1N w1 _ _ _ [k,l] s (Row.two (Below.refl _ _) k l OK.out) s0 s1 zz17).mono ?_;clear c0 c1 c2 c3 c4 c5;rintro e w2 ⟨v2,rfl,R2,g2⟩;have RA:=Ab R2;clear R2 g2;obtain ⟨c0,c1,c2,c3,c4,c5⟩:=(BX1.out.below RA.out.bel).cells
 go_wp2_with fail
 go_region_held3 (fun w'=>w'.cell? ⟨w.heap.size,3,none⟩=some (.int .u8 a)/\w'.cell? ⟨w.heap.size,4,none⟩=some (.int .u8 b)/\w'.cell? ⟨w.heap.size,5,none⟩=some (.int .u32 y))
  (first | go_keep | exact (BX1.out.below RB.out.bel).cells.2.2.2 | exact (BX1.out.below RC.out.bel).cells.2.2.2)
  (first | (refine kax rfl _ _ rfl _ _ ([k,l]++[s / 256,s % 256]) (Row.alloc (Row.drew RA.out) _) w2.heap.size a b _ (k6c (k1D _ _)) OA.out zz17 rfl rfl ?_;intro v3 w3 R3 g3;have RB:=Ab R3;clear R3 g3) | (refine (k7O w1 _ _ _ _ _ RB.out y0 y1 zz17).mono ?_;rintro e w4 ⟨v4,rfl,R4⟩;have RC:=Ab R4;clear R4))
 have RD:=Ab RC.out;rw [<- EP.out] at RD;clear RA RB RC
 go_wp2_with fail
 refine (k8R _ _ _ _ _ RD.out).mono ?_;rintro e w5 ⟨rfl,hb⟩;have RE:=Ab (RD.out.below hb);clear hb;have CR:=Ab (k0j RD.out.2.2.2.2)
 go_wp2_with fail
 refine (k1N w1 _ _ _ _ _ RE.out CR.out.1 CR.out.2 (by have:=EP.out;rw [this];simp)).mono ?_;rintro e w6 ⟨v6,rfl,R6,_⟩;have RF:=Ab (R6.lift B1.out);clear R6;go_wp2
 go_ret2
 exact ⟨_,v6,rfl,RF.out⟩
structure Fr where
 k:Int
 l:Int
 s:Int
 a:Int
 b:Int
 y:Int
  deriving DecidableEq
def Fr.zero:Fr:=⟨0,0,0,0,0,0⟩
def Fr.val (f:Fr):Value:=.agg #[.int .u8 f.k,.int .u8 f.l,.int .u16 f.s,.int .u8 f.a,.int .u8 f.b,.int .u32 f.y]
def Fr.sound (f:Fr):Bool:=Wire.sound f.k f.l f.a f.b f.y
def Fr.wf (f:Fr):Prop:=(0<=f.k/\f.k<=255)/\(0<=f.l/\f.l<=255)/\(0<=f.s/\f.s<=65535)/\(0<=f.a/\f.a<=255)/\(0<=f.b/\f.b<=255)/\(0<=f.y/\f.y<=4294967295)
def Fr.bytes (f:Fr):List Int:=Wire.enc f.k f.l f.s f.a f.b f.y
def At (W:World) (g:Nat) (f:Fr):Prop:=Box W g f.k f.l f.s f.a f.b f.y
theorem k3q (n c:Int) (n0:0<=n) (n1:n<16777216) (c0:0<=c) (c1:c<=255):bits .or .u32 (n*256) c=n*256+c:=by
 rw [u32_or _ _ zz1 zz1 zz1 zz1];have e:(n*256).toNat=256*n.toNat:=by omega
 rw [e,show (256:Nat)=2 ^ 8 from rfl,<- Nat.two_pow_add_eq_or_of_lt zz1];exact zz1
theorem kdc {w:World} {A:Option Addr} {n:Nat} {l:List Int} (h:ReadsInt w .u8 A n l):(Kd.int .u8).C w A n l:=
 ⟨h.1,h.2.1,fun hn=>by
  obtain ⟨ad,e,hc⟩:=h.2.2 hn;refine ⟨ad,e,fun j p hj=>⟨[.int .u8 p],rfl,rfl,fun i u hu=>?_⟩⟩;have hj':=(List.getElem?_eq_some_iff.1 hj).1;have hi:=(List.getElem?_eq_some_iff.1 hu).1
  match i,hi with
  | 0,_=>
    have:=hc j (by rw [<- h.1];exact hj');rw [show j*(Kd.int .u8).sz+0=j by show j*1+0=j;omega,this,<- hu,List.getD_eq_getElem?_getD,hj];rfl⟩
theorem k3S (ad:Addr) (c:Nat) (x y:Int) (w:World) (hr:ReadsInt w .u8 (some ad) 2 [x,y]) (hc:2<=c) (x0:0<=x) (x1:x<=255) (y0:0<=y) (y1:y<=255) :
 Calls Tryz.prog 133 #[.slice (some ad) 2 c] w fun e w'=>e = .returned (.int .u32 (x*256+y))/\Below w.heap.size w w':=by
 have hf:wire_read.f 3 [x,y]=some (x*256+y):=by
  have o1:=k3q 0 x zz1 zz1 x0 x1;have o2:=k3q x y x0 zz1 y0 y1;simp [wire_read.f,wire_read.l0,rd,wrap64,Int.emod_eq_of_lt x0 (by omega:x<4294967296),Int.emod_eq_of_lt y0 (by omega:y<4294967296),Int.emod_eq_of_lt (by omega:0<=x*256) (by omega:x*256<4294967296)] at o1 o2 ⊢;rw [o1,Int.emod_eq_of_lt (by omega:0<=x*256) (by omega:x*256<4294967296)];exact o2
 refine (wire_read.calls 3 (some ad) c [x,y] _ w (kdc hr) hc hf).mono ?_;rintro e w' ⟨rfl,hd⟩;exact ⟨rfl,hd.below⟩
theorem kcA (ad:Addr) (c:Nat) (x y z u:Int) (w:World) (hr:ReadsInt w .u8 (some ad) 4 [x,y,z,u]) (hc:4<=c) (x0:0<=x) (x1:x<=255) (y0:0<=y) (y1:y<=255) (z0:0<=z) (z1:z<=255) (u0:0<=u) (u1:u<=255) :
 Calls Tryz.prog 133 #[.slice (some ad) 4 c] w fun e w'=>e = .returned (.int .u32 (x*16777216+y*65536+z*256+u))/\Below w.heap.size w w':=by
 have hf:wire_read.f 5 [x,y,z,u]=some (x*16777216+y*65536+z*256+u):=by
  have o1:=k3q 0 x zz1 zz1 x0 x1;have o2:=k3q x y x0 zz1 y0 y1;have o3:=k3q (x*256+y) z zz1 zz1 z0 z1;have o4:=k3q ((x*256+y)*256+z) u zz1 zz1 u0 u1;simp [wire_read.f,wire_read.l0,rd,wrap64,Int.emod_eq_of_lt x0 (by omega:x<4294967296),Int.emod_eq_of_lt y0 (by omega:y<4294967296),Int.emod_eq_of_lt z0 (by omega:z<4294967296),Int.emod_eq_of_lt u0 (by omega:u<4294967296)] at o1 o2 o3 o4 ⊢;rw [o1,Int.emod_eq_of_lt (by omega:0<=x*256) (by omega:x*256<4294967296),o2,Int.emod_eq_of_lt (by omega:0<=(x*256+y)*256) (by omega:(x*256+y)*256<4294967296),o3,Int.emod_eq_of_lt (by omega:0<=((x*256+y)*256+z)*256) (by omega:((x*256+y)*256+z)*256<4294967296),o4];exact zz1
 refine (wire_read.calls 5 (some ad) c [x,y,z,u] _ w (kdc hr) hc hf).mono ?_;rintro e w' ⟨rfl,hd⟩;exact ⟨rfl,hd.below⟩
theorem k0J {P:Program} {fn:Func} {p u:Tmp} {ty:TypeId} (h:fn.results = #[.cell p ty,.tmp u]) (tmps:Array Value) (w:World) (g:Nat) (t:TypeId) (cs:Array Value) (fr:Nat × Nat) (d:TypeDesc)
 (hp:tmps.getD p undef = .pointer (some ⟨g,0,none⟩)) (hg:w.heap[g]? = some (.cells cs t fr))
 (hu:P.underlying ty=some d) (hd:(match d with | .struct _ | .array _ _=>true | _=>false)=true) (hi:(P.info? ty).map (·.size)=some cs.size) :
 (results fn tmps).run P w = .ok (.tuple #[.agg cs,tmps.getD u undef]) w:=by
 rw [results_cell_tmp h,hp];simp [asAddr,Result.andThen,run_loadVar_row w g t ty cs fr d hg hu hd hi]
end Go.Proofs.YtdopmlopafgonaaGreatDoor.Wire
