/- TopOrder: of each flow what came is some of what was injected, in its order (a part of the walks and of the plain laws). -/
import Derived.Test.YtdopmlopafgonaaGreatDoorD0
import Derived.Test.YtdopmlopafgonaaGreatDoorD13
import Derived.Test.YtdopmlopafgonaaGreatDoorD17
set_option linter.unusedVariables false
set_option linter.unusedSimpArgs false
set_option maxHeartbeats 4000000
set_option maxRecDepth 100000
namespace Go.Proofs.YtdopmlopafgonaaGreatDoor.Own
open Go.RowKit Go.Proofs.YtdopmlopafgonaaGreatDoorW.PrintWords Go.Proofs.YtdopmlopafgonaaGreatDoorW.PrintLast Go.Proofs.YtdopmlopafgonaaGreatDoorW.PrintMore
theorem min3(i j k:Nat):∃m:Int,0<=m/\∀W:World,(Builtin.min_ #[3,3,3] 3 #[.int .i64 i,.int .i64 j,.int .i64 k]).run Tryz.prog W=.ok (.int .i64 m) W:=by
 simp only[k1b,k1j];refine⟨_,?_,fun W=>by simp[Sem.run_bind];rfl⟩;split<;>(try split)<;>omega
theorem max2(i j:Nat)(p:Int)(h1:(i:Int)<p)(h2:(j:Int)<p):∃m:Int,m<p/\∀W:World,(Builtin.max_ #[3,3] 3 #[.int .i64 i,.int .i64 j]).run Tryz.prog W=.ok (.int .i64 m) W:=by
 simp only[k1u,k1c];refine⟨_,?_,fun W=>by simp[Sem.run_bind];rfl⟩;split<;>omega
abbrev Way:=Nat×Nat×Nat
def way(a:Way):Value:=.agg #[.int .i64 a.1,.int .i64 a.2.1,.int .i64 a.2.2]
theorem kcC{a b:Way}(h:way a=way b):a=b:=by
 obtain⟨a1,a2,a3⟩:=a;obtain⟨b1,b2,b3⟩:=b;simp only[way,Value.agg.injEq,Array.mk.injEq,List.cons.injEq,Value.int.injEq,true_and,and_true]at h;obtain⟨h1,h2,h3⟩:=h;have h1:a1=b1:=by omega
 have h2:a2=b2:=zz1
 have h3:a3=b3:=zz1
 rw[h1,h2,h3]
theorem kdq(w:World):(zeroValue 29).run Tryz.prog w=.ok (.slice none 0 0) w:=by kernel_rfl
def mapQ:kat Way where
 κ:=way
 good a:=a.1<4611686018427387904/\a.2.1<4611686018427387904/\a.2.2<4611686018427387904
 t:=198
 k:=203
 e:=29
 z:=.slice none 0 0
 law:=kdh
 ht:=Tryz.underlying198
 hz:=kdq
 inj:=kcC
 key a h:=key3 a.1 a.2.1 a.2.2 h.1 h.2.1 h.2.2
theorem k4F(w:World)(g:Nat)(p l:Int)(a:Way)(v0 v1:Value)(hh:w.heap[g]? = some (.cells #[v0,v1,.int .i64 p,.int .i64 l] 200 (0,0)))(h1:(a.1:Int)<p)(h2:(a.2.1:Int)<p)(h3:(a.2.2:Int)<l) :
 Calls Tryz.prog 144 #[.pointer (some ⟨g,0,none⟩),way a] w fun e w'=>e=.returned (.bool true)/\Below w.heap.size w w':=by
 obtain⟨i,j,k⟩:=a;simp only at h1 h2 h3;show Calls Tryz.prog 144 #[.pointer (some ⟨g,0,none⟩),.agg #[.int .i64 i,.int .i64 j,.int .i64 k]] w _;have hh':=(Below.heap_alloc w (.cells #[.int .i64 i,.int .i64 j,.int .i64 k] 203) g (k03 hh)).trans hh;have c2:(w.alloc (.cells #[.int .i64 i,.int .i64 j,.int .i64 k] 203)).cell? ⟨g,2,none⟩=some (.int .i64 p):=k00 hh' 2;have c3:(w.alloc (.cells #[.int .i64 i,.int .i64 j,.int .i64 k] 203)).cell? ⟨g,3,none⟩=some (.int .i64 l):=k00 hh' 3;obtain⟨m1,hm1,hr1⟩:=min3 i j k;obtain⟨m2,hm2,hr2⟩:=max2 i j p h1 h2;have hn:=heap_alloc_new w (.cells #[.int .i64 i,.int .i64 j,.int .i64 k] 203);have HS:=Ab (And.intro (k00 hn 0) (And.intro (k00 hn 1) (And.intro (k00 hn 2) (And.intro c2 c3))));simp only[List.getElem?_toArray,List.getElem?_cons_zero,List.getElem?_cons_succ]at HS;clear hn;go_enter Tryz.func144,Tryz.ntmps144;go_wp2;refine WpL.region (fun W=>W.cell? ⟨w.heap.size,0,none⟩=some (.int .i64 i)/\W.cell? ⟨w.heap.size,1,none⟩=some (.int .i64 j)/\W.cell? ⟨w.heap.size,2,none⟩=some (.int .i64 k)/\W.cell? ⟨g,2,none⟩=some (.int .i64 p)/\W.cell? ⟨g,3,none⟩=some (.int .i64 l)) 29 zz2 ?_;refine WpL.T 0 [] HS.1 ?_;refine WpL.T 1 [] HS.1 ?_;refine WpL.T 2 [] HS.1 ?_;refine WpL.T 3 [] HS.1 ?_;refine WpL.T 4 [] HS.1 ?_;refine WpL.T 5 [] HS.1 ?_;refine WpL.T 6 [] HS.1 ?_;refine WpL.T 7 [] HS.1 ?_;refine WpL.T 8 [] HS.1 ?_;refine WpL.T 9 [] HS.1 ?_;refine WpL.T 10 [] HS.1 ?_;refine WpL.T 11 [] HS.1 ?_;refine WpL.T 12 [] HS.1 ?_;refine WpL.T 13 [] HS.1 ?_;refine WpL.T 14 [] HS.1 ?_;refine WpL.T 15 [] HS.1 ?_;refine WpL.T 16 [] HS.1 ?_;refine WpL.T 17 [] HS.1 ?_;refine WpL.T 18 [] HS.1 ?_;refine WpL.T 19 [] HS.1 ?_;refine WpL.T 20 [] HS.1 ?_;refine WpL.T 21 [] HS.1 ?_;refine WpL.T 22 [] HS.1 ?_;refine WpL.T 23 [] HS.1 ?_;refine WpL.T 24 [] HS.1 ?_;refine WpL.T 25 [] HS.1 ?_;refine WpL.T 26 [] HS.1 ?_;refine WpL.T 27 [] HS.1 ?_;refine WpL.T 28 [] HS.1 ?_;refine WpL.one (i:=29) zz2 rfl (fun K hK=>?_);go_simp;refine hK.out _ _ (fun h=>absurd rfl h) ?_;clear hK K
 try refine Sm ?_
 refine WpL.done zz2 ?_ _;go_wp2;go_ret;exact⟨rfl,((Below.refl _ _).alloc (Nat.le_refl _) _).drew⟩
def i64s(l:List Nat):List Value:=l.map fun(i:Nat)=>Value.int .i64 (i:Int)
structure RingsIn where
 gp:Nat
 mb:Nat
 f:Nat->Option Pk
 l:List Nat
 qs:Way->List Nat
 v:Way->Value
 gq:Way->Nat
structure RingsIn.ok(X:RingsIn)(w:World)(o:Nat->Col)(c:Col)(n:Nat)(q:Way->List Pk):Prop where
 om:o X.mb=c
 map:MapAt mapQ w X.mb (fun a=>if X.qs a=[] then none else some (X.v a))
 row:∀a,X.qs a≠[]->Row w (X.v a) 3 1 (X.qs a).length (i64s (X.qs a)) (some (X.gq a))
 og:∀a,X.qs a≠[]->o (X.gq a)=c
 apart:∀a b,X.qs a≠[]->X.qs b≠[]->X.gq a=X.gq b->a=b
 hold:∀a,(X.qs a).map X.f=(q a).map some
 lt:∀a,∀i∈X.qs a,i<n
 nodup:∀a,(X.qs a).Nodup
 once:∀a b i,i∈X.qs a->i∈X.qs b->a=b
 all:∀i,i<n->X.f i≠none->∃a,i∈X.qs a
def RingsAt(w:World)(o:Nat->Col)(c d:Col)(g:Nat)(p k:Int)(n:Nat)(q:Way->List Pk):Prop:=
 o g=c/\∃X:RingsIn,w.heap[g]? = some (.cells #[.pointer (some ⟨X.gp,0,none⟩),.map (some X.mb),.int .i64 p,.int .i64 k] 200 (0,0))/\PoolAt w o d X.gp n X.f X.l/\X.ok w o c n q/\p<=16/\k<=3
section
variable{w:World}{o:Nat->Col}{c d:Col}{g n:Nat}{p k:Int}{q:Way->List Pk}
theorem RingsIn.ok.tr{S:Col->Prop}{w':World}{o':Nat->Col}{X:RingsIn}(h:X.ok w o c n q)(t:Tr S o w o' w')(hc:¬S c):X.ok w' o' c n q:=
 { h with
   om:=(t.own _ h.map.lt).trans h.om
   map:=h.map.of_blk (t.only.same h.map.lt (by rw[h.om];exact hc))
   row:=fun a ha=>(h.row a ha).only t.only (fun b e=>by cases e;rw[h.og a ha];exact hc)
   og:=fun a ha=>(t.own _ ((h.row a ha).lt rfl)).trans (h.og a ha) }
theorem RingsAt.tr{S:Col->Prop}{w':World}{o':Nat->Col}(h:RingsAt w o c d g p k n q)(t:Tr S o w o' w')(hc:¬S c)(hd:¬S d):RingsAt w' o' c d g p k n q:=by
 obtain⟨hg,X,hh,hp,hX,hpk⟩:=h;exact⟨(t.own _ (k03 hh)).trans hg,X,t.blk hh (by rw[hg];exact hc),hp.tr t hd,hX.tr t hc,hpk⟩
theorem RingsIn.ok.len{X:RingsIn}(h:X.ok w o c n q)(a:Way):(X.qs a).length=(q a).length:=by
 have:=congrArg List.length (h.hold a);exact zz39
theorem RingsIn.ok.look{X:RingsIn}(h:X.ok w o c n q)(i j m:Nat)(hi:i<16)(hj:j<16)(hm:m<3) :
 ∃A cap,(Instr.lookup 198 (.map (some X.mb)) (.agg #[.int .i64 i,.int .i64 j,.int .i64 m]) false).run Tryz.prog w=.ok (.slice A (q (i,j,m)).length cap) w /\
  ((q (i,j,m)=[]/\A=none/\cap=0)\/(X.qs (i,j,m)≠[]/\X.v (i,j,m)=.slice A (q (i,j,m)).length cap/\Row w (.slice A (q (i,j,m)).length cap) 3 1 (q (i,j,m)).length (i64s (X.qs (i,j,m))) (some (X.gq (i,j,m))))):=by
 have hl:=h.map.look (i,j,m) ⟨by show i<_;omega,by show j<_;omega,by show m<_;omega⟩;have hlen:=h.len (i,j,m);by_cases e:X.qs (i,j,m)=[]
 ·rw[if_pos e]at hl
  have e2:q (i,j,m)=[]:=List.eq_nil_of_length_eq_zero (by rw[<- hlen,e];rfl);exact⟨none,0,by rw[e2];exact hl,.inl ⟨e2,rfl,rfl⟩⟩
 ·rw[if_neg e]at hl
  have hr:=h.row _ e;obtain⟨A,cap,hv,_⟩:=hr.size;rw[hv]at hl hr;rw[hlen]at hl hr hv;exact⟨A,cap,hl,.inr ⟨e,hv,hr⟩⟩
theorem k4s(i j m:Nat)(H:RingsAt w o c d g p k n q)(hi:i<16)(hj:j<16)(hm:m<3) :
 Calls Tryz.prog 75 #[.pointer (some ⟨g,0,none⟩),.int .i64 i,.int .i64 j,.int .i64 m] w fun e w'=>e=.returned (.int .i64 (q (i,j,m)).length)/\w=w':=by
 obtain⟨hg,X,hh,hp,hX,hpk⟩:=H;obtain⟨A,cap,hl,_⟩:=hX.look i j m hi hj hm;have c1:w.cell? ⟨g,1,none⟩=some (.map (some X.mb)):=k00 hh 1;clear hX hp;go_enter Tryz.func75,Tryz.ntmps75;exact zz16
end
def updw{α : Type}(r:Way -> α)(a:Way)(x : α):Way -> α:=fun b=>if b=a then x else r b
theorem k0m{α : Type}(r:Way -> α)(a:Way)(x : α):updw r a x a=x:=by simp[updw]
theorem k0i{α : Type}(r:Way -> α){a b:Way}(x : α)(h:b≠a):updw r a x b=r b:=by simp[updw,h]
theorem k0B{w:World}{b:Nat}{m:Way->Option Value}(h:MapAt mapQ w b m){g:Nat}{cs:Array Value}{T:TypeId}{fr:Nat×Nat}(hg:w.heap[g]? = some (.cells cs T fr)):g≠b:=by
 rintro rfl;obtain⟨es,clock,hh,_⟩:=h;rw[hg]at hh;cases hh
section
variable{w:World}{o:Nat->Col}{c d:Col}{g n:Nat}{p k:Int}{q:Way->List Pk}
theorem RingsIn.ok.vrow{X:RingsIn}(h:X.ok w o c n q)(a:Way):∃A cap gV,((if X.qs a=[] then none else some (X.v a)).getD mapQ.z)=.slice A (X.qs a).length cap/\Row w (.slice A (X.qs a).length cap) 3 1 (X.qs a).length (i64s (X.qs a)) gV/\((gV=none/\X.qs a=[])\/(gV=some (X.gq a)/\X.qs a≠[])):=by
 by_cases e:X.qs a=[]
 ·refine⟨none,0,none,by rw[if_pos e,e];rfl,by rw[e];exact Row.nil _ _ _,.inl ⟨rfl,e⟩⟩
 ·have hr:=h.row a e
  obtain⟨A,cap,hv,_⟩:=hr.size;rw[hv]at hr;exact⟨A,cap,some (X.gq a),by rw[if_neg e,<- hv];rfl,hr,.inr ⟨rfl,e⟩⟩
theorem kaQ{w6:World}{X:RingsIn}{a:Way}{x:Pk}{s:Nat}{l':List Nat}{gV:Option Nat}{b2:Nat}{V V2:Value}(hcd:c≠d)(hg:o g=c)(hX:X.ok w o c n q)(P3:PoolAt w o d X.gp n (upd X.f s (some x)) l')(hs:X.f s=none)(hsn:s<n)(hpk:p<=16/\k<=3)
 (hh:w.heap[g]? = some (.cells #[.pointer (some ⟨X.gp,0,none⟩),.map (some X.mb),.int .i64 p,.int .i64 k] 200 (0,0))) (hgV:(gV=none/\X.qs a=[])\/(gV=some (X.gq a)/\X.qs a≠[]))
 (M6:MapAt mapQ w6 X.mb (fun y=>if y=a then some V2 else(if y=a then some V else(if X.qs y=[] then none else some (X.v y)))))
 (R6:Row w6 V2 3 1 ((X.qs a).length+1) (i64s (X.qs a)++[.int .i64 s]) (some b2)) (G6:some b2=gV\/w.heap.size<=b2) (O6:Only (fun b=>b=X.mb\/gV=some b) w w6) :
 Tr (fun y=>y=c) o w (paint o w.heap.size w6.heap.size c) w6/\RingsAt w6 (paint o w.heap.size w6.heap.size c) c d g p k n (updw q a (q a++[x])):=by
 have hgVc:∀b,gV=some b->o b=c:=fun b e=>by
  rcases hgV with⟨h,_⟩|⟨h,hne⟩
  ·rw[h]at e;cases e
  ·rw[h]at e;cases e;exact hX.og a hne
 have O:Only (fun b=>o b=c) w w6:=O6.mono (fun b _ e=>by
  rcases e with rfl|e
  ·exact hX.om
  ·exact hgVc b e)
 have T:=Tr.paint (S:=fun y=>y=c) (o:=o) c O;have hgne:g≠X.mb:=k0B hX.map hh;have hgV2:gV≠some g:=fun e=>by
  rcases hgV with⟨h,_⟩|⟨h,hne⟩
  ·rw[h]at e;cases e
  ·rw[h]at e
   exact(hX.row a hne).ne hh zz7 e
 have hsq:∀y,s ∉ X.qs y:=fun y h=>by
  have h1:=congrArg (fun z=>z) (hX.hold y);obtain⟨i,hi,he⟩:=List.mem_iff_getElem.1 h;have h2:((X.qs y).map X.f)[i]? = some none:=by rw[List.getElem?_map,List.getElem?_eq_getElem hi,he,Option.map_some,hs]
  rw[hX.hold y,List.getElem?_map]at h2
  cases hq:(q y)[i]? with
  |none=>rw[hq]at h2;cases h2
  |some z=>rw[hq]at h2;cases h2
 have hrow:∀y,y≠a->X.qs y≠[]->X.gq y≠X.mb/\gV≠some (X.gq y):=fun y hy hne=>by
  obtain⟨cur,hc⟩:=(hX.row y hne).blk_ty;refine⟨k0B hX.map hc,fun e=>?_⟩;rcases hgV with⟨h,_⟩|⟨h,hne'⟩
  ·rw[h]at e;cases e
  ·rw[h]at e
   injection e with e
   exact hy (hX.apart y a hne hne' e.symm)
 refine⟨T,(k0v _ _ (k03 hh)).trans hg,⟨X.gp,X.mb,upd X.f s (some x),l',updw X.qs a (X.qs a++[s]),updw X.v a V2,updw X.gq a b2⟩,?_,P3.tr T (Ne.symm hcd),?_,hpk⟩
 ·exact(O6.keep g (k03 hh) (fun e=>e.elim hgne hgV2)).trans hh
 ·refine⟨(k0v _ _ hX.map.lt).trans hX.om,?_,fun y hy=>?_,fun y hy=>?_,fun y z hy hz e=>?_,fun y=>?_,fun y i hi=>?_,fun y=>?_,fun y z i hy hz=>?_,fun i hi hf=>?_⟩
  ·have:(fun y=>if y=a then some V2 else(if y=a then some V else(if X.qs y=[] then none else some (X.v y))))=(fun y=>if updw X.qs a (X.qs a++[s]) y=[] then none else some (updw X.v a V2 y)):=by
    funext y;by_cases e:y=a
    ·subst e;simp[updw]
    ·simp[updw,e]
   rw[<- this];exact M6
  ·show Row w6 (updw X.v a V2 y) 3 1 (updw X.qs a (X.qs a++[s]) y).length (i64s (updw X.qs a (X.qs a++[s]) y)) (some (updw X.gq a b2 y))
   by_cases e:y=a
   ·subst e
    rw[k0m,k0m,k0m,List.length_append];simpa[i64s] using R6
   ·rw[k0i _ _ e,k0i _ _ e,k0i _ _ e]
    have hy':X.qs y≠[]:=by simpa[updw,e] using hy
    exact(hX.row y hy').only O6 (fun b e'=>by cases e';exact fun h=>h.elim (hrow y e hy').1 (hrow y e hy').2)
  ·show paint o w.heap.size w6.heap.size c (updw X.gq a b2 y)=c
   by_cases e:y=a
   ·subst e
    rw[k0m];rcases G6 with h|h
    ·exact k7W _ _ (by rcases Nat.lt_or_ge b2 w.heap.size with h'|h';exact .inl ⟨h',hgVc b2 h.symm⟩;exact .inr h') (R6.lt rfl)
    ·exact k0C _ _ h (R6.lt rfl)
   ·rw[k0i _ _ e]
    have hy':X.qs y≠[]:=by simpa[updw,e] using hy
    rw[k0v _ _ ((hX.row y hy').lt rfl)];exact hX.og y hy'
  ·have new:∀y,y≠a->X.qs y≠[]->X.gq y≠b2:=fun y hy hne e=>by
    rcases G6 with h|h
    ·exact(hrow y hy hne).2 (by rw[<- h,e])
    ·have:=(hX.row y hne).lt rfl
     omega
   by_cases ey:y=a
   ·by_cases ez:z=a
    ·rw[ey,ez]
    ·have hz':X.qs z≠[]:=by simpa[updw,ez] using hz
     simp only[updw,ey,ez,if_true,if_false]at e;exact absurd e.symm (new z ez hz')
   ·have hy':X.qs y≠[]:=by simpa[updw,ey] using hy
    by_cases ez:z=a
    ·simp only[updw,ey,ez,if_true,if_false]at e
     exact absurd e (new y ey hy')
    ·have hz':X.qs z≠[]:=by simpa[updw,ez] using hz
     simp only[updw,ey,ez,if_false]at e;exact hX.apart y z hy' hz' e
  ·have keep:∀y,(X.qs y).map (upd X.f s (some x))=(q y).map some:=fun y=>by
    rw[<- hX.hold y];exact List.map_congr_left fun i hi=>k06 _ _ (fun e=>hsq y (e▸hi))
   show(updw X.qs a (X.qs a++[s]) y).map (upd X.f s (some x))=(updw q a (q a++[x]) y).map some;by_cases e:y=a
   ·subst e
    rw[k0m,k0m,List.map_append,List.map_append,keep];simp[upd]
   ·rw[k0i _ _ e,k0i _ _ e];exact keep y
  ·by_cases e:y=a
   ·subst e
    simp only[k0m,List.mem_append,List.mem_singleton]at hi;rcases hi with hi|rfl
    ·exact hX.lt y i hi
    ·exact hsn
   ·simp only[k0i _ _ e]at hi;exact hX.lt y i hi
  ·by_cases e:y=a
   ·subst e
    simp only[k0m];rw[List.nodup_append];exact⟨hX.nodup y,zz6,fun i hi j hj=>by simp at hj;subst hj;exact fun e=>hsq y (e▸hi)⟩
   ·simp only[k0i _ _ e];exact hX.nodup y
  ·have mem:∀y i,i∈updw X.qs a (X.qs a++[s]) y->i∈X.qs y\/(y=a/\i=s):=fun y i h=>by
    by_cases e:y=a
    ·subst e
     simp only[k0m,List.mem_append,List.mem_singleton]at h;exact h.imp id (fun h=>⟨rfl,h⟩)
    ·simp only[k0i _ _ e]at h;exact .inl h
   rcases mem y i hy with h1|⟨h1,h1'⟩
   ·rcases mem z i hz with h2|⟨h2,h2'⟩
    ·exact hX.once y z i h1 h2
    ·subst h2';exact absurd h1 (hsq y)
   ·rcases mem z i hz with h2|⟨h2,h2'⟩
    ·subst h1';exact absurd h2 (hsq z)
    ·rw[h1,h2]
  ·by_cases e:i=s
   ·subst e
    exact⟨a,by simp[k0m]⟩
   ·have hf':X.f i≠none:=by simpa[upd,e] using hf
    obtain⟨y,hy⟩:=hX.all i hi hf';refine⟨y,?_⟩;by_cases ey:y=a
    ·subst ey;simp[k0m,hy]
    ·simp only[k0i _ _ ey];exact hy
end
theorem kcE{w:World}{b:Nat}{v:Value}{T:TypeId}{fr:Nat×Nat}(h:w.heap[b]? = some (.cells #[v] T fr)):∀j u,[v][j]? = some u->w.cell? ((⟨b,0,none⟩:Addr).add j)=some u:=by
 intro j u hj;rw[Addr.add_lit,Nat.zero_add,cell_of_row w b j _ T fr h];exact zz83
section
variable{w:World}{o:Nat->Col}{c d:Col}{g n:Nat}{p k:Int}{q:Way->List Pk}
theorem PoolAt.blw{w':World}{f:Nat->Option Pk}{l:List Nat}(h:PoolAt w o c g n f l)(t:Below w.heap.size w w'):PoolAt w' o c g n f l:=by
 obtain⟨hg,gs,bx,cur,hgs,hh,hs,hz,hn,h1,h2,h3⟩:=h;exact⟨hg,gs,bx,cur,hgs,(t.block _ (k03 hh)).trans hh,(t.block _ (k03 hs)).trans hs,hz,hn,h1,fun i x hi hx=>by
  obtain⟨k1,k2⟩:=h2 i x hi hx;exact⟨k1,(t.block _ (k03 k2)).trans k2⟩,h3⟩
theorem RingsIn.ok.blw{w':World}{X:RingsIn}(h:X.ok w o c n q)(t:Below w.heap.size w w'):X.ok w' o c n q:=
 { h with
   map:=h.map.of_blk (t.block _ h.map.lt)
   row:=fun a ha=>(h.row a ha).below t }
theorem RingsAt.blw{w':World}(h:RingsAt w o c d g p k n q)(t:Below w.heap.size w w'):RingsAt w' o c d g p k n q:=by
 obtain⟨hg,X,hh,hp,hX,hpk⟩:=h;exact⟨hg,X,(t.block _ (k03 hh)).trans hh,hp.blw t,hX.blw t,hpk⟩
theorem Fresh.blw{w':World}(h:Fresh o w)(t:Below w.heap.size w w'):Fresh o w':=fun b hb=>h b (Nat.le_trans t.size hb)
theorem k4C(i j m:Nat)(x:Pk)(hf:Fresh o w){X:RingsIn}(hh:w.heap[g]? = some (.cells #[.pointer (some ⟨X.gp,0,none⟩),.map (some X.mb),.int .i64 p,.int .i64 k] 200 (0,0)))(hp:PoolAt w o d X.gp n X.f [])(hX:X.ok w o c n q)(H:RingsAt w o c d g p k n q)(hi:(i:Int)<p)(hj:(j:Int)<p)(hm:(m:Int)<k) :
 Calls Tryz.prog 121 #[.pointer (some ⟨g,0,none⟩),.int .i64 i,.int .i64 j,.int .i64 m,.agg #[.int .i64 x.src,.int .i64 x.dst,.int .i64 x.lane,.int .u32 x.body]] w fun e w'=>e=.returned (.bool false)/\Below w.heap.size w w':=by
 have B0:=Ab (((Below.refl w.heap.size w).alloc (Nat.le_refl _) (.cells #[.int .i64 x.src,.int .i64 x.dst,.int .i64 x.lane,.int .u32 x.body] 40)).alloc zz6 (.cells #[.int .i64 i,.int .i64 j,.int .i64 m] 203));have N0:=Ac (((w.alloc (.cells #[.int .i64 x.src,.int .i64 x.dst,.int .i64 x.lane,.int .u32 x.body] 40)).alloc (.cells #[.int .i64 i,.int .i64 j,.int .i64 m] 203)).heap[w.heap.size]? = some (.cells #[.int .i64 x.src,.int .i64 x.dst,.int .i64 x.lane,.int .u32 x.body] 40)) ((Below.heap_alloc _ _ _ zz6).trans (heap_alloc_new w _));have N1:=Ac (((w.alloc (.cells #[.int .i64 x.src,.int .i64 x.dst,.int .i64 x.lane,.int .u32 x.body] 40)).alloc (.cells #[.int .i64 i,.int .i64 j,.int .i64 m] 203)).heap[w.heap.size+1]? = some (.cells #[.int .i64 i,.int .i64 j,.int .i64 m] 203)) zz42;have HH0:=Ab ((B0.1.block g (k03 hh)).trans hh);have HR:=Ab (fun W (hW:W.heap[g]? = some (.cells #[.pointer (some ⟨X.gp,0,none⟩),.map (some X.mb),.int .i64 p,.int .i64 k] 200 (0,0)))=>k4F W g p k (i,j,m) _ _ hW hi hj hm);have H0:=Ab H;have HX:=Ab hX;have HP:=Ab hp;have HF:=Ab hf;clear hX hp hf H hh;go_enter Tryz.func121,Tryz.ntmps121
 go_wp2_with(go_at_call 144;refine(HR.1 _ HH0.1).mono ?_;rintro e w1 ⟨rfl,hb⟩;have B1:=Ab (k0D B0.1 B0.1.size hb);have N01:=Ab ((hb.block w.heap.size (k03 N0.1)).trans N0.1);have N11:=Ab ((hb.block (w.heap.size+1) (k03 N1.1)).trans N1.1);have HH1:=Ab ((hb.block g (k03 HH0.1)).trans HH0.1);clear hb)
 have HS:=Sat.mk (S:=fun(W:World)=>W.cell? ⟨g,0,none⟩=some (.pointer (some ⟨X.gp,0,none⟩))/\W.cell? ⟨w.heap.size,0,none⟩=some (.int .i64 x.src)/\W.cell? ⟨w.heap.size,1,none⟩=some (.int .i64 x.dst)/\W.cell? ⟨w.heap.size,2,none⟩=some (.int .i64 x.lane)/\W.cell? ⟨w.heap.size,3,none⟩=some (.int .u32 x.body)) (w:=w1) zz99;refine WpL.rg HS 10 zz2 ?_;refine WpL.T 0 [] HS.1 ?_;refine WpL.T 1 [] HS.1 ?_;refine WpL.T 2 [] HS.1 ?_;refine WpL.T 3 [] HS.1 ?_;refine WpL.T 4 [] HS.1 ?_;refine WpL.one (i:=5) zz2 rfl (fun K hK=>?_);go_simp;refine(k67 x (HP.1.blw B1.1.drew)).mono ?_;rintro e w3 ⟨rfl,hb⟩;have B3:=Ab (undrew hb);have HS3:=HS.to w3 (by obtain⟨k0,k1,k2,k3,k4⟩:=HS.1;exact⟨k01 B3.1 k0,k01 B3.1 k1,k01 B3.1 k2,k01 B3.1 k3,k01 B3.1 k4⟩);clear hb;simp only[];refine hK.out _ _ (fun _=>HS3.1) ?_;clear hK K
 try refine Sm ?_
 refine WpL.T 6 [] HS3.1 ?_;refine WpL.T 7 [] HS3.1 ?_;refine WpL.T 8 [] HS3.1 ?_;refine WpL.T 9 [] HS3.1 ?_;refine WpL.one (i:=10) zz2 rfl (fun K hK=>?_);go_simp;refine hK.out _ _ (fun h=>absurd rfl h) ?_;clear hK K
 try refine Sm ?_
 refine WpL.done zz2 ?_ _;go_wp2;go_ret;exact⟨rfl,k0D B1.1 B1.1.size B3.1⟩
theorem k5H(i j m:Nat)(x:Pk)(hf:Fresh o w){X:RingsIn}{s:Nat}{l':List Nat}(hcd:c≠d)(hcj:c≠.junk)(hdj:d≠.junk)(hg:o g=c)(hpk:p<=16/\k<=3)(hh:w.heap[g]? = some (.cells #[.pointer (some ⟨X.gp,0,none⟩),.map (some X.mb),.int .i64 p,.int .i64 k] 200 (0,0)))(hl:X.l=s :: l')(hp:PoolAt w o d X.gp n X.f (s :: l'))(hX:X.ok w o c n q)(H:RingsAt w o c d g p k n q)(hi:(i:Int)<p)(hj:(j:Int)<p)(hm:(m:Int)<k) :
 Calls Tryz.prog 121 #[.pointer (some ⟨g,0,none⟩),.int .i64 i,.int .i64 j,.int .i64 m,.agg #[.int .i64 x.src,.int .i64 x.dst,.int .i64 x.lane,.int .u32 x.body]] w fun e w'=>e=.returned (.bool true)/\∃o',Tr (fun y=>y=c\/y=d) o w o' w'/\RingsAt w' o' c d g p k n (updw q (i,j,m) (q (i,j,m)++[x])):=by
 have B0:=Ab (((Below.refl w.heap.size w).alloc (Nat.le_refl _) (.cells #[.int .i64 x.src,.int .i64 x.dst,.int .i64 x.lane,.int .u32 x.body] 40)).alloc zz6 (.cells #[.int .i64 i,.int .i64 j,.int .i64 m] 203));have N0:=Ac (((w.alloc (.cells #[.int .i64 x.src,.int .i64 x.dst,.int .i64 x.lane,.int .u32 x.body] 40)).alloc (.cells #[.int .i64 i,.int .i64 j,.int .i64 m] 203)).heap[w.heap.size]? = some (.cells #[.int .i64 x.src,.int .i64 x.dst,.int .i64 x.lane,.int .u32 x.body] 40)) ((Below.heap_alloc _ _ _ zz6).trans (heap_alloc_new w _));have N1:=Ac (((w.alloc (.cells #[.int .i64 x.src,.int .i64 x.dst,.int .i64 x.lane,.int .u32 x.body] 40)).alloc (.cells #[.int .i64 i,.int .i64 j,.int .i64 m] 203)).heap[w.heap.size+1]? = some (.cells #[.int .i64 i,.int .i64 j,.int .i64 m] 203)) zz42;have HH0:=Ab ((B0.1.block g (k03 hh)).trans hh);have HR:=Ab (fun W (hW:W.heap[g]? = some (.cells #[.pointer (some ⟨X.gp,0,none⟩),.map (some X.mb),.int .i64 p,.int .i64 k] 200 (0,0)))=>k4F W g p k (i,j,m) _ _ hW hi hj hm);have H0:=Ab H;have HX:=Ab hX;have HP:=Ab hp;have HF:=Ab hf;have hs5:=Ac (X.f s=none/\s<n) (by
  obtain⟨_,_,_,_,_,_,_,_,_,_,_,_,_,h5,_⟩:=id hp;exact⟨((h5 s).1 zz6).2,((h5 s).1 zz6).1⟩)
 have HQ:=Ac ((X.qs (i,j,m)).length<=200) (by
  have h1:=k1W (X.qs (i,j,m)) (List.range n) (hX.nodup _) (fun y hy=>List.mem_range.2 (hX.lt _ y hy));rw[List.length_range]at h1;have:=hp.len;omega)
 have HG:=Ab hg;have HC:=Ab (And.intro hcd (And.intro hcj hdj));have HPK:=Ab hpk;have hgl:=k03 hh;clear hX hp hf H hh hl hg hcd hcj hdj hpk;go_enter Tryz.func121,Tryz.ntmps121
 go_wp2_with(go_at_call 144;refine(HR.1 _ HH0.1).mono ?_;rintro e w1 ⟨rfl,hb⟩;have B1:=Ab (k0D B0.1 B0.1.size hb);have N01:=Ab ((hb.block w.heap.size (k03 N0.1)).trans N0.1);have N11:=Ab ((hb.block (w.heap.size+1) (k03 N1.1)).trans N1.1);have HH1:=Ab ((hb.block g (k03 HH0.1)).trans HH0.1);clear hb)
 have HS:=Sat.mk (S:=fun(W:World)=>W.cell? ⟨g,0,none⟩=some (.pointer (some ⟨X.gp,0,none⟩))/\W.cell? ⟨w.heap.size,0,none⟩=some (.int .i64 x.src)/\W.cell? ⟨w.heap.size,1,none⟩=some (.int .i64 x.dst)/\W.cell? ⟨w.heap.size,2,none⟩=some (.int .i64 x.lane)/\W.cell? ⟨w.heap.size,3,none⟩=some (.int .u32 x.body)) (w:=w1) zz99;refine WpL.rg HS 10 zz2 ?_;refine WpL.T 0 [] HS.1 ?_;refine WpL.T 1 [] HS.1 ?_;refine WpL.T 2 [] HS.1 ?_;refine WpL.T 3 [] HS.1 ?_;refine WpL.T 4 [] HS.1 ?_;refine WpL.one (i:=5) zz2 rfl (fun K hK=>?_);go_simp;refine(kaS x s (HF.1.blw B1.1.drew) (HP.1.blw B1.1.drew)).mono ?_;rintro e w3 ⟨rfl,o3,T3,P3⟩;have T:=Ab ((Tr.below (S:=fun y=>y=d) HF.1 B1.1.drew).trans T3);have hjw:∀b,w.heap.size<=b->¬o b=d:=fun b hb e=>HC.1.2.2 (by rw[<- e];exact HF.1 b hb)
 have M1:=Ab (T3.blk (g:=w.heap.size) N01.1 (hjw _ (Nat.le_refl _)));have M2:=Ab (T3.blk (g:=w.heap.size+1) N11.1 (hjw _ zz1));have HH3:=Ab (T3.blk (g:=g) HH1.1 (by rw[HG.1];exact HC.1.1));have PP:=Ab P3;have HS3:=HS.to w3 (by obtain⟨b0,b1,b2,b3⟩:=box4 (w:=w) M1.1;exact⟨k00 HH3.1 0,b0,b1,b2,b3⟩);clear T3 P3 hjw;simp only[];refine hK.out _ _ (fun _=>HS3.1) ?_;clear hK K
 try refine Sm ?_
 refine WpL.T 6 [] HS3.1 ?_;refine WpL.T 7 [] HS3.1 ?_;refine WpL.T 8 [] HS3.1 ?_;refine WpL.T 9 [] HS3.1 ?_;refine WpL.one (i:=10) zz2 rfl (fun K hK=>?_);go_simp;refine hK.out _ _ (fun h=>absurd rfl h) ?_;clear hK K
 try refine Sm ?_
 refine WpL.done zz2 ?_ _;go_wp2;have XX:=Ab (HX.1.tr T.1 HC.1.1);obtain⟨A,cap,gV,hV,hRV,hgV⟩:=XX.1.vrow (i,j,m);have HV:=Ab hV;have HRV:=Ab hRV;have HGV:=Ab hgV;have HS6:=Sat.mk (S:=fun(W:World)=>W.cell? ⟨g,1,none⟩=some (.map (some X.mb))/\W.cell? ⟨w.heap.size+1,0,none⟩=some (.int .i64 i)/\W.cell? ⟨w.heap.size+1,1,none⟩=some (.int .i64 j)/\W.cell? ⟨w.heap.size+1,2,none⟩=some (.int .i64 m)) (w:=w3) (⟨k00 HH3.1 1,k00 M2.1 0,k00 M2.1 1,k00 M2.1 2⟩);have hgoo:=Ac (mapQ.good (i,j,m)) (⟨by show i<_;have:=HPK.1;omega,by show j<_;have:=HPK.1;omega,by show m<_;have:=HPK.1;omega⟩);have NM:=Ac (g≠X.mb/\w.heap.size+1≠X.mb/\gV≠some g/\gV≠some (w.heap.size+1)/\gV≠some X.mb) (by
  have e1:=k0B XX.1.map HH3.1;have e2:=k0B XX.1.map M2.1;refine⟨e1,e2,HRV.1.ne HH3.1 zz7,HRV.1.ne M2.1 zz7,fun e=>?_⟩;subst e;obtain⟨cur,hc⟩:=HRV.1.blk_ty;exact k0B XX.1.map hc rfl)
 clear hV hRV hgV;refine WpL.rg HS6 11 zz2 ?_;refine WpL.T 0 [] HS6.1 ?_;refine WpL.T 1 [] HS6.1 ?_;refine WpL.T 2 [] HS6.1 ?_;refine WpL.T 3 [] HS6.1 ?_;refine WpL.T 4 [] HS6.1 ?_;refine WpL.T 5 [] HS6.1 ?_;refine WpL.one (i:=6) zz2 rfl (fun K hK=>?_);go_simp;refine hK.out _ _ (fun _=>show(fun(W:World)=>W.cell? ⟨g,1,none⟩=some (.map (some X.mb))/\W.cell? ⟨w.heap.size+1,0,none⟩=some (.int .i64 i)/\W.cell? ⟨w.heap.size+1,1,none⟩=some (.int .i64 j)/\W.cell? ⟨w.heap.size+1,2,none⟩=some (.int .i64 m)) _ from by obtain⟨k0,k1,k2,k3⟩:=HS6.1;exact⟨k01 ((Below.refl _ _).alloc (Nat.le_refl _) _) k0,k01 ((Below.refl _ _).alloc (Nat.le_refl _) _) k1,k01 ((Below.refl _ _).alloc (Nat.le_refl _) _) k2,k01 ((Below.refl _ _).alloc (Nat.le_refl _) _) k3⟩) ?_;clear hK K
 try refine Sm ?_
 refine WpL.one (i:=7) zz2 rfl (fun K hK=>?_);refine k90 (M:=mapQ) (b:=X.mb) rfl _ _ (i,j,m) rfl ((XX.1.map).of_blk (Below.heap_alloc _ _ _ XX.1.map.lt)) rfl rfl hgoo.1 _ HV.1 ?_;intro w4 st M4 E4 O4;have O34:=Ac (Only (fun b=>b=X.mb) w3 w4) (Only.undrew (((Only.refl _ _).alloc _).then O4 (fun _ _ e=>e)));have hb4:=O4.keep w3.heap.size zz6 (fun e=>by have:=XX.1.map.lt;omega);have B4:=Ab (hb4.trans (heap_alloc_new _ _));have MM4:=Ab M4;have EE4:=Ab E4;have hs4:(fun(W:World)=>W.cell? ⟨g,1,none⟩=some (.map (some X.mb))/\W.cell? ⟨w.heap.size+1,0,none⟩=some (.int .i64 i)/\W.cell? ⟨w.heap.size+1,1,none⟩=some (.int .i64 j)/\W.cell? ⟨w.heap.size+1,2,none⟩=some (.int .i64 m)) w4:=by obtain⟨k0,k1,k2,k3⟩:=HS6.1;exact⟨O34.1.cell k0 NM.1.1,O34.1.cell k1 NM.1.2.1,O34.1.cell k2 NM.1.2.1,O34.1.cell k3 NM.1.2.1⟩
 have HS7:=Ab hs4;clear M4 E4 O4 hb4 hs4;refine hK.out _ _ (fun _=>HS7.1) ?_;clear hK K
 try refine Sm ?_
 refine WpL.T 8 [] HS7.1 ?_;refine WpL.T 10 [] HS7.1 ?_;refine WpL.one (i:=9) zz2 rfl (fun K hK=>?_);refine k4j rfl _ _ 29 3 (.int .i64 0) 1 8 rfl Tryz.underlying29 k1o rfl zz7 zz7 (.slice A (X.qs (i,j,m)).length cap) (X.qs (i,j,m)).length 1 1 (i64s (X.qs (i,j,m))) [.int .i64 s] gV ⟨w3.heap.size,0,none⟩ (HRV.1.only O34.1 (fun b e e'=>NM.1.2.2.2.2 (by rw[e,e']))) rfl rfl rfl zz7 (kcE B4.1) (by simp;rfl) (by have:=HQ.1;omega) ?_;intro v5 w5 g5 R5 O5 G5;obtain⟨A5,k5,rfl,hk5⟩:=R5.size;have R5':=Ab R5;have O5':=Ab O5;have G5':=Ab G5;have hs5:(fun(W:World)=>W.cell? ⟨g,1,none⟩=some (.map (some X.mb))/\W.cell? ⟨w.heap.size+1,0,none⟩=some (.int .i64 i)/\W.cell? ⟨w.heap.size+1,1,none⟩=some (.int .i64 j)/\W.cell? ⟨w.heap.size+1,2,none⟩=some (.int .i64 m)) w5:=by obtain⟨k0,k1,k2,k3⟩:=HS7.1;exact⟨O5.cell k0 NM.1.2.2.1,O5.cell k1 NM.1.2.2.2.1,O5.cell k2 NM.1.2.2.2.1,O5.cell k3 NM.1.2.2.2.1⟩
 have HS8:=Ab hs5;have M5:=Ab (MM4.1.of_blk (O5.same MM4.1.lt NM.1.2.2.2.2));have E5:=Ab (EE4.1.of_blk (O5.same MM4.1.lt NM.1.2.2.2.2));clear R5 O5 G5 hs5;refine hK.out _ _ (fun _=>HS8.1) ?_;clear hK K
 try refine Sm ?_
 refine WpL.one (i:=11) zz2 rfl (fun K hK=>?_);refine k4M (M:=mapQ) (b:=X.mb) rfl _ _ _ _ (i,j,m) st (.slice A5 ((X.qs (i,j,m)).length+1) k5) rfl M5.1 E5.1 rfl rfl rfl ?_;intro w6 M6 O6;have M6':=Ab M6;have O6':=Ab O6;clear M6 O6;refine hK.out _ _ (fun h=>absurd rfl h) ?_;clear hK K
 try refine Sm ?_
 refine WpL.done zz2 ?_ _;go_wp2;go_ret;obtain⟨b2,off2,cap2,hg5,hv5,_⟩:=R5'.1.open zz1;have R5b:=R5'.1;rw[hg5]at R5b;obtain⟨cur2,hcur2⟩:=R5b.blk_ty;have hb2:b2≠X.mb:=k0B M5.1 hcur2;have R6:=R5b.only O6'.1 (fun b e=>by cases e;exact hb2);have hg3:o3 g=c:=(T.1.own g hgl).trans HG.1;have O36:Only (fun b=>b=X.mb\/gV=some b) w3 w6:=((O34.1.mono (fun _ _ e=>.inl e)).then O5'.1 (fun _ _ e=>.inr e)).then O6'.1 (fun _ _ e=>.inl e)
 have G6:some b2=gV\/w3.heap.size<=b2:=by
  rcases G5'.1 with h|⟨b,h,hb⟩
  ·exact .inl (hg5.symm.trans h)
  ·rw[hg5]at h
   cases h;exact .inr (Nat.le_trans O34.1.size hb)
 obtain⟨t1,t2⟩:=kaQ (x:=x) HC.1.1 hg3 XX.1 PP.1 hs5.1.1 hs5.1.2 HPK.1 HH3.1 HGV.1 M6'.1 R6 G6 O36;exact⟨rfl,_,(T.1.mono (fun _ e=>.inr e)).then t1 (fun _ e=>.inl e),t2⟩
end
theorem set4(w3:World)(b:Nat)(x y z u:Value):Only (fun i=>i=b) w3 ((((w3.setCell ⟨b,0,none⟩ x).setCell ⟨b,1,none⟩ y).setCell ⟨b,2,none⟩ z).setCell ⟨b,3,none⟩ u):=by
 have h1:=(Only.refl (fun i=>i=b) w3).set (p:=⟨b,0,none⟩) (fun _=>rfl) x;have h2:=h1.set (p:=⟨b,1,none⟩) (fun _=>rfl) y;have h3:=h2.set (p:=⟨b,2,none⟩) (fun _=>rfl) z;exact h3.set (p:=⟨b,3,none⟩) (fun _=>rfl) u
theorem k8x{B:Nat}{w W W':World}{P:Nat->Prop}(h:Below B w W)(k:Only P W W')(hB:B<=W.heap.size)(hp:∀b,b<B->¬P b):Below B w W':=
 h.trans ⟨k.os,k.tape,k.output,k.size,fun b hb=>k.keep b zz1 (hp b hb)⟩
section
variable{w:World}{o:Nat->Col}{c d:Col}{g n:Nat}{p k:Int}{q:Way->List Pk}
theorem RingsIn.ok.head{X:RingsIn}(h:X.ok w o c n q){a:Way}{x:Pk}{r:List Pk}(hq:q a=x :: r):∃s ss,X.qs a=s :: ss/\X.f s=some x/\s<n/\ss.map X.f=r.map some:=by
 have h1:=h.hold a;rw[hq]at h1
 cases hs:X.qs a with
 |nil=>rw[hs]at h1;cases h1
 |cons s ss=>
  rw[hs]at h1;simp only[List.map_cons,List.cons.injEq]at h1;exact⟨s,ss,rfl,h1.1,h.lt a s (by rw[hs];simp),h1.2⟩
theorem k58(i j m:Nat)(x:Pk)(r:List Pk)(H:RingsAt w o c d g p k n q)(hi:i<16)(hj:j<16)(hm:m<3)(hq:q (i,j,m)=x :: r) :
 Calls Tryz.prog 152 #[.pointer (some ⟨g,0,none⟩),.int .i64 i,.int .i64 j,.int .i64 m] w fun e w'=>e=.returned (.tuple #[x.agg,.bool true])/\Below w.heap.size w w':=by
 have B0:=Ab ((Below.refl w.heap.size w).alloc (Nat.le_refl _) (.cells #[.int .i64 0,.int .i64 0,.int .i64 0,.int .u32 0] 40));obtain⟨hg,X,hh,hp,hX,hpk⟩:=H.blw B0.1;obtain⟨A,cap,hl,hv⟩:=hX.look i j m hi hj hm;obtain⟨s,ss,hs,hfs,hsn,_⟩:=hX.head hq;rw[hq,List.length_cons]at hl hv;have hR:Row (w.alloc (.cells #[.int .i64 0,.int .i64 0,.int .i64 0,.int .u32 0] 40)) (.slice A (r.length+1) cap) 3 1 (r.length+1) (i64s (X.qs (i,j,m))) (some (X.gq (i,j,m))):=by
  rcases hv with⟨h,_⟩|⟨_,_,h⟩
  ·exact zz52
  ·exact h
 obtain⟨b,off,cap',hb,hv2,hcap,hfz,hrd⟩:=hR.open zz1;simp only[Value.slice.injEq,true_and]at hv2;obtain⟨rfl,rfl⟩:=hv2;have h0:(w.alloc (.cells #[.int .i64 0,.int .i64 0,.int .i64 0,.int .u32 0] 40)).cell? ⟨b,off,none⟩=some (.int .i64 s):=by
  have:=hrd 0 (by rw[hs];simp[i64s]);exact zz110
 have c1:(w.alloc (.cells #[.int .i64 0,.int .i64 0,.int .i64 0,.int .u32 0] 40)).cell? ⟨g,1,none⟩=some (.map (some X.mb)):=k00 hh 1;have hr0:(((r.length+1:Nat):Int) == 0)=false:=beq_eq_false_iff_ne.mpr zz1;have hrl:(r.length:Int)+1<=1000:=by
  have h1:=k1W (X.qs (i,j,m)) (List.range n) (hX.nodup _) (fun y hy=>List.mem_range.2 (hX.lt _ y hy));rw[List.length_range,hX.len,hq,List.length_cons]at h1;have:=hp.len;exact zz1
 have HS:=Sat.mk (S:=fun(W:World)=>W.cell? ⟨g,0,none⟩=some (.pointer (some ⟨X.gp,0,none⟩))/\W.cell? ⟨b,off,none⟩=some (.int .i64 s)) (w:=(w.alloc (.cells #[.int .i64 0,.int .i64 0,.int .i64 0,.int .u32 0] 40))) (⟨k00 hh 0,h0⟩);have HP:=Ab hp;have HF:=Ab (And.intro hfs hsn);have HN:=Ac (b≠w.heap.size/\g≠w.heap.size) (by
  refine⟨fun e=>?_,fun e=>?_⟩
  ·obtain⟨cur,hc⟩:=(hb▸hR).blk_ty
   rw[e,heap_alloc_new]at hc;cases hc
  ·rw[e,heap_alloc_new]at hh
   cases hh)
 have HZ:=Ab (heap_alloc_new w (.cells #[.int .i64 0,.int .i64 0,.int .i64 0,.int .u32 0] 40));clear hX hp hR hrd hfz hv h0 hfs hsn hs hh hb;go_enter Tryz.func152,Tryz.ntmps152;go_wp2;refine WpL.region (fun(W:World)=>W.cell? ⟨g,0,none⟩=some (.pointer (some ⟨X.gp,0,none⟩))/\W.cell? ⟨b,off,none⟩=some (.int .i64 s)) 11 zz2 ?_;refine WpL.T 0 [] HS.1 ?_;refine WpL.T 1 [] HS.1 ?_;refine WpL.T 2 [] HS.1 ?_;refine WpL.T 3 [] HS.1 ?_;refine WpL.T 4 [] HS.1 ?_;refine WpL.T 5 [] HS.1 ?_;refine WpL.T 6 [] HS.1 ?_;refine WpL.one (i:=7) zz2 rfl (fun K hK=>?_);go_simp;refine(kaw s x (HP.1.blw ((Below.refl _ _).drew)) HF.1.2 HF.1.1).mono ?_;rintro e w3 ⟨rfl,hb⟩;have B3:=Ab (undrew hb);have HZ3:=Ab ((B3.1.block w.heap.size (k03 HZ.1)).trans HZ.1);have z0:=k00 HZ3.1 0;have z1:=k00 HZ3.1 1;have z2:=k00 HZ3.1 2;have z3:=k00 HZ3.1 3;have zf:=fun k=>k02 HZ3.1 k
 have HS3:=Sat.mk (S:=fun(W:World)=>W.cell? ⟨g,0,none⟩=some (.pointer (some ⟨X.gp,0,none⟩))/\W.cell? ⟨b,off,none⟩=some (.int .i64 s)) (w:=w3) (by obtain⟨k0,k1⟩:=HS.1;exact⟨k01 B3.1 k0,k01 B3.1 k1⟩);clear hb;simp only[];refine hK.out _ _ (fun _=>HS3.1) ?_;clear hK K
 try refine Sm ?_
 refine WpL.T 8 [] HS3.1 ?_;refine WpL.T 9 [] HS3.1 ?_;refine WpL.one (i:=10) zz2 rfl (fun K hK=>?_);go_simp;have O4:=Ab (set4 w3 w.heap.size (.int .i64 x.src) (.int .i64 x.dst) (.int .i64 x.lane) (.int .u32 x.body));have HZ4:=Ac (((((w3.setCell ⟨w.heap.size,0,none⟩ (.int .i64 x.src)).setCell ⟨w.heap.size,1,none⟩ (.int .i64 x.dst)).setCell ⟨w.heap.size,2,none⟩ (.int .i64 x.lane)).setCell ⟨w.heap.size,3,none⟩ (.int .u32 x.body)).heap[w.heap.size]? = some (.cells #[.int .i64 x.src,.int .i64 x.dst,.int .i64 x.lane,.int .u32 x.body] 40 (0,0))) (k05 (k05 (k05 (k05 HZ3.1 0 _) 1 _) 2 _) 3 _);have B4:=Ab (k8x (k0D B0.1 B0.1.size B3.1) O4.1 (k0D B0.1 B0.1.size B3.1).size (fun b hb e=>by omega));have HS4:=HS3.to ((((w3.setCell ⟨w.heap.size,0,none⟩ (.int .i64 x.src)).setCell ⟨w.heap.size,1,none⟩ (.int .i64 x.dst)).setCell ⟨w.heap.size,2,none⟩ (.int .i64 x.lane)).setCell ⟨w.heap.size,3,none⟩ (.int .u32 x.body)) (by obtain⟨k0,k1⟩:=HS3.1;exact⟨O4.1.cell k0 HN.1.2,O4.1.cell k1 HN.1.1⟩);clear z0 z1 z2 z3 zf;refine hK.out _ _ (fun _=>HS4.1) ?_;clear hK K
 try refine Sm ?_
 refine WpL.one (i:=11) zz2 rfl (fun K hK=>?_);go_simp;refine hK.out _ _ (fun h=>absurd rfl h) ?_;clear hK K
 try refine Sm ?_
 refine WpL.done zz2 ?_ _;go_wp2;exact bodyPost_ret (k0E rfl _ _ _ _ rfl (k5b HZ4.1)) rfl ⟨rfl,B4.1⟩
end
theorem kbG:∃i,Tryz.prog.info? 3=some i/\i.size=1:=by
 have h:(Tryz.prog.info? 3).map (fun i=>i.size)=some 1:=zz2
 obtain⟨i,hi,hx⟩:=Option.map_eq_some_iff.1 h;exact⟨i,hi,hx⟩
theorem k4d{w W:World}{b:Nat}{m:Way->Option Value}(h:MapAt mapQ w b m)(a:Way)(ha:mapQ.good a){V:Value}(hl:(Instr.lookup 198 (.map (some b)) (way a) false).run Tryz.prog w=.ok V w)(hW:W.heap[b]? = w.heap[b]?):(Instr.lookup 198 (.map (some b)) (way a) false).run Tryz.prog W=.ok V W:=by
 have h1:=h.look a ha;have h2:=(h.of_blk hW).look a ha;have h3:=h1.symm.trans hl;injection h3 with h3
 subst h3;exact h2
theorem k1Z{S:Col->Prop}{o o':Nat->Col}{w w':World}(h:Tr S o w.drew o' w'):Tr S o w o' w':=⟨Only.undrew h.only,h.own,h.fresh⟩
section
variable{w:World}{o:Nat->Col}{c d:Col}{g n:Nat}{p k:Int}{q:Way->List Pk}
theorem ka2{w6:World}{X:RingsIn}{a:Way}{r:List Pk}{s:Nat}{ss:List Nat}{V5:Value}(hf:Fresh o w)(hcd:c≠d)(hg:o g=c)(hX:X.ok w o c n q)(P:PoolAt w o d X.gp n (upd X.f s none) (s :: X.l))(hpk:p<=16/\k<=3)
 (hh:w.heap[g]? = some (.cells #[.pointer (some ⟨X.gp,0,none⟩),.map (some X.mb),.int .i64 p,.int .i64 k] 200 (0,0))) (hs:X.qs a=s :: ss) (hss:ss.map X.f=r.map some)
 (M6:MapAt mapQ w6 X.mb (fun y=>if updw X.qs a ss y=[] then none else some (updw X.v a V5 y))) (R:Row w V5 3 1 ss.length (i64s ss) (some (X.gq a))) (O6:Only (fun b=>b=X.mb) w w6) :
 Tr (fun y=>y=c) o w o w6/\RingsAt w6 o c d g p k n (updw q a r):=by
 have T:Tr (fun y=>y=c) o w o w6:=⟨O6.mono (fun b _ e=>by rw[e];exact hX.om),fun _ _=>rfl,fun b hb=>hf b (Nat.le_trans O6.size hb)⟩;have hnil:X.qs a≠[]:=by rw[hs];simp
 have hn:=hX.nodup a;rw[hs,List.nodup_cons]at hn;have sub:∀y i,i∈updw X.qs a ss y->i∈X.qs y/\i≠s:=fun y i hi=>by
  by_cases e:y=a
  ·subst e
   rw[k0m]at hi;exact⟨by rw[hs];simp[hi],fun e=>hn.1 (e▸hi)⟩
  ·rw[k0i _ _ e]at hi
   exact⟨hi,fun h=>e (hX.once y a i hi (by rw[h,hs];simp))⟩
 have ne:∀y,updw X.qs a ss y≠[]->X.qs y≠[]:=fun y h=>by
  by_cases e:y=a
  ·subst e;exact hnil
  ·rw[k0i _ _ e]at h;exact h
 have bne:∀y,X.qs y≠[]->X.gq y≠X.mb:=fun y h=>by
  obtain⟨cur,hc⟩:=(hX.row y h).blk_ty;exact k0B hX.map hc
 refine⟨T,hg,⟨X.gp,X.mb,upd X.f s none,s :: X.l,updw X.qs a ss,updw X.v a V5,X.gq⟩,?_,P.tr T (Ne.symm hcd),?_,hpk⟩
 ·exact(O6.keep g (k03 hh) (k0B hX.map hh)).trans hh
 ·refine⟨hX.om,M6,fun y hy=>?_,fun y hy=>hX.og y (ne y hy),fun y z hy hz e=>hX.apart y z (ne y hy) (ne z hz) e,fun y=>?_,fun y i hi=>hX.lt y i (sub y i hi).1,fun y=>?_,fun y z i hy hz=>hX.once y z i (sub y i hy).1 (sub z i hz).1,fun i hi hfi=>?_⟩
  ·show Row w6 (updw X.v a V5 y) 3 1 (updw X.qs a ss y).length (i64s (updw X.qs a ss y)) (some (X.gq y))
   by_cases e:y=a
   ·subst e
    rw[k0m,k0m];exact R.only O6 (fun b e=>by cases e;exact bne y hnil)
   ·rw[k0i _ _ e,k0i _ _ e]
    have hy':=ne y hy;exact(hX.row y hy').only O6 (fun b e'=>by cases e';exact bne y hy')
  ·show(updw X.qs a ss y).map (upd X.f s none)=(updw q a r y).map some
   rw[List.map_congr_left (g:=X.f) (fun i hi=>k06 _ _ (sub y i hi).2)];by_cases e:y=a
   ·subst e
    rw[k0m,k0m];exact hss
   ·rw[k0i _ _ e,k0i _ _ e];exact hX.hold y
  ·by_cases e:y=a
   ·subst e;simp only[k0m];exact hn.2
   ·simp only[k0i _ _ e];exact hX.nodup y
  ·by_cases e:i=s
   ·subst e;exact absurd (k04 _ _ _) hfi
   ·have hf':X.f i≠none:=by simpa[upd,e] using hfi
    obtain⟨y,hy⟩:=hX.all i hi hf';refine⟨y,?_⟩;by_cases ey:y=a
    ·subst ey
     simp only[k0m];rw[hs]at hy;exact(List.mem_cons.1 hy).resolve_left e
    ·simp only[k0i _ _ ey];exact hy
theorem k4T(i j m:Nat)(x:Pk)(r:List Pk)(hf:Fresh o w)(hcd:c≠d)(hcj:c≠.junk)(hdj:d≠.junk)(H:RingsAt w o c d g p k n q)(hi:i<16)(hj:j<16)(hm:m<3)(hq:q (i,j,m)=x :: r)(hz:r≠[]) :
 Calls Tryz.prog 129 #[.pointer (some ⟨g,0,none⟩),.int .i64 i,.int .i64 j,.int .i64 m] w fun e w'=>e=.returned (.tuple #[x.agg,.bool true])/\Tr (fun y=>y=c\/y=d) o w o w'/\RingsAt w' o c d g p k n (updw q (i,j,m) r):=by
 have B0:=Ab ((Below.refl w.heap.size w).alloc (Nat.le_refl _) (.cells #[.int .i64 0,.int .i64 0,.int .i64 0,.int .u32 0] 40));have HD:=Ab (k58 i j m x r (H.blw B0.1) hi hj hm hq);have H0:=Ab H;have HF:=Ab hf;have HC:=Ab (And.intro hcd (And.intro hcj hdj));have HN:=Ab (And.intro hi (And.intro hj hm));have HQ:=Ab hq;have HZ:=Ab hz;have Z0:=Ab (heap_alloc_new w (.cells #[.int .i64 0,.int .i64 0,.int .i64 0,.int .u32 0] 40));have LT:=Ac (g<w.heap.size) (by obtain⟨_,X,hh,_⟩:=H;exact k03 hh);clear H hf hcd hcj hdj hz hq;go_enter Tryz.func129,Tryz.ntmps129
 go_wp2_with(go_at_call 152;refine HD.1.mono ?_;rintro e w1 ⟨rfl,hb⟩;have B1:=Ab (k0D B0.1 B0.1.size hb);have Z1:=Ab ((hb.block w.heap.size zz6).trans Z0.1);clear hb)
 have B2:=Ac (Below w.heap.size w ((w1.alloc (.cells #[.int .i64 x.src,.int .i64 x.dst,.int .i64 x.lane,.int .u32 x.body] 40)).alloc (.cells #[.int .i64 i,.int .i64 j,.int .i64 m] 203))) ((B1.1.alloc B1.1.size _).alloc (Nat.le_trans B1.1.size zz6) _);have X2:=Ac (((w1.alloc (.cells #[.int .i64 x.src,.int .i64 x.dst,.int .i64 x.lane,.int .u32 x.body] 40)).alloc (.cells #[.int .i64 i,.int .i64 j,.int .i64 m] 203)).heap[w1.heap.size]? = some (.cells #[.int .i64 x.src,.int .i64 x.dst,.int .i64 x.lane,.int .u32 x.body] 40)) ((Below.heap_alloc _ _ _ zz6).trans (heap_alloc_new w1 _));have K2:=Ac (((w1.alloc (.cells #[.int .i64 x.src,.int .i64 x.dst,.int .i64 x.lane,.int .u32 x.body] 40)).alloc (.cells #[.int .i64 i,.int .i64 j,.int .i64 m] 203)).heap[w1.heap.size+1]? = some (.cells #[.int .i64 i,.int .i64 j,.int .i64 m] 203)) zz41;have Z2:=Ac (((w1.alloc (.cells #[.int .i64 x.src,.int .i64 x.dst,.int .i64 x.lane,.int .u32 x.body] 40)).alloc (.cells #[.int .i64 i,.int .i64 j,.int .i64 m] 203)).heap[w.heap.size]? = some (.cells #[.int .i64 0,.int .i64 0,.int .i64 0,.int .u32 0] 40)) ((Below.heap_alloc _ _ _ (by have:=k03 Z1.1;simp;omega)).trans ((Below.heap_alloc _ _ _ (k03 Z1.1)).trans Z1.1));obtain⟨w2,hw2⟩:∃w2,w2=(w1.alloc (.cells #[.int .i64 x.src,.int .i64 x.dst,.int .i64 x.lane,.int .u32 x.body] 40)).alloc (.cells #[.int .i64 i,.int .i64 j,.int .i64 m] 203):=⟨_,rfl⟩;rw[<- hw2]at B2 X2 K2 Z2;obtain⟨hg,X,hh,hp,hX,hpk⟩:=H0.1.blw B2.1;obtain⟨A,cap,hl,hv⟩:=hX.look i j m HN.1.1 HN.1.2.1 HN.1.2.2;obtain⟨s,ss,hs,hfs,hsn,hss⟩:=hX.head HQ.1;rw[HQ.1,List.length_cons]at hl hv;have hR:Row w2 (.slice A (r.length+1) cap) 3 1 (r.length+1) (i64s (X.qs (i,j,m))) (some (X.gq (i,j,m))):=by
  rcases hv with⟨h,_⟩|⟨_,_,h⟩
  ·exact zz52
  ·exact h
 obtain⟨b,off,cap',hb,hv2,hcap,hfz,hrd⟩:=hR.open zz1;simp only[Value.slice.injEq,true_and]at hv2;obtain⟨rfl,rfl⟩:=hv2;have h0:w2.cell? ⟨b,off,none⟩=some (.int .i64 s):=by
  have:=hrd 0 (by rw[hs];simp[i64s]);exact zz110
 have hlen:ss.length=r.length:=by have:=congrArg List.length hss;simpa using this
 obtain⟨o1,ho1⟩:∃o1,o1=if cap=1 then off else off+1:=⟨_,rfl⟩
 have HT:=Ab (show Row w2 (.slice (some ⟨b,o1,none⟩) r.length (cap-1)) 3 1 ss.length (i64s ss) (some (X.gq (i,j,m))) by
  have:=Row.tail hR;rw[<- ho1,hs]at this;rw[hlen];exact this)
 obtain⟨i3,hi3,hs3⟩:=kbG;have CT:∀W:World,(Instr.slice 29 (.slice (some ⟨b,off,none⟩) (r.length+1) cap) (some (.int .i64 1)) none none).run Tryz.prog W=.ok (.slice (some ⟨b,o1,none⟩) r.length (cap-1)) W:=fun W=>by
  have h:=k0P 29 3 .i64 Tryz.underlying29 hi3 1 hs3 (some ⟨b,off,none⟩) (r.length+1) cap 1 zz1 zz1 W;have e:(if cap=1 then some (⟨b,off,none⟩:Addr) else(some (⟨b,off,none⟩:Addr)).map (·.add (1*1)))=some ⟨b,o1,none⟩:=by
   rw[ho1];by_cases hc:cap=1
   ·rw[if_pos hc,if_pos hc]
   ·exact zz87
  rw[<- e];exact h
 have hrl:(r.length:Int)+1<=1000:=by
  have h1:=k1W (X.qs (i,j,m)) (List.range n) (hX.nodup _) (fun y hy=>List.mem_range.2 (hX.lt _ y hy));exact zz103
 have HS:=Sat.mk (S:=fun(W:World)=>W.cell? ⟨g,0,none⟩=some (.pointer (some ⟨X.gp,0,none⟩))/\W.cell? ⟨g,1,none⟩=some (.map (some X.mb))/\W.cell? ⟨w1.heap.size+1,0,none⟩=some (.int .i64 i)/\W.cell? ⟨w1.heap.size+1,1,none⟩=some (.int .i64 j)/\W.cell? ⟨w1.heap.size+1,2,none⟩=some (.int .i64 m)/\W.heap[X.mb]? = w2.heap[X.mb]? /\ W.cell? ⟨b,off,none⟩=some (.int .i64 s)) (w:=w2) (⟨k00 hh 0,k00 hh 1,k00 K2.1 0,k00 K2.1 1,k00 K2.1 2,rfl,h0⟩);have LKA:=Ac (∀W:World,W.heap[X.mb]? = w2.heap[X.mb]? -> (Instr.lookup 198 (.map (some X.mb)) (.agg #[.int .i64 i,.int .i64 j,.int .i64 m]) false).run Tryz.prog W=.ok (.slice (some ⟨b,off,none⟩) (r.length+1) cap) W) (fun W hW=>k4d hX.map (i,j,m) ⟨by show i<_;have:=HN.1;omega,by show j<_;have:=HN.1;omega,by show m<_;have:=HN.1;omega⟩ hl hW);have HP:=Ab hp;have HX:=Ab hX;have HFS:=Ab (And.intro hfs hsn);have HSS:=Ab (And.intro hs hss);have HH:=Ab hh;have HG:=Ab (And.intro hg hpk);have F2:=Ab (HF.1.blw B2.1);have JK:=Ac (∀b,w.heap.size<=b->o b≠c/\o b≠d) (fun b hb=>by rw[HF.1 b hb];exact⟨Ne.symm HC.1.2.1,Ne.symm HC.1.2.2⟩);have S1:=Ab B1.1.size;have hl0:=hl;clear hl0 hX hp hR hrd hfz hv h0 hfs hsn hs hss hh hb ho1 hi3 hs3 hg hpk hlen hl;rw[<- hw2];clear hw2;refine WpL.rg HS 12 zz2 ?_;refine WpL.T 0 [3,2,1] HS.1 ?_;refine WpL.T 1 [3,2] HS.1 ?_;refine WpL.T 2 [3] HS.1 ?_;refine WpL.T 3 [] HS.1 ?_;refine WpL.T 4 [11,10,9,7,6,5] HS.1 ?_;refine WpL.T 5 [11,10,9,7,6] HS.1 ?_;refine WpL.T 6 [11,10,9,7] HS.1 ?_;refine WpL.T 7 [11,10,9] HS.1 ?_;refine WpL.T 8 [11,10,9] HS.1 ?_;refine WpL.take (i:=9) (v:=?vq1_9) (rfl) zz2 zz2 zz2 [11,10] zz2 zz2 (fun _ _ _ h=>h) ?yq1_9 (HS.1) ?rq1_9
 case yq1_9=>exact zz68
 refine Sm ?_;refine WpL.T 10 [11] HS.1 ?_;refine WpL.T 11 [] HS.1 ?_;refine WpL.one (i:=12) zz2 rfl (fun K hK=>?_);go_simp;refine(k6v s x (F2.1.blw (Below.refl _ _).drew) (HP.1.blw (Below.refl _ _).drew) HFS.1.2 HFS.1.1).mono ?_;rintro e w3 ⟨rfl,T3',P3⟩;have T3:=Ab (k1Z T3');have PP:=Ab P3;have K3:=Ab (T3.1.blk (g:=w1.heap.size+1) K2.1 (JK.1 _ (by have:=S1.1;omega)).2);have X3:=Ab (T3.1.blk (g:=w1.heap.size) X2.1 (JK.1 _ S1.1).2);have Z3:=Ab (T3.1.blk (g:=w.heap.size) Z2.1 (JK.1 _ (Nat.le_refl _)).2);have HH3:=Ab (T3.1.blk (g:=g) HH.1 (by rw[HG.1.1];exact HC.1.1));have XX:=Ab (HX.1.tr T3.1 HC.1.1);clear T3' P3;simp only[];refine hK.out _ _ (fun h=>absurd rfl h) ?_;clear hK K
 try refine Sm ?_
 refine WpL.done zz2 ?_ _;go_wp2;have R3:=Ab (HT.1.only T3.1.only (fun b e=>by cases e;rw[HX.1.og _ (by rw[HSS.1.1];simp)];exact HC.1.1));have HS5:=Sat.mk (S:=fun(W:World)=>W.cell? ⟨g,1,none⟩=some (.map (some X.mb))/\W.cell? ⟨w1.heap.size+1,0,none⟩=some (.int .i64 i)/\W.cell? ⟨w1.heap.size+1,1,none⟩=some (.int .i64 j)/\W.cell? ⟨w1.heap.size+1,2,none⟩=some (.int .i64 m)/\W.heap[X.mb]? = w2.heap[X.mb]?) (w:=w3) (⟨k00 HH3.1 1,k00 K3.1 0,k00 K3.1 1,k00 K3.1 2,T3.1.only.same HX.1.map.lt (by rw[HX.1.om];exact HC.1.1)⟩);have GO:=Ac (mapQ.good (i,j,m)) (⟨by show i<_;have:=HN.1;omega,by show j<_;have:=HN.1;omega,by show m<_;have:=HN.1;omega⟩);refine WpL.rg HS5 12 zz2 ?_;refine WpL.T 0 [] HS5.1 ?_;refine WpL.T 1 [] HS5.1 ?_;refine WpL.T 2 [] HS5.1 ?_;refine WpL.T 3 [] HS5.1 ?_;refine WpL.T 4 [] HS5.1 ?_;refine WpL.T 5 [] HS5.1 ?_;refine WpL.T 6 [] HS5.1 ?_;refine WpL.T 7 [] HS5.1 ?_;refine WpL.T 8 [] HS5.1 ?_;refine WpL.T 9 [] HS5.1 ?_;refine WpL.take (i:=10) (v:=?vq2_10) (rfl) zz2 zz2 zz2 [] zz2 zz2 (fun _ _ _ h=>h) ?yq2_10 (HS5.1) ?rq2_10
 case yq2_10=>exact zz72
 refine Sm ?_;refine WpL.T 11 [] HS5.1 ?_;refine WpL.one (i:=12) zz2 rfl (fun K hK=>?_);refine k2P (M:=mapQ) (b:=X.mb) rfl _ _ _ (i,j,m) (.slice (some ⟨b,o1,none⟩) r.length (cap-1)) rfl (XX.1.map.of_blk rfl) rfl rfl rfl GO.1 ?_;intro w4 M4' O4';have M4:=Ab M4';have O4:=Ab (Only.undrew O4');clear M4' O4';refine hK.out _ _ (fun h=>absurd rfl h) ?_;clear hK K
 try refine Sm ?_
 refine WpL.done zz2 ?_ _;go_wp2;have K4:=Ab (O4.1.blk K3.1 (k0B XX.1.map K3.1));have X4:=Ab (O4.1.blk X3.1 (k0B XX.1.map X3.1));have Z4:=Ab (O4.1.blk Z3.1 (k0B XX.1.map Z3.1));have HH4:=Ab (O4.1.blk HH3.1 (k0B XX.1.map HH3.1));have LK4:=Ac ((Instr.lookup 198 (.map (some X.mb)) (.agg #[.int .i64 i,.int .i64 j,.int .i64 m]) false).run Tryz.prog w4=.ok (.slice (some ⟨b,o1,none⟩) r.length (cap-1)) w4) (by
  have h1:=M4.1.look (i,j,m) GO.1;rw[if_pos rfl]at h1;exact h1)
 have LKB:=Ac (∀W:World,W.heap[X.mb]? = w4.heap[X.mb]? -> (Instr.lookup 198 (.map (some X.mb)) (.agg #[.int .i64 i,.int .i64 j,.int .i64 m]) false).run Tryz.prog W=.ok (.slice (some ⟨b,o1,none⟩) r.length (cap-1)) W) (fun W hW=>k4d M4.1 (i,j,m) GO.1 LK4.1 hW);have HS6:=Sat.mk (S:=fun(W:World)=>W.cell? ⟨g,1,none⟩=some (.map (some X.mb))/\W.cell? ⟨w1.heap.size+1,0,none⟩=some (.int .i64 i)/\W.cell? ⟨w1.heap.size+1,1,none⟩=some (.int .i64 j)/\W.cell? ⟨w1.heap.size+1,2,none⟩=some (.int .i64 m)/\W.heap[X.mb]? = w4.heap[X.mb]?) (w:=w4) (⟨k00 HH4.1 1,k00 K4.1 0,k00 K4.1 1,k00 K4.1 2,rfl⟩);have ez:((r.length:Int) == 0)=false:=by exact beq_eq_false_iff_ne.mpr (fun h=>HZ.1 (List.eq_nil_of_length_eq_zero zz1))
 refine WpL.rg HS6 7 zz2 ?_;refine WpL.T 0 [6,5,3,2,1] HS6.1 ?_;refine WpL.T 1 [6,5,3,2] HS6.1 ?_;refine WpL.T 2 [6,5,3] HS6.1 ?_;refine WpL.T 3 [6,5] HS6.1 ?_;refine WpL.T 4 [6,5] HS6.1 ?_;refine WpL.take (i:=5) (v:=?vq3_5) (rfl) zz2 zz2 zz2 [6] zz2 zz2 (fun _ _ _ h=>h) ?yq3_5 (HS6.1) ?rq3_5
 case yq3_5=>exact zz71
 refine Sm ?_;refine WpL.T 6 [] HS6.1 ?_;refine WpL.one (i:=7) zz2 rfl (fun K hK=>?_);go_simp;refine hK.out _ _ (fun h=>absurd rfl h) ?_;clear hK K
 try refine Sm ?_
 refine WpL.done zz2 ?_ _;have X5:=X4;have Z5:=Z4;have O35:=O4;have M6:=Ac (MapAt mapQ w4 X.mb (fun y=>if updw X.qs (i,j,m) ss y=[] then none else some (updw X.v (i,j,m) (.slice (some ⟨b,o1,none⟩) r.length (cap-1)) y))) (by
  have hss0:ss≠[]:=fun h=>HZ.1 (List.eq_nil_of_length_eq_zero (by have:=congrArg List.length HSS.1.2;rw[h]at this;simpa using this.symm))
  have e:(fun y=>if y=(i,j,m) then some (.slice (some ⟨b,o1,none⟩) r.length (cap-1)) else if X.qs y=[] then none else some (X.v y))=(fun y=>if updw X.qs (i,j,m) ss y=[] then none else some (updw X.v (i,j,m) (.slice (some ⟨b,o1,none⟩) r.length (cap-1)) y)):=by
   funext y;by_cases ey:y=(i,j,m)
   ·simp[ey,updw,hss0]
   ·simp[ey,updw]
  rw[<- e];exact M4.1)
 obtain⟨b0,b1,b2,b3⟩:=box4 (w:=w) X5.1;have z0:=k00 Z5.1 0;have z1:=k00 Z5.1 1;have z2:=k00 Z5.1 2;have z3:=k00 Z5.1 3;have zf:=fun k=>k02 Z5.1 k
 clear CT ez;go_wp2;obtain⟨wz,hwz⟩:∃wz,wz=w4:=⟨_,rfl⟩;rw[<- hwz]at Z5 O35 M6 ⊢;have O4s:=set4 wz w.heap.size (.int .i64 x.src) (.int .i64 x.dst) (.int .i64 x.lane) (.int .u32 x.body);have Z6:=Ac (((((wz.setCell ⟨w.heap.size,0,none⟩ (.int .i64 x.src)).setCell ⟨w.heap.size,1,none⟩ (.int .i64 x.dst)).setCell ⟨w.heap.size,2,none⟩ (.int .i64 x.lane)).setCell ⟨w.heap.size,3,none⟩ (.int .u32 x.body)).heap[w.heap.size]? = some (.cells #[.int .i64 x.src,.int .i64 x.dst,.int .i64 x.lane,.int .u32 x.body] 40 (0,0))) (k05 (k05 (k05 (k05 Z5.1 0 _) 1 _) 2 _) 3 _);obtain⟨t1,t2⟩:=ka2 T3.1.fresh HC.1.1 (show o g=c from HG.1.1) XX.1 PP.1 HG.1.2 HH3.1 HSS.1.1 HSS.1.2 M6.1 R3.1 O35.1;have t3:Tr (fun y=>y=.junk) o wz o ((((wz.setCell ⟨w.heap.size,0,none⟩ (.int .i64 x.src)).setCell ⟨w.heap.size,1,none⟩ (.int .i64 x.dst)).setCell ⟨w.heap.size,2,none⟩ (.int .i64 x.lane)).setCell ⟨w.heap.size,3,none⟩ (.int .u32 x.body)):=
  ⟨O4s.mono (fun b hb e=>by rw[e];exact HF.1 _ (Nat.le_refl _)),fun _ _=>rfl,fun b hb=>t1.fresh b (Nat.le_trans O4s.size hb)⟩
 have O:=Ab ((((Only.of_below (P:=fun b=>o b=c\/o b=d) B2.1).then T3.1.only (fun b _ e=>.inr e)).then t1.only (fun b _ e=>.inl e)).then O4s (fun b hb e=>absurd e zz1));have RF:=Ab (t2.tr t3 HC.1.2.1 HC.1.2.2);refine bodyPost_ret (k0E rfl _ _ ⟨w.heap.size,0,none⟩ x.agg rfl (k5b (T:=40) (fr:=(0,0)) ?_)) rfl ⟨rfl,⟨(by first|exact O.1.drew|exact O.1),fun _ _=>rfl,?_⟩,?_⟩
 ·exact Z6.1
 ·exact t3.fresh
 ·first|exact RF.1|exact RF.1.blw (Below.refl _ _).drew
theorem k52(i j m:Nat)(x:Pk)(r:List Pk)(hf:Fresh o w)(hcd:c≠d)(hcj:c≠.junk)(hdj:d≠.junk)(H:RingsAt w o c d g p k n q)(hi:i<16)(hj:j<16)(hm:m<3)(hq:q (i,j,m)=x :: r)(hz:r=[]) :
 Calls Tryz.prog 129 #[.pointer (some ⟨g,0,none⟩),.int .i64 i,.int .i64 j,.int .i64 m] w fun e w'=>e=.returned (.tuple #[x.agg,.bool true])/\Tr (fun y=>y=c\/y=d) o w o w'/\RingsAt w' o c d g p k n (updw q (i,j,m) r):=by
 have B0:=Ab ((Below.refl w.heap.size w).alloc (Nat.le_refl _) (.cells #[.int .i64 0,.int .i64 0,.int .i64 0,.int .u32 0] 40));have HD:=Ab (k58 i j m x r (H.blw B0.1) hi hj hm hq);have H0:=Ab H;have HF:=Ab hf;have HC:=Ab (And.intro hcd (And.intro hcj hdj));have HN:=Ab (And.intro hi (And.intro hj hm));have HQ:=Ab hq;have HZ:=Ab hz;have Z0:=Ab (heap_alloc_new w (.cells #[.int .i64 0,.int .i64 0,.int .i64 0,.int .u32 0] 40));have LT:=Ac (g<w.heap.size) (by obtain⟨_,X,hh,_⟩:=H;exact k03 hh);clear H hf hcd hcj hdj hz hq;go_enter Tryz.func129,Tryz.ntmps129
 go_wp2_with(go_at_call 152;refine HD.1.mono ?_;rintro e w1 ⟨rfl,hb⟩;have B1:=Ab (k0D B0.1 B0.1.size hb);have Z1:=Ab ((hb.block w.heap.size zz6).trans Z0.1);clear hb)
 have B2:=Ac (Below w.heap.size w ((w1.alloc (.cells #[.int .i64 x.src,.int .i64 x.dst,.int .i64 x.lane,.int .u32 x.body] 40)).alloc (.cells #[.int .i64 i,.int .i64 j,.int .i64 m] 203))) ((B1.1.alloc B1.1.size _).alloc (Nat.le_trans B1.1.size zz6) _);have X2:=Ac (((w1.alloc (.cells #[.int .i64 x.src,.int .i64 x.dst,.int .i64 x.lane,.int .u32 x.body] 40)).alloc (.cells #[.int .i64 i,.int .i64 j,.int .i64 m] 203)).heap[w1.heap.size]? = some (.cells #[.int .i64 x.src,.int .i64 x.dst,.int .i64 x.lane,.int .u32 x.body] 40)) ((Below.heap_alloc _ _ _ zz6).trans (heap_alloc_new w1 _));have K2:=Ac (((w1.alloc (.cells #[.int .i64 x.src,.int .i64 x.dst,.int .i64 x.lane,.int .u32 x.body] 40)).alloc (.cells #[.int .i64 i,.int .i64 j,.int .i64 m] 203)).heap[w1.heap.size+1]? = some (.cells #[.int .i64 i,.int .i64 j,.int .i64 m] 203)) zz41;have Z2:=Ac (((w1.alloc (.cells #[.int .i64 x.src,.int .i64 x.dst,.int .i64 x.lane,.int .u32 x.body] 40)).alloc (.cells #[.int .i64 i,.int .i64 j,.int .i64 m] 203)).heap[w.heap.size]? = some (.cells #[.int .i64 0,.int .i64 0,.int .i64 0,.int .u32 0] 40)) ((Below.heap_alloc _ _ _ (by have:=k03 Z1.1;simp;omega)).trans ((Below.heap_alloc _ _ _ (k03 Z1.1)).trans Z1.1));obtain⟨w2,hw2⟩:∃w2,w2=(w1.alloc (.cells #[.int .i64 x.src,.int .i64 x.dst,.int .i64 x.lane,.int .u32 x.body] 40)).alloc (.cells #[.int .i64 i,.int .i64 j,.int .i64 m] 203):=⟨_,rfl⟩;rw[<- hw2]at B2 X2 K2 Z2;obtain⟨hg,X,hh,hp,hX,hpk⟩:=H0.1.blw B2.1;obtain⟨A,cap,hl,hv⟩:=hX.look i j m HN.1.1 HN.1.2.1 HN.1.2.2;obtain⟨s,ss,hs,hfs,hsn,hss⟩:=hX.head HQ.1;rw[HQ.1,List.length_cons]at hl hv;have hR:Row w2 (.slice A (r.length+1) cap) 3 1 (r.length+1) (i64s (X.qs (i,j,m))) (some (X.gq (i,j,m))):=by
  rcases hv with⟨h,_⟩|⟨_,_,h⟩
  ·exact zz52
  ·exact h
 obtain⟨b,off,cap',hb,hv2,hcap,hfz,hrd⟩:=hR.open zz1;simp only[Value.slice.injEq,true_and]at hv2;obtain⟨rfl,rfl⟩:=hv2;have h0:w2.cell? ⟨b,off,none⟩=some (.int .i64 s):=by
  have:=hrd 0 (by rw[hs];simp[i64s]);exact zz110
 have hlen:ss.length=r.length:=by have:=congrArg List.length hss;simpa using this
 obtain⟨o1,ho1⟩:∃o1,o1=if cap=1 then off else off+1:=⟨_,rfl⟩
 have HT:=Ab (show Row w2 (.slice (some ⟨b,o1,none⟩) r.length (cap-1)) 3 1 ss.length (i64s ss) (some (X.gq (i,j,m))) by
  have:=Row.tail hR;rw[<- ho1,hs]at this;rw[hlen];exact this)
 obtain⟨i3,hi3,hs3⟩:=kbG;have CT:∀W:World,(Instr.slice 29 (.slice (some ⟨b,off,none⟩) (r.length+1) cap) (some (.int .i64 1)) none none).run Tryz.prog W=.ok (.slice (some ⟨b,o1,none⟩) r.length (cap-1)) W:=fun W=>by
  have h:=k0P 29 3 .i64 Tryz.underlying29 hi3 1 hs3 (some ⟨b,off,none⟩) (r.length+1) cap 1 zz1 zz1 W;have e:(if cap=1 then some (⟨b,off,none⟩:Addr) else(some (⟨b,off,none⟩:Addr)).map (·.add (1*1)))=some ⟨b,o1,none⟩:=by
   rw[ho1];by_cases hc:cap=1
   ·rw[if_pos hc,if_pos hc]
   ·exact zz87
  rw[<- e];exact h
 have hrl:(r.length:Int)+1<=1000:=by
  have h1:=k1W (X.qs (i,j,m)) (List.range n) (hX.nodup _) (fun y hy=>List.mem_range.2 (hX.lt _ y hy));exact zz103
 have HS:=Sat.mk (S:=fun(W:World)=>W.cell? ⟨g,0,none⟩=some (.pointer (some ⟨X.gp,0,none⟩))/\W.cell? ⟨g,1,none⟩=some (.map (some X.mb))/\W.cell? ⟨w1.heap.size+1,0,none⟩=some (.int .i64 i)/\W.cell? ⟨w1.heap.size+1,1,none⟩=some (.int .i64 j)/\W.cell? ⟨w1.heap.size+1,2,none⟩=some (.int .i64 m)/\W.heap[X.mb]? = w2.heap[X.mb]? /\ W.cell? ⟨b,off,none⟩=some (.int .i64 s)) (w:=w2) (⟨k00 hh 0,k00 hh 1,k00 K2.1 0,k00 K2.1 1,k00 K2.1 2,rfl,h0⟩);have LKA:=Ac (∀W:World,W.heap[X.mb]? = w2.heap[X.mb]? -> (Instr.lookup 198 (.map (some X.mb)) (.agg #[.int .i64 i,.int .i64 j,.int .i64 m]) false).run Tryz.prog W=.ok (.slice (some ⟨b,off,none⟩) (r.length+1) cap) W) (fun W hW=>k4d hX.map (i,j,m) ⟨by show i<_;have:=HN.1;omega,by show j<_;have:=HN.1;omega,by show m<_;have:=HN.1;omega⟩ hl hW);have HP:=Ab hp;have HX:=Ab hX;have HFS:=Ab (And.intro hfs hsn);have HSS:=Ab (And.intro hs hss);have HH:=Ab hh;have HG:=Ab (And.intro hg hpk);have F2:=Ab (HF.1.blw B2.1);have JK:=Ac (∀b,w.heap.size<=b->o b≠c/\o b≠d) (fun b hb=>by rw[HF.1 b hb];exact⟨Ne.symm HC.1.2.1,Ne.symm HC.1.2.2⟩);have S1:=Ab B1.1.size;have hl0:=hl;clear hl0 hX hp hR hrd hfz hv h0 hfs hsn hs hss hh hb ho1 hi3 hs3 hg hpk hlen hl;rw[<- hw2];clear hw2;refine WpL.rg HS 12 zz2 ?_;refine WpL.T 0 [3,2,1] HS.1 ?_;refine WpL.T 1 [3,2] HS.1 ?_;refine WpL.T 2 [3] HS.1 ?_;refine WpL.T 3 [] HS.1 ?_;refine WpL.T 4 [11,10,9,7,6,5] HS.1 ?_;refine WpL.T 5 [11,10,9,7,6] HS.1 ?_;refine WpL.T 6 [11,10,9,7] HS.1 ?_;refine WpL.T 7 [11,10,9] HS.1 ?_;refine WpL.T 8 [11,10,9] HS.1 ?_;refine WpL.take (i:=9) (v:=?vq4_9) (rfl) zz2 zz2 zz2 [11,10] zz2 zz2 (fun _ _ _ h=>h) ?yq4_9 (HS.1) ?rq4_9
 case yq4_9=>exact zz68
 refine Sm ?_;refine WpL.T 10 [11] HS.1 ?_;refine WpL.T 11 [] HS.1 ?_;refine WpL.one (i:=12) zz2 rfl (fun K hK=>?_);go_simp;refine(k6v s x (F2.1.blw (Below.refl _ _).drew) (HP.1.blw (Below.refl _ _).drew) HFS.1.2 HFS.1.1).mono ?_;rintro e w3 ⟨rfl,T3',P3⟩;have T3:=Ab (k1Z T3');have PP:=Ab P3;have K3:=Ab (T3.1.blk (g:=w1.heap.size+1) K2.1 (JK.1 _ (by have:=S1.1;omega)).2);have X3:=Ab (T3.1.blk (g:=w1.heap.size) X2.1 (JK.1 _ S1.1).2);have Z3:=Ab (T3.1.blk (g:=w.heap.size) Z2.1 (JK.1 _ (Nat.le_refl _)).2);have HH3:=Ab (T3.1.blk (g:=g) HH.1 (by rw[HG.1.1];exact HC.1.1));have XX:=Ab (HX.1.tr T3.1 HC.1.1);clear T3' P3;simp only[];refine hK.out _ _ (fun h=>absurd rfl h) ?_;clear hK K
 try refine Sm ?_
 refine WpL.done zz2 ?_ _;go_wp2;have R3:=Ab (HT.1.only T3.1.only (fun b e=>by cases e;rw[HX.1.og _ (by rw[HSS.1.1];simp)];exact HC.1.1));have HS5:=Sat.mk (S:=fun(W:World)=>W.cell? ⟨g,1,none⟩=some (.map (some X.mb))/\W.cell? ⟨w1.heap.size+1,0,none⟩=some (.int .i64 i)/\W.cell? ⟨w1.heap.size+1,1,none⟩=some (.int .i64 j)/\W.cell? ⟨w1.heap.size+1,2,none⟩=some (.int .i64 m)/\W.heap[X.mb]? = w2.heap[X.mb]?) (w:=w3) (⟨k00 HH3.1 1,k00 K3.1 0,k00 K3.1 1,k00 K3.1 2,T3.1.only.same HX.1.map.lt (by rw[HX.1.om];exact HC.1.1)⟩);have GO:=Ac (mapQ.good (i,j,m)) (⟨by show i<_;have:=HN.1;omega,by show j<_;have:=HN.1;omega,by show m<_;have:=HN.1;omega⟩);refine WpL.rg HS5 12 zz2 ?_;refine WpL.T 0 [] HS5.1 ?_;refine WpL.T 1 [] HS5.1 ?_;refine WpL.T 2 [] HS5.1 ?_;refine WpL.T 3 [] HS5.1 ?_;refine WpL.T 4 [] HS5.1 ?_;refine WpL.T 5 [] HS5.1 ?_;refine WpL.T 6 [] HS5.1 ?_;refine WpL.T 7 [] HS5.1 ?_;refine WpL.T 8 [] HS5.1 ?_;refine WpL.T 9 [] HS5.1 ?_;refine WpL.take (i:=10) (v:=?vq5_10) (rfl) zz2 zz2 zz2 [] zz2 zz2 (fun _ _ _ h=>h) ?yq5_10 (HS5.1) ?rq5_10
 case yq5_10=>exact zz72
 refine Sm ?_;refine WpL.T 11 [] HS5.1 ?_;refine WpL.one (i:=12) zz2 rfl (fun K hK=>?_);refine k2P (M:=mapQ) (b:=X.mb) rfl _ _ _ (i,j,m) (.slice (some ⟨b,o1,none⟩) r.length (cap-1)) rfl (XX.1.map.of_blk rfl) rfl rfl rfl GO.1 ?_;intro w4 M4' O4';have M4:=Ab M4';have O4:=Ab (Only.undrew O4');clear M4' O4';refine hK.out _ _ (fun h=>absurd rfl h) ?_;clear hK K
 try refine Sm ?_
 refine WpL.done zz2 ?_ _;go_wp2;have K4:=Ab (O4.1.blk K3.1 (k0B XX.1.map K3.1));have X4:=Ab (O4.1.blk X3.1 (k0B XX.1.map X3.1));have Z4:=Ab (O4.1.blk Z3.1 (k0B XX.1.map Z3.1));have HH4:=Ab (O4.1.blk HH3.1 (k0B XX.1.map HH3.1));have LK4:=Ac ((Instr.lookup 198 (.map (some X.mb)) (.agg #[.int .i64 i,.int .i64 j,.int .i64 m]) false).run Tryz.prog w4=.ok (.slice (some ⟨b,o1,none⟩) r.length (cap-1)) w4) (by
  have h1:=M4.1.look (i,j,m) GO.1;rw[if_pos rfl]at h1;exact h1)
 have LKB:=Ac (∀W:World,W.heap[X.mb]? = w4.heap[X.mb]? -> (Instr.lookup 198 (.map (some X.mb)) (.agg #[.int .i64 i,.int .i64 j,.int .i64 m]) false).run Tryz.prog W=.ok (.slice (some ⟨b,o1,none⟩) r.length (cap-1)) W) (fun W hW=>k4d M4.1 (i,j,m) GO.1 LK4.1 hW);have HS6:=Sat.mk (S:=fun(W:World)=>W.cell? ⟨g,1,none⟩=some (.map (some X.mb))/\W.cell? ⟨w1.heap.size+1,0,none⟩=some (.int .i64 i)/\W.cell? ⟨w1.heap.size+1,1,none⟩=some (.int .i64 j)/\W.cell? ⟨w1.heap.size+1,2,none⟩=some (.int .i64 m)/\W.heap[X.mb]? = w4.heap[X.mb]?) (w:=w4) (⟨k00 HH4.1 1,k00 K4.1 0,k00 K4.1 1,k00 K4.1 2,rfl⟩);have ez:((r.length:Int) == 0)=true:=by rw[HZ.1];rfl
 refine WpL.rg HS6 7 zz2 ?_;refine WpL.T 0 [6,5,3,2,1] HS6.1 ?_;refine WpL.T 1 [6,5,3,2] HS6.1 ?_;refine WpL.T 2 [6,5,3] HS6.1 ?_;refine WpL.T 3 [6,5] HS6.1 ?_;refine WpL.T 4 [6,5] HS6.1 ?_;refine WpL.take (i:=5) (v:=?vq6_5) (rfl) zz2 zz2 zz2 [6] zz2 zz2 (fun _ _ _ h=>h) ?yq6_5 (HS6.1) ?rq6_5
 case yq6_5=>exact zz71
 refine Sm ?_;refine WpL.T 6 [] HS6.1 ?_;refine WpL.one (i:=7) zz2 rfl (fun K hK=>?_);go_simp;refine hK.out _ _ (fun h=>absurd rfl h) ?_;clear hK K
 try refine Sm ?_
 refine WpL.done zz2 ?_ _;go_wp2;have HS7:=Sat.mk (S:=fun(W:World)=>W.cell? ⟨g,1,none⟩=some (.map (some X.mb))/\W.cell? ⟨w1.heap.size+1,0,none⟩=some (.int .i64 i)/\W.cell? ⟨w1.heap.size+1,1,none⟩=some (.int .i64 j)/\W.cell? ⟨w1.heap.size+1,2,none⟩=some (.int .i64 m)) (w:=w4) (⟨k00 HH4.1 1,k00 K4.1 0,k00 K4.1 1,k00 K4.1 2⟩);refine WpL.rg HS7 5 zz2 ?_;refine WpL.T 0 [3,2,1] HS7.1 ?_;refine WpL.T 1 [3,2] HS7.1 ?_;refine WpL.T 2 [3] HS7.1 ?_;refine WpL.T 3 [] HS7.1 ?_;refine WpL.T 4 [] HS7.1 ?_;refine WpL.one (i:=5) zz2 rfl (fun K hK=>?_);refine k7e (M:=mapQ) (b:=X.mb) rfl _ _ (i,j,m) rfl (M4.1.of_blk rfl) rfl rfl GO.1 ?_;intro w5 M5' O5';have M5:=Ab M5';have O5:=Ab (Only.undrew (Only.undrew O5'));clear M5' O5';refine hK.out _ _ (fun h=>absurd rfl h) ?_;clear hK K
 try refine Sm ?_
 refine WpL.done zz2 ?_ _;have X5:=Ab (O5.1.blk X4.1 (k0B XX.1.map X3.1));have Z5:=Ab (O5.1.blk Z4.1 (k0B XX.1.map Z3.1));have O35:=Ab (O4.1.trans O5.1);have M6:=Ac (MapAt mapQ w5 X.mb (fun y=>if updw X.qs (i,j,m) ss y=[] then none else some (updw X.v (i,j,m) (.slice (some ⟨b,o1,none⟩) r.length (cap-1)) y))) (by
  have hss0:ss=[]:=List.eq_nil_of_length_eq_zero (by have:=congrArg List.length HSS.1.2;rw[HZ.1]at this;simpa using this);have e:(fun y=>if y=(i,j,m) then none else if y=(i,j,m) then some (.slice (some ⟨b,o1,none⟩) r.length (cap-1)) else if X.qs y=[] then none else some (X.v y))=(fun y=>if updw X.qs (i,j,m) ss y=[] then none else some (updw X.v (i,j,m) (.slice (some ⟨b,o1,none⟩) r.length (cap-1)) y)):=by
   funext y;by_cases ey:y=(i,j,m)
   ·simp[ey,updw,hss0]
   ·simp[ey,updw]
  rw[<- e];exact M5.1)
 obtain⟨b0,b1,b2,b3⟩:=box4 (w:=w) X5.1;have z0:=k00 Z5.1 0;have z1:=k00 Z5.1 1;have z2:=k00 Z5.1 2;have z3:=k00 Z5.1 3;have zf:=fun k=>k02 Z5.1 k
 clear CT ez;go_wp2;obtain⟨wz,hwz⟩:∃wz,wz=w5:=⟨_,rfl⟩;rw[<- hwz]at Z5 O35 M6 ⊢;have O4s:=set4 wz w.heap.size (.int .i64 x.src) (.int .i64 x.dst) (.int .i64 x.lane) (.int .u32 x.body);have Z6:=Ac (((((wz.setCell ⟨w.heap.size,0,none⟩ (.int .i64 x.src)).setCell ⟨w.heap.size,1,none⟩ (.int .i64 x.dst)).setCell ⟨w.heap.size,2,none⟩ (.int .i64 x.lane)).setCell ⟨w.heap.size,3,none⟩ (.int .u32 x.body)).heap[w.heap.size]? = some (.cells #[.int .i64 x.src,.int .i64 x.dst,.int .i64 x.lane,.int .u32 x.body] 40 (0,0))) (k05 (k05 (k05 (k05 Z5.1 0 _) 1 _) 2 _) 3 _);obtain⟨t1,t2⟩:=ka2 T3.1.fresh HC.1.1 (show o g=c from HG.1.1) XX.1 PP.1 HG.1.2 HH3.1 HSS.1.1 HSS.1.2 M6.1 R3.1 O35.1;have t3:Tr (fun y=>y=.junk) o wz o ((((wz.setCell ⟨w.heap.size,0,none⟩ (.int .i64 x.src)).setCell ⟨w.heap.size,1,none⟩ (.int .i64 x.dst)).setCell ⟨w.heap.size,2,none⟩ (.int .i64 x.lane)).setCell ⟨w.heap.size,3,none⟩ (.int .u32 x.body)):=
  ⟨O4s.mono (fun b hb e=>by rw[e];exact HF.1 _ (Nat.le_refl _)),fun _ _=>rfl,fun b hb=>t1.fresh b (Nat.le_trans O4s.size hb)⟩
 have O:=Ab ((((Only.of_below (P:=fun b=>o b=c\/o b=d) B2.1).then T3.1.only (fun b _ e=>.inr e)).then t1.only (fun b _ e=>.inl e)).then O4s (fun b hb e=>absurd e zz1));have RF:=Ab (t2.tr t3 HC.1.2.1 HC.1.2.2);refine bodyPost_ret (k0E rfl _ _ ⟨w.heap.size,0,none⟩ x.agg rfl (k5b (T:=40) (fr:=(0,0)) ?_)) rfl ⟨rfl,⟨(by first|exact O.1.drew|exact O.1),fun _ _=>rfl,?_⟩,?_⟩
 ·exact Z6.1
 ·exact t3.fresh
 ·first|exact RF.1|exact RF.1.blw (Below.refl _ _).drew
end
theorem kc5:(Tryz.prog.info? 242).map (fun i=>(i.zero,i.size,i.bytes))=some (some (.agg #[.pointer none,.int .i64 0]),2,16):=by kernel_rfl
def k1l(n k:Nat)(last:Bool):Nat->Value:=fun j=>if j % 2=0 then .pointer none else if last && j / 2+1 == n then .int .i64 (-1) else if j / 2<k then .int .i64 ((j / 2+1:Nat):Int) else .int .i64 0
def k20(w:World)(b n:Nat)(f:Nat->Value):Prop:=∃cur,w.heap[b]? = some (.cells cur 242 (0,0))/\cur.size=2*n/\∀j,j<2*n->cur[j]? = some (f j)
theorem k8X(n:Nat):∀j,j<2*n->(madeCells (Value.agg #[.pointer none,.int .i64 0]).cells (n*2))[j]? = some (k1l n 0 false j):=by
 intro j hj;unfold madeCells k1l;rw[Array.getElem?_map,Array.getElem?_range,if_pos zz1];simp only[Option.map_some,Value.cells,Bool.false_and,Bool.false_eq_true,if_false,Nat.not_lt_zero];rcases Nat.mod_two_eq_zero_or_one j with h|h
 ·simp[h]
 ·simp[h]
theorem kaP(n:Nat)(w:World)(h0:1<=n)(h1:n<=200) :
 Calls Tryz.prog 111 #[.int .i64 n] w fun e w'=>e=.returned (.pointer (some ⟨w.heap.size+1,0,none⟩))/\Below w.heap.size w w'/\w'.heap.size=w.heap.size+2/\w'.heap[w.heap.size+1]? = some (.cells #[.slice (some ⟨w.heap.size,0,none⟩) n n,.int .i64 0,.int .i64 n] 239 (0,0))/\k20 w' w.heap.size n (k1l n n true):=by
 obtain⟨i0,hi,hz0,hz1,hz2⟩:=info_parts kc5;have hmk:∀W:World,(Instr.makeSlice 237 (.int .i64 n) (.int .i64 n)).run Tryz.prog W=.ok (.slice (some ⟨W.heap.size,0,none⟩) n n) (W.alloc (.cells (madeCells (Value.agg #[.pointer none,.int .i64 0]).cells (n*2)) 242)):=fun W=>by
  have:=run_make (P:=Tryz.prog) W 237 242 i0 _ Tryz.underlying237 hi hz0 .i64 .i64 n n zz1 zz1 zz91 zz1;rw[hz1,Int.toNat_natCast]at this;exact this
 have SM:=Ab (k8X n);go_enter Tryz.func111,Tryz.ntmps111;go_wp2;have G0:=Ab (heap_alloc_new (w.alloc (.cells (madeCells (Value.agg #[.pointer none,.int .i64 0]).cells (n*2)) 242)) (.cells #[.slice (some ⟨w.heap.size,0,none⟩) n n,.int .i64 0,.int .i64 n] 239));have S0:=Ac (k20 ((w.alloc (.cells (madeCells (Value.agg #[.pointer none,.int .i64 0]).cells (n*2)) 242)).alloc (.cells #[.slice (some ⟨w.heap.size,0,none⟩) n n,.int .i64 0,.int .i64 n] 239)) w.heap.size n (k1l n 0 false)) (⟨_,(Below.heap_alloc _ _ _ zz6).trans (heap_alloc_new w _),by rw[size_madeCells];omega,SM.1⟩);have B0:=Ac (Below w.heap.size w ((w.alloc (.cells (madeCells (Value.agg #[.pointer none,.int .i64 0]).cells (n*2)) 242)).alloc (.cells #[.slice (some ⟨w.heap.size,0,none⟩) n n,.int .i64 0,.int .i64 n] 239))) (((Below.refl _ w).alloc (Nat.le_refl _) _).alloc zz6 _);rw[World.size_alloc]at G0;clear hmk SM hi hz0 hz1 hz2
 go_loopg [21] n (fun m s21 wr=>∃k:Nat,k+m=n/\s21=.int .i64 k/\k07 (wr.heap[w.heap.size+1]? = some (.cells #[.slice (some ⟨w.heap.size,0,none⟩) n n,.int .i64 0,.int .i64 n] 239 (0,0))/\k20 wr w.heap.size n (k1l n k false)/\Below w.heap.size w wr/\wr.heap.size=w.heap.size+2))
 case atStart=>exact⟨0,zz1,rfl,⟨⟨G0.1,S0.1,B0.1,zz6⟩⟩⟩
 case round=>
  obtain⟨k,hk,rfl,R⟩:=hrel;have c0:=k00 R.1.1 0;obtain⟨cur,hc,hz,hs⟩:=R.1.2.1;have fz:=k02 R.1.1;by_cases hlt:k<n
  ·have e1:(k:Int)<(n:Int):=by omega
   have c1:wr.cell? ⟨w.heap.size,k*2+1,none⟩=some (.int .i64 0):=by
    rw[k00 hc,hs _ zz1];simp[k1l];exact zz1
   have f1:=k02 hc (k*2+1);have K:=Ab (show(wr.setCell ⟨w.heap.size,k*2+1,none⟩ (.int .i64 ((k:Int)+1))).heap[w.heap.size+1]? = some (.cells #[.slice (some ⟨w.heap.size,0,none⟩) n n,.int .i64 0,.int .i64 n] 239 (0,0))/\k20 (wr.setCell ⟨w.heap.size,k*2+1,none⟩ (.int .i64 ((k:Int)+1))) w.heap.size n (k1l n (k+1) false)/\Below w.heap.size w (wr.setCell ⟨w.heap.size,k*2+1,none⟩ (.int .i64 ((k:Int)+1)))/\(wr.setCell ⟨w.heap.size,k*2+1,none⟩ (.int .i64 ((k:Int)+1))).heap.size=w.heap.size+2 from
    ⟨(Below.heap_setCell _ _ _ _ (by show w.heap.size+1≠w.heap.size;omega)).trans R.1.1,⟨_,k05 hc _ _,by simpa using hz,fun j hj=>by
      by_cases e:k*2+1=j
      ·subst e
       rw[k2K _ _ zz1];have e2:(k*2+1) / 2=k:=by omega
       have e3:(k*2+1) % 2=1:=zz1
       simp[k1l,e2,e3]
      ·rw[k1w _ _ e,hs j hj]
       unfold k1l;rcases Nat.mod_two_eq_zero_or_one j with h|h
       ·simp[h]
       ·have:(j / 2<k) ↔ (j / 2<k+1):=by omega
        simp[h,this]⟩,R.1.2.2.1.setCell (p:=⟨w.heap.size,_,none⟩) (Nat.le_refl _) _,by simpa[World.setCell] using R.1.2.2.2⟩)
   clear hc hz hs R;go_wp2
   go_roundg (n-(k+1))
   case measure=>exact zz1
   case rel=>exact⟨k+1,zz1,by go_num,K⟩
  ·have e1:¬(k:Int)<(n:Int):=by omega
   have hkn:k=n:=zz1
   subst hkn;obtain⟨m,rfl⟩:∃m,k=m+1:=⟨k-1,zz1⟩;have c1:wr.cell? ⟨w.heap.size,m*2+1,none⟩=some (.int .i64 ((m:Int)+1)):=by
    rw[k00 hc,hs _ zz1];have e2:(m*2+1) / 2=m:=by omega
    have e3:(m*2+1) % 2=1:=zz1
    simp[k1l,e2,e3]
   have f1:=k02 hc (m*2+1);have K:=Ab (show Below w.heap.size w (wr.setCell ⟨w.heap.size,m*2+1,none⟩ (.int .i64 (-1)))/\(wr.setCell ⟨w.heap.size,m*2+1,none⟩ (.int .i64 (-1))).heap.size=w.heap.size+2/\(wr.setCell ⟨w.heap.size,m*2+1,none⟩ (.int .i64 (-1))).heap[w.heap.size+1]? = some (.cells #[.slice (some ⟨w.heap.size,0,none⟩) (m+1) (m+1),.int .i64 0,.int .i64 (m+1:Nat)] 239 (0,0))/\k20 (wr.setCell ⟨w.heap.size,m*2+1,none⟩ (.int .i64 (-1))) w.heap.size (m+1) (k1l (m+1) (m+1) true) from
    ⟨R.1.2.2.1.setCell (p:=⟨w.heap.size,_,none⟩) (Nat.le_refl _) _,by simpa[World.setCell] using R.1.2.2.2,(Below.heap_setCell _ _ _ _ (by show w.heap.size+1≠w.heap.size;omega)).trans R.1.1,⟨_,k05 hc _ _,by simpa using hz,fun j hj=>by
     by_cases e:m*2+1=j
     ·subst e
      rw[k2K _ _ zz1];have e2:(m*2+1) / 2=m:=by omega
      have e3:(m*2+1) % 2=1:=zz1
      simp[k1l,e2,e3]
     ·rw[k1w _ _ e,hs j hj]
      unfold k1l;rcases Nat.mod_two_eq_zero_or_one j with h|h
      ·simp[h]
      ·have:¬j / 2=m:=by omega
       simp[h,this]⟩⟩)
   clear hc hz hs R;go_wp2;go_ret;exact⟨rfl,K.1⟩
theorem kby(n k:Nat)(h:k<n):hd ((List.range n).drop (k+1))=if k+1=n then -1 else((k+1:Nat):Int):=by
 by_cases e:k+1=n
 ·rw[if_pos e,List.drop_eq_nil_of_le (by rw[List.length_range];omega)]
  rfl
 ·rw[if_neg e,List.drop_eq_getElem_cons (by rw[List.length_range];omega)]
  simp[hd]
theorem PoolAt.new{w:World}{o:Nat->Col}{d:Col}{g b n:Nat}(h0:1<=n)(h1:n<=200)(hg:w.heap[g]? = some (.cells #[.slice (some ⟨b,0,none⟩) n n,.int .i64 0,.int .i64 n] 239 (0,0)))(hs:k20 w b n (k1l n n true))(og:o g=d)(ob:o b=d):PoolAt w o d g n (fun _=>none) (List.range n):=by
 obtain⟨cur,hc,hz,hf⟩:=hs;have odd:∀i,i<n->cur[i*2+1]? = some (.int .i64 (if i+1=n then -1 else((i+1:Nat):Int))):=fun i hi=>by
  rw[hf _ zz1];have e2:(i*2+1) / 2=i:=by omega
  have e3:(i*2+1) % 2=1:=zz1
  unfold k1l;by_cases e:i+1=n
  ·simp[e2,e3,e]
  ·simp[e2,e3,e,hi]
 refine⟨og,b,fun _=>0,cur,ob,?_,hc,hz,h1,fun i hi=>?_,fun i x hi hx=>(by cases hx),fun k i hk=>?_,List.nodup_range,fun i=>by simp,fun i hi=>⟨_,odd i hi⟩⟩
 ·have e:hd (List.range n)=0:=by
   obtain⟨m,rfl⟩:∃m,n=m+1:=⟨n-1,zz1⟩;rw[List.range_succ_eq_map];rfl
  rw[e,List.length_range];exact hg
 ·rw[hf _ zz1]
  have e3:(i*2) % 2=0:=zz1
  simp[k1l,e3]
 ·obtain⟨hk1,hk2⟩:=List.getElem?_eq_some_iff.1 hk
  rw[List.length_range]at hk1;rw[List.getElem_range]at hk2;subst hk2;rw[odd k hk1,kby n k hk1]
theorem ka5(p l n:Nat)(w:World)(h0:1<=n)(h1:n<=200)(h2:1<=p)(h3:p<=16)(h4:1<=l)(h5:l<=3) :
 Calls Tryz.prog 70 #[.int .i64 p,.int .i64 l,.int .i64 n] w fun e w'=>e=.returned (.pointer (some ⟨w.heap.size+3,0,none⟩))/\Below w.heap.size w w'/\w'.heap.size=w.heap.size+4/\w'.heap[w.heap.size+1]? = some (.cells #[.slice (some ⟨w.heap.size,0,none⟩) n n,.int .i64 0,.int .i64 n] 239 (0,0))/\k20 w' w.heap.size n (k1l n n true)/\w'.heap[w.heap.size+2]? = some (.map #[] 0)/\w'.heap[w.heap.size+3]? = some (.cells #[.pointer (some ⟨w.heap.size+1,0,none⟩),.map (some (w.heap.size+2)),.int .i64 p,.int .i64 l] 200 (0,0)):=by
 have hmm:=@run_makeMap Tryz.prog;go_enter Tryz.func70,Tryz.ntmps70
 go_wp2_with(go_at_call 111;refine(kaP n _ h0 h1).mono ?_;rintro e w1 ⟨rfl,hb,hs,hg,hsl⟩;have K:=Ab (And.intro hb (And.intro hs (And.intro hg hsl)));clear hb hs hg hsl)
 go_ret;have hs:=K.1.2.1;have e1:w1.heap.size=w.heap.size+2:=hs;rw[e1];have hb:=(K.1.1.alloc K.1.1.size (.map #[] 0)).alloc (Nat.le_trans K.1.1.size zz6) (.cells #[.pointer (some ⟨w.heap.size+1,0,none⟩),.map (some (w.heap.size+2)),.int .i64 p,.int .i64 l] 200);have old:∀(b:Nat)(q:Obj),w1.heap[b]? = some q->((w1.alloc (.map #[] 0)).alloc (.cells #[.pointer (some ⟨w.heap.size+1,0,none⟩),.map (some (w.heap.size+2)),.int .i64 p,.int .i64 l] 200)).heap[b]? = some q:=fun b q h=>
  (Below.heap_alloc _ _ _ (by have:=k03 h;simp;omega)).trans ((Below.heap_alloc _ _ _ (k03 h)).trans h)
 refine⟨rfl,hb,by simp[e1],old _ _ K.1.2.2.1,?_,?_,?_⟩
 ·obtain⟨cur,h1,h2,h3⟩:=K.1.2.2.2
  exact⟨cur,old _ _ h1,h2,h3⟩
 ·have h:=heap_alloc_new w1 (.map #[] 0)
  rw[e1]at h;exact(Below.heap_alloc _ _ _ (by simp[e1])).trans h
 ·have h:=heap_alloc_new (w1.alloc (.map #[] 0)) (.cells #[.pointer (some ⟨w.heap.size+1,0,none⟩),.map (some (w.heap.size+2)),.int .i64 p,.int .i64 l] 200)
  rw[World.size_alloc,e1]at h;exact h
theorem RingsAt.new{w:World}{o:Nat->Col}{c d:Col}{b p l n:Nat}(h0:1<=n)(h1:n<=200)(hp:p<=16)(hl:l<=3)(g1:w.heap[b+1]? = some (.cells #[.slice (some ⟨b,0,none⟩) n n,.int .i64 0,.int .i64 n] 239 (0,0)))(g2:k20 w b n (k1l n n true))(g3:w.heap[b+2]? = some (.map #[] 0))
 (g4:w.heap[b+3]? = some (.cells #[.pointer (some ⟨b+1,0,none⟩),.map (some (b+2)),.int .i64 p,.int .i64 l] 200 (0,0))) (o0:o b=d) (o1:o (b+1)=d) (o2:o (b+2)=c) (o3:o (b+3)=c):RingsAt w o c d (b+3) p l n (fun _=>[]):=
 ⟨o3,⟨b+1,b+2,fun _=>none,List.range n,fun _=>[],fun _=>.slice none 0 0,fun _=>0⟩,g4,PoolAt.new h0 h1 g1 g2 o1 o0,
  { om:=o2
    map:=⟨#[],0,g3,zz6,zz6,zz6,zz6,zz6⟩
    row:=fun a h=>absurd rfl h
    og:=fun a h=>absurd rfl h
    apart:=fun a b h=>absurd rfl h
    hold:=fun a=>rfl
    lt:=fun a i h=>zz52
    nodup:=fun a=>List.nodup_nil
    once:=fun a b i h=>zz52
    all:=fun i hi h=>absurd rfl h },zz1,zz1⟩
end Go.Proofs.YtdopmlopafgonaaGreatDoor.Own
