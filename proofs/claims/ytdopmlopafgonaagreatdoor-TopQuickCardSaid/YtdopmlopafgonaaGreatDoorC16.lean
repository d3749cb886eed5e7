/- TopQuick: one packet alone is brought from host to host (a part of the walks and of the plain laws). -/
import Derived.Test.YtdopmlopafgonaaGreatDoorC0
import Derived.Test.YtdopmlopafgonaaGreatDoorC13
import Derived.Test.YtdopmlopafgonaaGreatDoorC15
set_option linter.unusedVariables false
set_option linter.unusedSimpArgs false
set_option maxHeartbeats 4000000
set_option maxRecDepth 100000
namespace Go.Proofs.YtdopmlopafgonaaGreatDoor.Own
open Go.RowKit Go.Proofs.YtdopmlopafgonaaGreatDoorW.PrintWords Go.Proofs.YtdopmlopafgonaaGreatDoorW.PrintLast Go.Proofs.YtdopmlopafgonaaGreatDoorW.PrintMore
theorem min3 (i j k:Nat):∃ m:Int,0<=m/\∀ W:World,(Builtin.min_ #[3,3,3] 3 #[.int .i64 i,.int .i64 j,.int .i64 k]).run Tryz.prog W = .ok (.int .i64 m) W:=by
 simp only [k15,k1e];refine ⟨_,?_,fun W=>by simp [Sem.run_bind];rfl⟩;split <;> (try split) <;> omega
theorem max2 (i j:Nat) (p:Int) (h1:(i:Int)<p) (h2:(j:Int)<p):∃ m:Int,m<p/\∀ W:World,(Builtin.max_ #[3,3] 3 #[.int .i64 i,.int .i64 j]).run Tryz.prog W = .ok (.int .i64 m) W:=by
 simp only [k1q,k17];refine ⟨_,?_,fun W=>by simp [Sem.run_bind];rfl⟩;split <;> omega
abbrev Way:=Nat × Nat × Nat
def way (a:Way):Value:=.agg #[.int .i64 a.1,.int .i64 a.2.1,.int .i64 a.2.2]
theorem kbR {a b:Way} (h:way a=way b):a=b:=by
 obtain ⟨a1,a2,a3⟩:=a;obtain ⟨b1,b2,b3⟩:=b;simp only [way,Value.agg.injEq,Array.mk.injEq,List.cons.injEq,Value.int.injEq,true_and,and_true] at h;obtain ⟨h1,h2,h3⟩:=h;have h1:a1=b1:=by omega
 have h2:a2=b2:=by omega
 have h3:a3=b3:=by omega
 rw [h1,h2,h3]
theorem kcd (w:World):(zeroValue 29).run Tryz.prog w = .ok (.slice none 0 0) w:=by kernel_rfl
def mapQ:k8S Way where
 κ:=way
 good a:=a.1<4611686018427387904/\a.2.1<4611686018427387904/\a.2.2<4611686018427387904
 t:=198
 k:=203
 e:=29
 z:=.slice none 0 0
 law:=kc2
 ht:=Tryz.underlying198
 hz:=kcd
 inj:=kbR
 key a h:=key3 a.1 a.2.1 a.2.2 h.1 h.2.1 h.2.2
theorem k4m (w:World) (g:Nat) (p l:Int) (a:Way) (v0 v1:Value) (hh:w.heap[g]? = some (.cells #[v0,v1,.int .i64 p,.int .i64 l] 200 (0,0))) (h1:(a.1:Int)<p) (h2:(a.2.1:Int)<p) (h3:(a.2.2:Int)<l) :
 Calls Tryz.prog 144 #[.pointer (some ⟨g,0,none⟩),way a] w fun e w'=>e = .returned (.bool true)/\Below w.heap.size w w':=by
 obtain ⟨i,j,k⟩:=a;simp only at h1 h2 h3;show Calls Tryz.prog 144 #[.pointer (some ⟨g,0,none⟩),.agg #[.int .i64 i,.int .i64 j,.int .i64 k]] w _;have hh':=(Below.heap_alloc w (.cells #[.int .i64 i,.int .i64 j,.int .i64 k] 203) g (k03 hh)).trans hh;have c2:(w.alloc (.cells #[.int .i64 i,.int .i64 j,.int .i64 k] 203)).cell? ⟨g,2,none⟩=some (.int .i64 p):=k00 hh' 2;have c3:(w.alloc (.cells #[.int .i64 i,.int .i64 j,.int .i64 k] 203)).cell? ⟨g,3,none⟩=some (.int .i64 l):=k00 hh' 3;obtain ⟨m1,hm1,hr1⟩:=min3 i j k;obtain ⟨m2,hm2,hr2⟩:=max2 i j p h1 h2;have hn:=heap_alloc_new w (.cells #[.int .i64 i,.int .i64 j,.int .i64 k] 203);have HS:=Ab (And.intro (k00 hn 0) (And.intro (k00 hn 1) (And.intro (k00 hn 2) (And.intro c2 c3))));simp only [List.getElem?_toArray,List.getElem?_cons_zero,List.getElem?_cons_succ] at HS;clear hn;go_enter Tryz.func144,Tryz.ntmps144;go_wp2;refine WpL.region (fun W=>W.cell? ⟨w.heap.size,0,none⟩=some (.int .i64 i)/\W.cell? ⟨w.heap.size,1,none⟩=some (.int .i64 j)/\W.cell? ⟨w.heap.size,2,none⟩=some (.int .i64 k)/\W.cell? ⟨g,2,none⟩=some (.int .i64 p)/\W.cell? ⟨g,3,none⟩=some (.int .i64 l)) 29 zz3 ?_;refine WpL.T 0 [] HS.out ?_;refine WpL.T 1 [] HS.out ?_;refine WpL.T 2 [] HS.out ?_;refine WpL.T 3 [] HS.out ?_;refine WpL.T 4 [] HS.out ?_;refine WpL.T 5 [] HS.out ?_;refine WpL.T 6 [] HS.out ?_;refine WpL.T 7 [] HS.out ?_;refine WpL.T 8 [] HS.out ?_;refine WpL.T 9 [] HS.out ?_;refine WpL.T 10 [] HS.out ?_;refine WpL.T 11 [] HS.out ?_;refine WpL.T 12 [] HS.out ?_;refine WpL.T 13 [] HS.out ?_;refine WpL.T 14 [] HS.out ?_;refine WpL.T 15 [] HS.out ?_;refine WpL.T 16 [] HS.out ?_;refine WpL.T 17 [] HS.out ?_;refine WpL.T 18 [] HS.out ?_;refine WpL.T 19 [] HS.out ?_;refine WpL.T 20 [] HS.out ?_;refine WpL.T 21 [] HS.out ?_;refine WpL.T 22 [] HS.out ?_;refine WpL.T 23 [] HS.out ?_;refine WpL.T 24 [] HS.out ?_;refine WpL.T 25 [] HS.out ?_;refine WpL.T 26 [] HS.out ?_;refine WpL.T 27 [] HS.out ?_;refine WpL.T 28 [] HS.out ?_;refine WpL.one (i:=29) zz3 rfl (fun K hK=>?_);go_simp;refine hK.out _ _ (fun h=>absurd rfl h) ?_;clear hK K
 try refine Sm ?_
 refine WpL.done zz3 ?_ _;go_wp2;go_ret;exact ⟨rfl,((Below.refl _ _).alloc (Nat.le_refl _) _).drew⟩
def i64s (l:List Nat):List Value:=l.map fun (i:Nat)=>Value.int .i64 (i:Int)
structure RingsIn where
 gp:Nat
 mb:Nat
 f:Nat->Option Pk
 l:List Nat
 qs:Way->List Nat
 v:Way->Value
 gq:Way->Nat
structure RingsIn.ok (X:RingsIn) (w:World) (o:Nat->Col) (c:Col) (n:Nat) (q:Way->List Pk):Prop where
 om:o X.mb=c
 map:MapAt mapQ w X.mb (fun a=>if X.qs a=[] then none else some (X.v a))
 row:∀ a,X.qs a≠[]->Row w (X.v a) 3 1 (X.qs a).length (i64s (X.qs a)) (some (X.gq a))
 og:∀ a,X.qs a≠[]->o (X.gq a)=c
 apart:∀ a b,X.qs a≠[]->X.qs b≠[]->X.gq a=X.gq b->a=b
 hold:∀ a,(X.qs a).map X.f=(q a).map some
 lt:∀ a,∀ i∈X.qs a,i<n
 nodup:∀ a,(X.qs a).Nodup
 once:∀ a b i,i∈X.qs a->i∈X.qs b->a=b
 all:∀ i,i<n->X.f i≠none->∃ a,i∈X.qs a
def RingsAt (w:World) (o:Nat->Col) (c d:Col) (g:Nat) (p k:Int) (n:Nat) (q:Way->List Pk):Prop:=
 o g=c/\∃ X:RingsIn,w.heap[g]? = some (.cells #[.pointer (some ⟨X.gp,0,none⟩),.map (some X.mb),.int .i64 p,.int .i64 k] 200 (0,0))/\PoolAt w o d X.gp n X.f X.l/\X.ok w o c n q/\p<=16/\k<=3
section
variable {w:World} {o:Nat->Col} {c d:Col} {g n:Nat} {p k:Int} {q:Way->List Pk}
theorem RingsIn.ok.tr {S:Col->Prop} {w':World} {o':Nat->Col} {X:RingsIn} (h:X.ok w o c n q) (t:Tr S o w o' w') (hc:¬ S c):X.ok w' o' c n q:=
 { h with
   om:=(t.own _ h.map.lt).trans h.om
   map:=h.map.of_blk (t.only.same h.map.lt (by rw [h.om];exact hc))
   row:=fun a ha=>(h.row a ha).only t.only (fun b e=>by cases e;rw [h.og a ha];exact hc)
   og:=fun a ha=>(t.own _ ((h.row a ha).lt rfl)).trans (h.og a ha) }
theorem RingsAt.tr {S:Col->Prop} {w':World} {o':Nat->Col} (h:RingsAt w o c d g p k n q) (t:Tr S o w o' w') (hc:¬ S c) (hd:¬ S d):RingsAt w' o' c d g p k n q:=by
 obtain ⟨hg,X,hh,hp,hX,hpk⟩:=h;exact ⟨(t.own _ (k03 hh)).trans hg,X,t.blk hh zz81,hp.tr t hd,hX.tr t hc,hpk⟩
theorem RingsIn.ok.len {X:RingsIn} (h:X.ok w o c n q) (a:Way):(X.qs a).length=(q a).length:=by
 have:=congrArg List.length (h.hold a);exact zz66
theorem RingsIn.ok.look {X:RingsIn} (h:X.ok w o c n q) (i j m:Nat) (hi:i<16) (hj:j<16) (hm:m<3) :
 ∃ A cap,(Instr.lookup 198 (.map (some X.mb)) (.agg #[.int .i64 i,.int .i64 j,.int .i64 m]) false).run Tryz.prog w = .ok (.slice A (q (i,j,m)).length cap) w /\
  ((q (i,j,m)=[]/\A=none/\cap=0)\/(X.qs (i,j,m)≠[]/\X.v (i,j,m) = .slice A (q (i,j,m)).length cap/\Row w (.slice A (q (i,j,m)).length cap) 3 1 (q (i,j,m)).length (i64s (X.qs (i,j,m))) (some (X.gq (i,j,m))))):=by
 have hl:=h.map.look (i,j,m) ⟨by show i<_;omega,by show j<_;omega,by show m<_;omega⟩;have hlen:=h.len (i,j,m);by_cases e:X.qs (i,j,m)=[]
 · rw [if_pos e] at hl
   have e2:q (i,j,m)=[]:=List.eq_nil_of_length_eq_zero (by rw [<- hlen,e];rfl);exact ⟨none,0,by rw [e2];exact hl,.inl ⟨e2,rfl,rfl⟩⟩
 · rw [if_neg e] at hl
   have hr:=h.row _ e;obtain ⟨A,cap,hv,_⟩:=hr.size;rw [hv] at hl hr;rw [hlen] at hl hr hv;exact ⟨A,cap,hl,.inr ⟨e,hv,hr⟩⟩
theorem k4k (i j m:Nat) (H:RingsAt w o c d g p k n q) (hi:i<16) (hj:j<16) (hm:m<3) :
 Calls Tryz.prog 75 #[.pointer (some ⟨g,0,none⟩),.int .i64 i,.int .i64 j,.int .i64 m] w fun e w'=>e = .returned (.int .i64 (q (i,j,m)).length)/\w=w':=by
 obtain ⟨hg,X,hh,hp,hX,hpk⟩:=H;obtain ⟨A,cap,hl,_⟩:=hX.look i j m hi hj hm;have c1:w.cell? ⟨g,1,none⟩=some (.map (some X.mb)):=k00 hh 1;clear hX hp;go_enter Tryz.func75,Tryz.ntmps75;exact zz12
end
def updw {α : Type} (r:Way -> α) (a:Way) (x : α):Way -> α:=fun b=>if b=a then x else r b
theorem k0n {α : Type} (r:Way -> α) (a:Way) (x : α):updw r a x a=x:=by simp [updw]
theorem k0i {α : Type} (r:Way -> α) {a b:Way} (x : α) (h:b≠a):updw r a x b=r b:=by simp [updw,h]
theorem k0z {w:World} {b:Nat} {m:Way->Option Value} (h:MapAt mapQ w b m) {g:Nat} {cs:Array Value} {T:TypeId} {fr:Nat × Nat} (hg:w.heap[g]? = some (.cells cs T fr)):g≠b:=by
 rintro rfl;obtain ⟨es,clock,hh,_⟩:=h;rw [hg] at hh;cases hh
section
variable {w:World} {o:Nat->Col} {c d:Col} {g n:Nat} {p k:Int} {q:Way->List Pk}
theorem RingsIn.ok.vrow {X:RingsIn} (h:X.ok w o c n q) (a:Way):∃ A cap gV,((if X.qs a=[] then none else some (X.v a)).getD mapQ.z) = .slice A (X.qs a).length cap/\Row w (.slice A (X.qs a).length cap) 3 1 (X.qs a).length (i64s (X.qs a)) gV/\((gV=none/\X.qs a=[])\/(gV=some (X.gq a)/\X.qs a≠[])):=by
 by_cases e:X.qs a=[]
 · refine ⟨none,0,none,by rw [if_pos e,e];rfl,by rw [e];exact Row.nil _ _ _,.inl ⟨rfl,e⟩⟩
 · have hr:=h.row a e
   obtain ⟨A,cap,hv,_⟩:=hr.size;rw [hv] at hr;exact ⟨A,cap,some (X.gq a),by rw [if_neg e,<- hv];rfl,hr,.inr ⟨rfl,e⟩⟩
theorem ka7 {w6:World} {X:RingsIn} {a:Way} {x:Pk} {s:Nat} {l':List Nat} {gV:Option Nat} {b2:Nat} {V V2:Value} (hcd:c≠d) (hg:o g=c) (hX:X.ok w o c n q) (P3:PoolAt w o d X.gp n (upd X.f s (some x)) l') (hs:X.f s=none) (hsn:s<n) (hpk:p<=16/\k<=3)
 (hh:w.heap[g]? = some (.cells #[.pointer (some ⟨X.gp,0,none⟩),.map (some X.mb),.int .i64 p,.int .i64 k] 200 (0,0))) (hgV:(gV=none/\X.qs a=[])\/(gV=some (X.gq a)/\X.qs a≠[]))
 (M6:MapAt mapQ w6 X.mb (fun y=>if y=a then some V2 else (if y=a then some V else (if X.qs y=[] then none else some (X.v y)))))
 (R6:Row w6 V2 3 1 ((X.qs a).length+1) (i64s (X.qs a)++[.int .i64 s]) (some b2)) (G6:some b2=gV\/w.heap.size<=b2) (O6:Only (fun b=>b=X.mb\/gV=some b) w w6) :
 Tr (fun y=>y=c) o w (paint o w.heap.size w6.heap.size c) w6/\RingsAt w6 (paint o w.heap.size w6.heap.size c) c d g p k n (updw q a (q a++[x])):=by
 have hgVc:∀ b,gV=some b->o b=c:=fun b e=>by
  rcases hgV with ⟨h,_⟩ | ⟨h,hne⟩
  · rw [h] at e;cases e
  · rw [h] at e;cases e;exact hX.og a hne
 have O:Only (fun b=>o b=c) w w6:=O6.mono (fun b _ e=>by
  rcases e with rfl | e
  · exact hX.om
  · exact hgVc b e)
 have T:=Tr.paint (S:=fun y=>y=c) (o:=o) c O;have hgne:g≠X.mb:=k0z hX.map hh;have hgV2:gV≠some g:=fun e=>by
  rcases hgV with ⟨h,_⟩ | ⟨h,hne⟩
  · rw [h] at e;cases e
  · rw [h] at e
    exact (hX.row a hne).ne hh zz8 e
 have hsq:∀ y,s ∉ X.qs y:=fun y h=>by
  have h1:=congrArg (fun z=>z) (hX.hold y);obtain ⟨i,hi,he⟩:=List.mem_iff_getElem.1 h;have h2:((X.qs y).map X.f)[i]? = some none:=by rw [List.getElem?_map,List.getElem?_eq_getElem hi,he,Option.map_some,hs]
  rw [hX.hold y,List.getElem?_map] at h2
  cases hq:(q y)[i]? with
  | none=>rw [hq] at h2;cases h2
  | some z=>rw [hq] at h2;cases h2
 have hrow:∀ y,y≠a->X.qs y≠[]->X.gq y≠X.mb/\gV≠some (X.gq y):=fun y hy hne=>by
  obtain ⟨cur,hc⟩:=(hX.row y hne).blk_ty;refine ⟨k0z hX.map hc,fun e=>?_⟩;rcases hgV with ⟨h,_⟩ | ⟨h,hne'⟩
  · rw [h] at e;cases e
  · rw [h] at e
    injection e with e
    exact hy (hX.apart y a hne hne' e.symm)
 refine ⟨T,(k0w _ _ (k03 hh)).trans hg,⟨X.gp,X.mb,upd X.f s (some x),l',updw X.qs a (X.qs a++[s]),updw X.v a V2,updw X.gq a b2⟩,?_,P3.tr T (Ne.symm hcd),?_,hpk⟩
 · exact (O6.keep g (k03 hh) (fun e=>e.elim hgne hgV2)).trans hh
 · refine ⟨(k0w _ _ hX.map.lt).trans hX.om,?_,fun y hy=>?_,fun y hy=>?_,fun y z hy hz e=>?_,fun y=>?_,fun y i hi=>?_,fun y=>?_,fun y z i hy hz=>?_,fun i hi hf=>?_⟩
   · have:(fun y=>if y=a then some V2 else (if y=a then some V else (if X.qs y=[] then none else some (X.v y))))=(fun y=>if updw X.qs a (X.qs a++[s]) y=[] then none else some (updw X.v a V2 y)):=by
      funext y;by_cases e:y=a
      · subst e;simp [updw]
      · simp [updw,e]
     rw [<- this];exact M6
   · show Row w6 (updw X.v a V2 y) 3 1 (updw X.qs a (X.qs a++[s]) y).length (i64s (updw X.qs a (X.qs a++[s]) y)) (some (updw X.gq a b2 y))
     by_cases e:y=a
     · subst e
       rw [k0n,k0n,k0n,List.length_append];simpa [i64s] using R6
     · rw [k0i _ _ e,k0i _ _ e,k0i _ _ e]
       have hy':X.qs y≠[]:=by simpa [updw,e] using hy
       exact (hX.row y hy').only O6 (fun b e'=>by cases e';exact fun h=>h.elim (hrow y e hy').1 (hrow y e hy').2)
   · show paint o w.heap.size w6.heap.size c (updw X.gq a b2 y)=c
     by_cases e:y=a
     · subst e
       rw [k0n];rcases G6 with h | h
       · exact k7I _ _ (by rcases Nat.lt_or_ge b2 w.heap.size with h' | h';exact .inl ⟨h',hgVc b2 h.symm⟩;exact .inr h') (R6.lt rfl)
       · exact k0A _ _ h (R6.lt rfl)
     · rw [k0i _ _ e]
       have hy':X.qs y≠[]:=by simpa [updw,e] using hy
       rw [k0w _ _ ((hX.row y hy').lt rfl)];exact hX.og y hy'
   · have new:∀ y,y≠a->X.qs y≠[]->X.gq y≠b2:=fun y hy hne e=>by
      rcases G6 with h | h
      · exact (hrow y hy hne).2 (by rw [<- h,e])
      · have:=(hX.row y hne).lt rfl
        omega
     by_cases ey:y=a
     · by_cases ez:z=a
       · rw [ey,ez]
       · have hz':X.qs z≠[]:=by simpa [updw,ez] using hz
         simp only [updw,ey,ez,if_true,if_false] at e;exact absurd e.symm (new z ez hz')
     · have hy':X.qs y≠[]:=by simpa [updw,ey] using hy
       by_cases ez:z=a
       · simp only [updw,ey,ez,if_true,if_false] at e
         exact absurd e (new y ey hy')
       · have hz':X.qs z≠[]:=by simpa [updw,ez] using hz
         simp only [updw,ey,ez,if_false] at e;exact hX.apart y z hy' hz' e
   · have keep:∀ y,(X.qs y).map (upd X.f s (some x))=(q y).map some:=fun y=>by
      rw [<- hX.hold y];exact List.map_congr_left fun i hi=>k06 _ _ (fun e=>hsq y (e ▸ hi))
     show (updw X.qs a (X.qs a++[s]) y).map (upd X.f s (some x))=(updw q a (q a++[x]) y).map some;by_cases e:y=a
     · subst e
       rw [k0n,k0n,List.map_append,List.map_append,keep];simp [upd]
     · rw [k0i _ _ e,k0i _ _ e];exact keep y
   · by_cases e:y=a
     · subst e
       simp only [k0n,List.mem_append,List.mem_singleton] at hi;rcases hi with hi | rfl
       · exact hX.lt y i hi
       · exact hsn
     · simp only [k0i _ _ e] at hi;exact hX.lt y i hi
   · by_cases e:y=a
     · subst e
       simp only [k0n];rw [List.nodup_append];exact ⟨hX.nodup y,zz17,fun i hi j hj=>by simp at hj;subst hj;exact fun e=>hsq y (e ▸ hi)⟩
     · simp only [k0i _ _ e];exact hX.nodup y
   · have mem:∀ y i,i∈updw X.qs a (X.qs a++[s]) y->i∈X.qs y\/(y=a/\i=s):=fun y i h=>by
      by_cases e:y=a
      · subst e
        simp only [k0n,List.mem_append,List.mem_singleton] at h;exact h.imp id (fun h=>⟨rfl,h⟩)
      · simp only [k0i _ _ e] at h;exact .inl h
     rcases mem y i hy with h1 | ⟨h1,h1'⟩
     · rcases mem z i hz with h2 | ⟨h2,h2'⟩
       · exact hX.once y z i h1 h2
       · subst h2';exact absurd h1 (hsq y)
     · rcases mem z i hz with h2 | ⟨h2,h2'⟩
       · subst h1';exact absurd h2 (hsq z)
       · rw [h1,h2]
   · by_cases e:i=s
     · subst e
       exact ⟨a,by simp [k0n]⟩
     · have hf':X.f i≠none:=by simpa [upd,e] using hf
       obtain ⟨y,hy⟩:=hX.all i hi hf';refine ⟨y,?_⟩;by_cases ey:y=a
       · subst ey;simp [k0n,hy]
       · simp only [k0i _ _ ey];exact hy
end
theorem kbe {w:World} {b:Nat} {v:Value} {T:TypeId} {fr:Nat × Nat} (h:w.heap[b]? = some (.cells #[v] T fr)):∀ j u,[v][j]? = some u->w.cell? ((⟨b,0,none⟩:Addr).add j)=some u:=by
 intro j u hj;rw [Addr.add_lit,Nat.zero_add,cell_of_row w b j _ T fr h];simpa using hj
section
variable {w:World} {o:Nat->Col} {c d:Col} {g n:Nat} {p k:Int} {q:Way->List Pk}
theorem PoolAt.blw {w':World} {f:Nat->Option Pk} {l:List Nat} (h:PoolAt w o c g n f l) (t:Below w.heap.size w w'):PoolAt w' o c g n f l:=by
 obtain ⟨hg,gs,bx,cur,hgs,hh,hs,hz,hn,h1,h2,h3⟩:=h;exact ⟨hg,gs,bx,cur,hgs,(t.block _ (k03 hh)).trans hh,(t.block _ (k03 hs)).trans hs,hz,hn,h1,fun i x hi hx=>by
  obtain ⟨k1,k2⟩:=h2 i x hi hx;exact ⟨k1,(t.block _ (k03 k2)).trans k2⟩,h3⟩
theorem RingsIn.ok.blw {w':World} {X:RingsIn} (h:X.ok w o c n q) (t:Below w.heap.size w w'):X.ok w' o c n q:=
 { h with
   map:=h.map.of_blk (t.block _ h.map.lt)
   row:=fun a ha=>(h.row a ha).below t }
theorem RingsAt.blw {w':World} (h:RingsAt w o c d g p k n q) (t:Below w.heap.size w w'):RingsAt w' o c d g p k n q:=by
 obtain ⟨hg,X,hh,hp,hX,hpk⟩:=h;exact ⟨hg,X,(t.block _ (k03 hh)).trans hh,hp.blw t,hX.blw t,hpk⟩
theorem Fresh.blw {w':World} (h:Fresh o w) (t:Below w.heap.size w w'):Fresh o w':=fun b hb=>h b (Nat.le_trans t.size hb)
theorem k4d (i j m:Nat) (x:Pk) (hf:Fresh o w) {X:RingsIn} (hh:w.heap[g]? = some (.cells #[.pointer (some ⟨X.gp,0,none⟩),.map (some X.mb),.int .i64 p,.int .i64 k] 200 (0,0))) (hp:PoolAt w o d X.gp n X.f []) (hX:X.ok w o c n q) (H:RingsAt w o c d g p k n q) (hi:(i:Int)<p) (hj:(j:Int)<p) (hm:(m:Int)<k) :
 Calls Tryz.prog 121 #[.pointer (some ⟨g,0,none⟩),.int .i64 i,.int .i64 j,.int .i64 m,.agg #[.int .i64 x.src,.int .i64 x.dst,.int .i64 x.lane,.int .u32 x.body]] w fun e w'=>e = .returned (.bool false)/\Below w.heap.size w w':=by
 have B0:=Ab (((Below.refl w.heap.size w).alloc (Nat.le_refl _) (.cells #[.int .i64 x.src,.int .i64 x.dst,.int .i64 x.lane,.int .u32 x.body] 40)).alloc zz17 (.cells #[.int .i64 i,.int .i64 j,.int .i64 m] 203));have N0:=Ab (show ((w.alloc (.cells #[.int .i64 x.src,.int .i64 x.dst,.int .i64 x.lane,.int .u32 x.body] 40)).alloc (.cells #[.int .i64 i,.int .i64 j,.int .i64 m] 203)).heap[w.heap.size]? = some (.cells #[.int .i64 x.src,.int .i64 x.dst,.int .i64 x.lane,.int .u32 x.body] 40) from (Below.heap_alloc _ _ _ zz17).trans (heap_alloc_new w _));have N1:=Ab (show ((w.alloc (.cells #[.int .i64 x.src,.int .i64 x.dst,.int .i64 x.lane,.int .u32 x.body] 40)).alloc (.cells #[.int .i64 i,.int .i64 j,.int .i64 m] 203)).heap[w.heap.size+1]? = some (.cells #[.int .i64 i,.int .i64 j,.int .i64 m] 203) from by have h:=heap_alloc_new (w.alloc (.cells #[.int .i64 x.src,.int .i64 x.dst,.int .i64 x.lane,.int .u32 x.body] 40)) (.cells #[.int .i64 i,.int .i64 j,.int .i64 m] 203);rw [World.size_alloc] at h;exact h);have HH0:=Ab ((B0.out.block g (k03 hh)).trans hh);have HR:=Ab (fun W (hW:W.heap[g]? = some (.cells #[.pointer (some ⟨X.gp,0,none⟩),.map (some X.mb),.int .i64 p,.int .i64 k] 200 (0,0)))=>k4m W g p k (i,j,m) _ _ hW hi hj hm);have H0:=Ab H;have HX:=Ab hX;have HP:=Ab hp;have HF:=Ab hf;clear hX hp hf H hh;go_enter Tryz.func121,Tryz.ntmps121
 go_wp2_with (go_at_call 144;refine (HR.out _ HH0.out).mono ?_;rintro e w1 ⟨rfl,hb⟩;have B1:=Ab (k0B B0.out B0.out.size hb);have N01:=Ab ((hb.block w.heap.size (k03 N0.out)).trans N0.out);have N11:=Ab ((hb.block (w.heap.size+1) (k03 N1.out)).trans N1.out);have HH1:=Ab ((hb.block g (k03 HH0.out)).trans HH0.out);clear hb)
 have HS:=Ab (show (fun (W:World)=>W.cell? ⟨g,0,none⟩=some (.pointer (some ⟨X.gp,0,none⟩))/\W.cell? ⟨w.heap.size,0,none⟩=some (.int .i64 x.src)/\W.cell? ⟨w.heap.size,1,none⟩=some (.int .i64 x.dst)/\W.cell? ⟨w.heap.size,2,none⟩=some (.int .i64 x.lane)/\W.cell? ⟨w.heap.size,3,none⟩=some (.int .u32 x.body)) w1 from by obtain ⟨b0,b1,b2,b3⟩:=box4 (w:=w) N01.out;exact ⟨k00 HH1.out 0,b0,b1,b2,b3⟩);refine WpL.region (fun (W:World)=>W.cell? ⟨g,0,none⟩=some (.pointer (some ⟨X.gp,0,none⟩))/\W.cell? ⟨w.heap.size,0,none⟩=some (.int .i64 x.src)/\W.cell? ⟨w.heap.size,1,none⟩=some (.int .i64 x.dst)/\W.cell? ⟨w.heap.size,2,none⟩=some (.int .i64 x.lane)/\W.cell? ⟨w.heap.size,3,none⟩=some (.int .u32 x.body)) 10 zz3 ?_;refine WpL.T 0 [] HS.out ?_;refine WpL.T 1 [] HS.out ?_;refine WpL.T 2 [] HS.out ?_;refine WpL.T 3 [] HS.out ?_;refine WpL.T 4 [] HS.out ?_;refine WpL.one (i:=5) zz3 rfl (fun K hK=>?_);go_simp;refine (k5y x (HP.out.blw B1.out.drew)).mono ?_;rintro e w3 ⟨rfl,hb⟩;have B3:=Ab (undrew hb);have HS3:=Ab (show (fun (W:World)=>W.cell? ⟨g,0,none⟩=some (.pointer (some ⟨X.gp,0,none⟩))/\W.cell? ⟨w.heap.size,0,none⟩=some (.int .i64 x.src)/\W.cell? ⟨w.heap.size,1,none⟩=some (.int .i64 x.dst)/\W.cell? ⟨w.heap.size,2,none⟩=some (.int .i64 x.lane)/\W.cell? ⟨w.heap.size,3,none⟩=some (.int .u32 x.body)) w3 from by obtain ⟨k0,k1,k2,k3,k4⟩:=HS.out;exact ⟨k01 B3.out k0,k01 B3.out k1,k01 B3.out k2,k01 B3.out k3,k01 B3.out k4⟩);clear hb;simp only [];refine hK.out _ _ (fun _=>HS3.out) ?_;clear hK K
 try refine Sm ?_
 refine WpL.T 6 [] HS3.out ?_;refine WpL.T 7 [] HS3.out ?_;refine WpL.T 8 [] HS3.out ?_;refine WpL.T 9 [] HS3.out ?_;refine WpL.one (i:=10) zz3 rfl (fun K hK=>?_);go_simp;refine hK.out _ _ (fun h=>absurd rfl h) ?_;clear hK K
 try refine Sm ?_
 refine WpL.done zz3 ?_ _;go_wp2;go_ret;exact ⟨rfl,k0B B1.out B1.out.size B3.out⟩
theorem k5P (i j m:Nat) (x:Pk) (hf:Fresh o w) {X:RingsIn} {s:Nat} {l':List Nat} (hcd:c≠d) (hcj:c ≠ .junk) (hdj:d ≠ .junk) (hg:o g=c) (hpk:p<=16/\k<=3) (hh:w.heap[g]? = some (.cells #[.pointer (some ⟨X.gp,0,none⟩),.map (some X.mb),.int .i64 p,.int .i64 k] 200 (0,0))) (hl:X.l=s :: l') (hp:PoolAt w o d X.gp n X.f (s :: l')) (hX:X.ok w o c n q) (H:RingsAt w o c d g p k n q) (hi:(i:Int)<p) (hj:(j:Int)<p) (hm:(m:Int)<k) :
 Calls Tryz.prog 121 #[.pointer (some ⟨g,0,none⟩),.int .i64 i,.int .i64 j,.int .i64 m,.agg #[.int .i64 x.src,.int .i64 x.dst,.int .i64 x.lane,.int .u32 x.body]] w fun e w'=>e = .returned (.bool true)/\∃ o',Tr (fun y=>y=c\/y=d) o w o' w'/\RingsAt w' o' c d g p k n (updw q (i,j,m) (q (i,j,m)++[x])):=by
 have B0:=Ab (((Below.refl w.heap.size w).alloc (Nat.le_refl _) (.cells #[.int .i64 x.src,.int .i64 x.dst,.int .i64 x.lane,.int .u32 x.body] 40)).alloc zz17 (.cells #[.int .i64 i,.int .i64 j,.int .i64 m] 203));have N0:=Ab (show ((w.alloc (.cells #[.int .i64 x.src,.int .i64 x.dst,.int .i64 x.lane,.int .u32 x.body] 40)).alloc (.cells #[.int .i64 i,.int .i64 j,.int .i64 m] 203)).heap[w.heap.size]? = some (.cells #[.int .i64 x.src,.int .i64 x.dst,.int .i64 x.lane,.int .u32 x.body] 40) from (Below.heap_alloc _ _ _ zz17).trans (heap_alloc_new w _));have N1:=Ab (show ((w.alloc (.cells #[.int .i64 x.src,.int .i64 x.dst,.int .i64 x.lane,.int .u32 x.body] 40)).alloc (.cells #[.int .i64 i,.int .i64 j,.int .i64 m] 203)).heap[w.heap.size+1]? = some (.cells #[.int .i64 i,.int .i64 j,.int .i64 m] 203) from by have h:=heap_alloc_new (w.alloc (.cells #[.int .i64 x.src,.int .i64 x.dst,.int .i64 x.lane,.int .u32 x.body] 40)) (.cells #[.int .i64 i,.int .i64 j,.int .i64 m] 203);rw [World.size_alloc] at h;exact h);have HH0:=Ab ((B0.out.block g (k03 hh)).trans hh);have HR:=Ab (fun W (hW:W.heap[g]? = some (.cells #[.pointer (some ⟨X.gp,0,none⟩),.map (some X.mb),.int .i64 p,.int .i64 k] 200 (0,0)))=>k4m W g p k (i,j,m) _ _ hW hi hj hm);have H0:=Ab H;have HX:=Ab hX;have HP:=Ab hp;have HF:=Ab hf;have hs5:=Ab (show X.f s=none/\s<n from by
  obtain ⟨_,_,_,_,_,_,_,_,_,_,_,_,_,h5,_⟩:=id hp;exact ⟨((h5 s).1 zz17).2,((h5 s).1 zz17).1⟩)
 have HQ:=Ab (show (X.qs (i,j,m)).length<=200 from by
  have h1:=k1Q (X.qs (i,j,m)) (List.range n) (hX.nodup _) (fun y hy=>List.mem_range.2 (hX.lt _ y hy));rw [List.length_range] at h1;have:=hp.len;omega)
 have HG:=Ab hg;have HC:=Ab (And.intro hcd (And.intro hcj hdj));have HPK:=Ab hpk;have hgl:=k03 hh;clear hX hp hf H hh hl hg hcd hcj hdj hpk;go_enter Tryz.func121,Tryz.ntmps121
 go_wp2_with (go_at_call 144;refine (HR.out _ HH0.out).mono ?_;rintro e w1 ⟨rfl,hb⟩;have B1:=Ab (k0B B0.out B0.out.size hb);have N01:=Ab ((hb.block w.heap.size (k03 N0.out)).trans N0.out);have N11:=Ab ((hb.block (w.heap.size+1) (k03 N1.out)).trans N1.out);have HH1:=Ab ((hb.block g (k03 HH0.out)).trans HH0.out);clear hb)
 have HS:=Ab (show (fun (W:World)=>W.cell? ⟨g,0,none⟩=some (.pointer (some ⟨X.gp,0,none⟩))/\W.cell? ⟨w.heap.size,0,none⟩=some (.int .i64 x.src)/\W.cell? ⟨w.heap.size,1,none⟩=some (.int .i64 x.dst)/\W.cell? ⟨w.heap.size,2,none⟩=some (.int .i64 x.lane)/\W.cell? ⟨w.heap.size,3,none⟩=some (.int .u32 x.body)) w1 from by obtain ⟨b0,b1,b2,b3⟩:=box4 (w:=w) N01.out;exact ⟨k00 HH1.out 0,b0,b1,b2,b3⟩);refine WpL.region (fun (W:World)=>W.cell? ⟨g,0,none⟩=some (.pointer (some ⟨X.gp,0,none⟩))/\W.cell? ⟨w.heap.size,0,none⟩=some (.int .i64 x.src)/\W.cell? ⟨w.heap.size,1,none⟩=some (.int .i64 x.dst)/\W.cell? ⟨w.heap.size,2,none⟩=some (.int .i64 x.lane)/\W.cell? ⟨w.heap.size,3,none⟩=some (.int .u32 x.body)) 10 zz3 ?_;refine WpL.T 0 [] HS.out ?_;refine WpL.T 1 [] HS.out ?_;refine WpL.T 2 [] HS.out ?_;refine WpL.T 3 [] HS.out ?_;refine WpL.T 4 [] HS.out ?_;refine WpL.one (i:=5) zz3 rfl (fun K hK=>?_);go_simp;refine (kab x s (HF.out.blw B1.out.drew) (HP.out.blw B1.out.drew)).mono ?_;rintro e w3 ⟨rfl,o3,T3,P3⟩;have T:=Ab ((Tr.below (S:=fun y=>y=d) HF.out B1.out.drew).trans T3);have hjw:∀ b,w.heap.size<=b->¬ o b=d:=fun b hb e=>HC.out.2.2 (by rw [<- e];exact HF.out b hb)
 have M1:=Ab (T3.blk (g:=w.heap.size) N01.out (hjw _ (Nat.le_refl _)));have M2:=Ab (T3.blk (g:=w.heap.size+1) N11.out (hjw _ zz1));have HH3:=Ab (T3.blk (g:=g) HH1.out (by rw [HG.out];exact HC.out.1));have PP:=Ab P3;have HS3:=Ab (show (fun (W:World)=>W.cell? ⟨g,0,none⟩=some (.pointer (some ⟨X.gp,0,none⟩))/\W.cell? ⟨w.heap.size,0,none⟩=some (.int .i64 x.src)/\W.cell? ⟨w.heap.size,1,none⟩=some (.int .i64 x.dst)/\W.cell? ⟨w.heap.size,2,none⟩=some (.int .i64 x.lane)/\W.cell? ⟨w.heap.size,3,none⟩=some (.int .u32 x.body)) w3 from by obtain ⟨b0,b1,b2,b3⟩:=box4 (w:=w) M1.out;exact ⟨k00 HH3.out 0,b0,b1,b2,b3⟩);clear T3 P3 hjw;simp only [];refine hK.out _ _ (fun _=>HS3.out) ?_;clear hK K
 try refine Sm ?_
 refine WpL.T 6 [] HS3.out ?_;refine WpL.T 7 [] HS3.out ?_;refine WpL.T 8 [] HS3.out ?_;refine WpL.T 9 [] HS3.out ?_;refine WpL.one (i:=10) zz3 rfl (fun K hK=>?_);go_simp;refine hK.out _ _ (fun h=>absurd rfl h) ?_;clear hK K
 try refine Sm ?_
 refine WpL.done zz3 ?_ _;go_wp2;have XX:=Ab (HX.out.tr T.out HC.out.1);obtain ⟨A,cap,gV,hV,hRV,hgV⟩:=XX.out.vrow (i,j,m);have HV:=Ab hV;have HRV:=Ab hRV;have HGV:=Ab hgV;have HS6:=Ab (show (fun (W:World)=>W.cell? ⟨g,1,none⟩=some (.map (some X.mb))/\W.cell? ⟨w.heap.size+1,0,none⟩=some (.int .i64 i)/\W.cell? ⟨w.heap.size+1,1,none⟩=some (.int .i64 j)/\W.cell? ⟨w.heap.size+1,2,none⟩=some (.int .i64 m)) w3 from ⟨k00 HH3.out 1,k00 M2.out 0,k00 M2.out 1,k00 M2.out 2⟩);have hgoo:=Ab (show mapQ.good (i,j,m) from ⟨by show i<_;have:=HPK.out;omega,by show j<_;have:=HPK.out;omega,by show m<_;have:=HPK.out;omega⟩);have NM:=Ab (show g≠X.mb/\w.heap.size+1≠X.mb/\gV≠some g/\gV≠some (w.heap.size+1)/\gV≠some X.mb from by
  have e1:=k0z XX.out.map HH3.out;have e2:=k0z XX.out.map M2.out;refine ⟨e1,e2,HRV.out.ne HH3.out zz8,HRV.out.ne M2.out zz8,fun e=>?_⟩;subst e;obtain ⟨cur,hc⟩:=HRV.out.blk_ty;exact k0z XX.out.map hc rfl)
 clear hV hRV hgV;refine WpL.region (fun (W:World)=>W.cell? ⟨g,1,none⟩=some (.map (some X.mb))/\W.cell? ⟨w.heap.size+1,0,none⟩=some (.int .i64 i)/\W.cell? ⟨w.heap.size+1,1,none⟩=some (.int .i64 j)/\W.cell? ⟨w.heap.size+1,2,none⟩=some (.int .i64 m)) 11 zz3 ?_;refine WpL.T 0 [] HS6.out ?_;refine WpL.T 1 [] HS6.out ?_;refine WpL.T 2 [] HS6.out ?_;refine WpL.T 3 [] HS6.out ?_;refine WpL.T 4 [] HS6.out ?_;refine WpL.T 5 [] HS6.out ?_;refine WpL.one (i:=6) zz3 rfl (fun K hK=>?_);go_simp;refine hK.out _ _ (fun _=>show (fun (W:World)=>W.cell? ⟨g,1,none⟩=some (.map (some X.mb))/\W.cell? ⟨w.heap.size+1,0,none⟩=some (.int .i64 i)/\W.cell? ⟨w.heap.size+1,1,none⟩=some (.int .i64 j)/\W.cell? ⟨w.heap.size+1,2,none⟩=some (.int .i64 m)) _ from by obtain ⟨k0,k1,k2,k3⟩:=HS6.out;exact ⟨k01 ((Below.refl _ _).alloc (Nat.le_refl _) _) k0,k01 ((Below.refl _ _).alloc (Nat.le_refl _) _) k1,k01 ((Below.refl _ _).alloc (Nat.le_refl _) _) k2,k01 ((Below.refl _ _).alloc (Nat.le_refl _) _) k3⟩) ?_;clear hK K
 try refine Sm ?_
 refine WpL.one (i:=7) zz3 rfl (fun K hK=>?_);refine k85 (M:=mapQ) (b:=X.mb) rfl _ _ (i,j,m) rfl ((XX.out.map).of_blk (Below.heap_alloc _ _ _ XX.out.map.lt)) rfl rfl hgoo.out _ HV.out ?_;intro w4 st M4 E4 O4;have O34:=Ab (show Only (fun b=>b=X.mb) w3 w4 from Only.undrew (((Only.refl _ _).alloc _).then O4 (fun _ _ e=>e)));have hb4:=O4.keep w3.heap.size zz17 (fun e=>by have:=XX.out.map.lt;omega);have B4:=Ab (hb4.trans (heap_alloc_new _ _));have MM4:=Ab M4;have EE4:=Ab E4;have hs4:(fun (W:World)=>W.cell? ⟨g,1,none⟩=some (.map (some X.mb))/\W.cell? ⟨w.heap.size+1,0,none⟩=some (.int .i64 i)/\W.cell? ⟨w.heap.size+1,1,none⟩=some (.int .i64 j)/\W.cell? ⟨w.heap.size+1,2,none⟩=some (.int .i64 m)) w4:=by obtain ⟨k0,k1,k2,k3⟩:=HS6.out;exact ⟨O34.out.cell k0 NM.out.1,O34.out.cell k1 NM.out.2.1,O34.out.cell k2 NM.out.2.1,O34.out.cell k3 NM.out.2.1⟩
 have HS7:=Ab hs4;clear M4 E4 O4 hb4 hs4;refine hK.out _ _ (fun _=>HS7.out) ?_;clear hK K
 try refine Sm ?_
 refine WpL.T 8 [] HS7.out ?_;refine WpL.T 10 [] HS7.out ?_;refine WpL.one (i:=9) zz3 rfl (fun K hK=>?_);refine k4c rfl _ _ 29 3 (.int .i64 0) 1 8 rfl Tryz.underlying29 k1k rfl zz8 zz8 (.slice A (X.qs (i,j,m)).length cap) (X.qs (i,j,m)).length 1 1 (i64s (X.qs (i,j,m))) [.int .i64 s] gV ⟨w3.heap.size,0,none⟩ (HRV.out.only O34.out (fun b e e'=>NM.out.2.2.2.2 (by rw [e,e']))) rfl rfl rfl zz8 (kbe B4.out) (by simp;rfl) (by have:=HQ.out;omega) ?_;intro v5 w5 g5 R5 O5 G5;obtain ⟨A5,k5,rfl,hk5⟩:=R5.size;have R5':=Ab R5;have O5':=Ab O5;have G5':=Ab G5;have hs5:(fun (W:World)=>W.cell? ⟨g,1,none⟩=some (.map (some X.mb))/\W.cell? ⟨w.heap.size+1,0,none⟩=some (.int .i64 i)/\W.cell? ⟨w.heap.size+1,1,none⟩=some (.int .i64 j)/\W.cell? ⟨w.heap.size+1,2,none⟩=some (.int .i64 m)) w5:=by obtain ⟨k0,k1,k2,k3⟩:=HS7.out;exact ⟨O5.cell k0 NM.out.2.2.1,O5.cell k1 NM.out.2.2.2.1,O5.cell k2 NM.out.2.2.2.1,O5.cell k3 NM.out.2.2.2.1⟩
 have HS8:=Ab hs5;have M5:=Ab (MM4.out.of_blk (O5.same MM4.out.lt NM.out.2.2.2.2));have E5:=Ab (EE4.out.of_blk (O5.same MM4.out.lt NM.out.2.2.2.2));clear R5 O5 G5 hs5;refine hK.out _ _ (fun _=>HS8.out) ?_;clear hK K
 try refine Sm ?_
 refine WpL.one (i:=11) zz3 rfl (fun K hK=>?_);refine k4f (M:=mapQ) (b:=X.mb) rfl _ _ _ _ (i,j,m) st (.slice A5 ((X.qs (i,j,m)).length+1) k5) rfl M5.out E5.out rfl rfl rfl ?_;intro w6 M6 O6;have M6':=Ab M6;have O6':=Ab O6;clear M6 O6;refine hK.out _ _ (fun h=>absurd rfl h) ?_;clear hK K
 try refine Sm ?_
 refine WpL.done zz3 ?_ _;go_wp2;go_ret;obtain ⟨b2,off2,cap2,hg5,hv5,_⟩:=R5'.out.open zz1;have R5b:=R5'.out;rw [hg5] at R5b;obtain ⟨cur2,hcur2⟩:=R5b.blk_ty;have hb2:b2≠X.mb:=k0z M5.out hcur2;have R6:=R5b.only O6'.out (fun b e=>by cases e;exact hb2);have hg3:o3 g=c:=(T.out.own g hgl).trans HG.out;have O36:Only (fun b=>b=X.mb\/gV=some b) w3 w6:=((O34.out.mono (fun _ _ e=>.inl e)).then O5'.out (fun _ _ e=>.inr e)).then O6'.out (fun _ _ e=>.inl e)
 have G6:some b2=gV\/w3.heap.size<=b2:=by
  rcases G5'.out with h | ⟨b,h,hb⟩
  · exact .inl (hg5.symm.trans h)
  · rw [hg5] at h
    cases h;exact .inr (Nat.le_trans O34.out.size hb)
 obtain ⟨t1,t2⟩:=ka7 (x:=x) HC.out.1 hg3 XX.out PP.out hs5.out.1 hs5.out.2 HPK.out HH3.out HGV.out M6'.out R6 G6 O36;exact ⟨rfl,_,(T.out.mono (fun _ e=>.inr e)).then t1 (fun _ e=>.inl e),t2⟩
end
theorem set4 (w3:World) (b:Nat) (x y z u:Value):Only (fun i=>i=b) w3 ((((w3.setCell ⟨b,0,none⟩ x).setCell ⟨b,1,none⟩ y).setCell ⟨b,2,none⟩ z).setCell ⟨b,3,none⟩ u):=by
 have h1:=(Only.refl (fun i=>i=b) w3).set (p:=⟨b,0,none⟩) (fun _=>rfl) x;have h2:=h1.set (p:=⟨b,1,none⟩) (fun _=>rfl) y;have h3:=h2.set (p:=⟨b,2,none⟩) (fun _=>rfl) z;exact h3.set (p:=⟨b,3,none⟩) (fun _=>rfl) u
theorem k7T {B:Nat} {w W W':World} {P:Nat->Prop} (h:Below B w W) (k:Only P W W') (hB:B<=W.heap.size) (hp:∀ b,b<B->¬ P b):Below B w W':=
 h.trans ⟨k.os,k.tape,k.output,k.size,fun b hb=>k.keep b zz1 (hp b hb)⟩
section
variable {w:World} {o:Nat->Col} {c d:Col} {g n:Nat} {p k:Int} {q:Way->List Pk}
theorem RingsIn.ok.head {X:RingsIn} (h:X.ok w o c n q) {a:Way} {x:Pk} {r:List Pk} (hq:q a=x :: r):∃ s ss,X.qs a=s :: ss/\X.f s=some x/\s<n/\ss.map X.f=r.map some:=by
 have h1:=h.hold a;rw [hq] at h1
 cases hs:X.qs a with
 | nil=>rw [hs] at h1;cases h1
 | cons s ss=>
   rw [hs] at h1;simp only [List.map_cons,List.cons.injEq] at h1;exact ⟨s,ss,rfl,h1.1,h.lt a s (by rw [hs];simp),h1.2⟩
theorem k59 (i j m:Nat) (x:Pk) (r:List Pk) (H:RingsAt w o c d g p k n q) (hi:i<16) (hj:j<16) (hm:m<3) (hq:q (i,j,m)=x :: r) :
 Calls Tryz.prog 152 #[.pointer (some ⟨g,0,none⟩),.int .i64 i,.int .i64 j,.int .i64 m] w fun e w'=>e = .returned (.tuple #[x.agg,.bool true])/\Below w.heap.size w w':=by
 have B0:=Ab ((Below.refl w.heap.size w).alloc (Nat.le_refl _) (.cells #[.int .i64 0,.int .i64 0,.int .i64 0,.int .u32 0] 40));obtain ⟨hg,X,hh,hp,hX,hpk⟩:=H.blw B0.out;obtain ⟨A,cap,hl,hv⟩:=hX.look i j m hi hj hm;obtain ⟨s,ss,hs,hfs,hsn,_⟩:=hX.head hq;rw [hq,List.length_cons] at hl hv;have hR:Row (w.alloc (.cells #[.int .i64 0,.int .i64 0,.int .i64 0,.int .u32 0] 40)) (.slice A (r.length+1) cap) 3 1 (r.length+1) (i64s (X.qs (i,j,m))) (some (X.gq (i,j,m))):=by
  rcases hv with ⟨h,_⟩ | ⟨_,_,h⟩
  · exact zz45
  · exact h
 obtain ⟨b,off,cap',hb,hv2,hcap,hfz,hrd⟩:=hR.open zz1;simp only [Value.slice.injEq,true_and] at hv2;obtain ⟨rfl,rfl⟩:=hv2;have h0:(w.alloc (.cells #[.int .i64 0,.int .i64 0,.int .i64 0,.int .u32 0] 40)).cell? ⟨b,off,none⟩=some (.int .i64 s):=by
  have:=hrd 0 (by rw [hs];simp [i64s]);exact zz80
 have c1:(w.alloc (.cells #[.int .i64 0,.int .i64 0,.int .i64 0,.int .u32 0] 40)).cell? ⟨g,1,none⟩=some (.map (some X.mb)):=k00 hh 1;have hr0:(((r.length+1:Nat):Int) == 0)=false:=beq_eq_false_iff_ne.mpr zz1;have hrl:(r.length:Int)+1<=1000:=by
  have h1:=k1Q (X.qs (i,j,m)) (List.range n) (hX.nodup _) (fun y hy=>List.mem_range.2 (hX.lt _ y hy));rw [List.length_range,hX.len,hq,List.length_cons] at h1;have:=hp.len;exact zz1
 have HS:=Ab (show (fun (W:World)=>W.cell? ⟨g,0,none⟩=some (.pointer (some ⟨X.gp,0,none⟩))/\W.cell? ⟨b,off,none⟩=some (.int .i64 s)) (w.alloc (.cells #[.int .i64 0,.int .i64 0,.int .i64 0,.int .u32 0] 40)) from ⟨k00 hh 0,h0⟩);have HP:=Ab hp;have HF:=Ab (And.intro hfs hsn);have HN:=Ab (show b≠w.heap.size/\g≠w.heap.size from by
  refine ⟨fun e=>?_,fun e=>?_⟩
  · obtain ⟨cur,hc⟩:=(hb ▸ hR).blk_ty
    rw [e,heap_alloc_new] at hc;cases hc
  · rw [e,heap_alloc_new] at hh
    cases hh)
 have HZ:=Ab (heap_alloc_new w (.cells #[.int .i64 0,.int .i64 0,.int .i64 0,.int .u32 0] 40));clear hX hp hR hrd hfz hv h0 hfs hsn hs hh hb;go_enter Tryz.func152,Tryz.ntmps152;go_wp2;refine WpL.region (fun (W:World)=>W.cell? ⟨g,0,none⟩=some (.pointer (some ⟨X.gp,0,none⟩))/\W.cell? ⟨b,off,none⟩=some (.int .i64 s)) 11 zz3 ?_;refine WpL.T 0 [] HS.out ?_;refine WpL.T 1 [] HS.out ?_;refine WpL.T 2 [] HS.out ?_;refine WpL.T 3 [] HS.out ?_;refine WpL.T 4 [] HS.out ?_;refine WpL.T 5 [] HS.out ?_;refine WpL.T 6 [] HS.out ?_;refine WpL.one (i:=7) zz3 rfl (fun K hK=>?_);go_simp;refine (ka6 s x (HP.out.blw ((Below.refl _ _).drew)) HF.out.2 HF.out.1).mono ?_;rintro e w3 ⟨rfl,hb⟩;have B3:=Ab (undrew hb);have HZ3:=Ab ((B3.out.block w.heap.size (k03 HZ.out)).trans HZ.out);have z0:=k00 HZ3.out 0;have z1:=k00 HZ3.out 1;have z2:=k00 HZ3.out 2;have z3:=k00 HZ3.out 3;have zf:=fun k=>k02 HZ3.out k
 have HS3:=Ab (show (fun (W:World)=>W.cell? ⟨g,0,none⟩=some (.pointer (some ⟨X.gp,0,none⟩))/\W.cell? ⟨b,off,none⟩=some (.int .i64 s)) w3 from by obtain ⟨k0,k1⟩:=HS.out;exact ⟨k01 B3.out k0,k01 B3.out k1⟩);clear hb;simp only [];refine hK.out _ _ (fun _=>HS3.out) ?_;clear hK K
 try refine Sm ?_
 refine WpL.T 8 [] HS3.out ?_;refine WpL.T 9 [] HS3.out ?_;refine WpL.one (i:=10) zz3 rfl (fun K hK=>?_);go_simp;have O4:=Ab (set4 w3 w.heap.size (.int .i64 x.src) (.int .i64 x.dst) (.int .i64 x.lane) (.int .u32 x.body));have HZ4:=Ab (show ((((w3.setCell ⟨w.heap.size,0,none⟩ (.int .i64 x.src)).setCell ⟨w.heap.size,1,none⟩ (.int .i64 x.dst)).setCell ⟨w.heap.size,2,none⟩ (.int .i64 x.lane)).setCell ⟨w.heap.size,3,none⟩ (.int .u32 x.body)).heap[w.heap.size]? = some (.cells #[.int .i64 x.src,.int .i64 x.dst,.int .i64 x.lane,.int .u32 x.body] 40 (0,0)) from k05 (k05 (k05 (k05 HZ3.out 0 _) 1 _) 2 _) 3 _);have B4:=Ab (k7T (k0B B0.out B0.out.size B3.out) O4.out (k0B B0.out B0.out.size B3.out).size (fun b hb e=>by omega));have HS4:=Ab (show (fun (W:World)=>W.cell? ⟨g,0,none⟩=some (.pointer (some ⟨X.gp,0,none⟩))/\W.cell? ⟨b,off,none⟩=some (.int .i64 s)) ((((w3.setCell ⟨w.heap.size,0,none⟩ (.int .i64 x.src)).setCell ⟨w.heap.size,1,none⟩ (.int .i64 x.dst)).setCell ⟨w.heap.size,2,none⟩ (.int .i64 x.lane)).setCell ⟨w.heap.size,3,none⟩ (.int .u32 x.body)) from by obtain ⟨k0,k1⟩:=HS3.out;exact ⟨O4.out.cell k0 HN.out.2,O4.out.cell k1 HN.out.1⟩);clear z0 z1 z2 z3 zf;refine hK.out _ _ (fun _=>HS4.out) ?_;clear hK K
 try refine Sm ?_
 refine WpL.one (i:=11) zz3 rfl (fun K hK=>?_);go_simp;refine hK.out _ _ (fun h=>absurd rfl h) ?_;clear hK K
 try refine Sm ?_
 refine WpL.done zz3 ?_ _;go_wp2;exact bodyPost_ret (k0C rfl _ _ _ _ rfl (k4O HZ4.out)) rfl ⟨rfl,B4.out⟩
end
end Go.Proofs.YtdopmlopafgonaaGreatDoor.Own
