/- TopOrder: of each flow what came is some of what was injected, in its order (a part of the walks and of the plain laws). -/
import Derived.Test.YtdopmlopafgonaaGreatDoorD0
import Derived.Test.YtdopmlopafgonaaGreatDoorD8
import Derived.DeepKeys4
import Derived.MapKept
import Derived.Maps.Keyed
set_option linter.unusedVariables false
set_option linter.unusedSimpArgs false
set_option maxHeartbeats 4000000
set_option maxRecDepth 100000
namespace Go.Proofs.YtdopmlopafgonaaGreatDoor.Own
open Go.ChangeMaps Go.MapKept Go.RowKit Go.Proofs.YtdopmlopafgonaaGreatDoorW.PrintWords Go.Proofs.YtdopmlopafgonaaGreatDoorW.PrintLast Go.Proofs.YtdopmlopafgonaaGreatDoorW.PrintMore
theorem k88{α : Type}{l:List α}{i:Nat}{a : α}(h:l[i]? = some a):l.set i a=l:=by
 apply List.ext_getElem?;intro j;rw[List.getElem?_set];by_cases e:i=j
 ·subst e
  rw[if_pos rfl,if_pos (List.getElem?_eq_some_iff.1 h).1,h]
 ·rw[if_neg e]
theorem k5q{es:Array MapEntry}{j:Nat}{e:MapEntry}(f:MapEntry->MapEntry)(h:es.toList[j]? = some e):(es.modify j f).toList=es.toList.set j (f e):=by
 apply List.ext_getElem?;intro i;rw[Array.getElem?_toList,Array.getElem?_modify,List.getElem?_set];rw[Array.getElem?_toList]at h;have hj:=(Array.getElem?_eq_some_iff.1 h).1;by_cases hij:j=i
 ·subst hij
  rw[if_pos rfl,if_pos rfl,if_pos zz83,h];rfl
 ·rw[if_neg hij,if_neg hij,Array.getElem?_toList]
theorem laidOut:laidOutB Tryz.prog=true:=by kernel_rfl
theorem kbN:(203:TypeId)<Tryz.prog.types.size:=of_decide_eq_true zz2
theorem kdj:(90:TypeId)<Tryz.prog.types.size:=of_decide_eq_true zz2
theorem kdh:WideMaps.KeyLaw Tryz.prog 203:=deep_law_laid laidOut (m:=3) zz1 kbN zz2 (by rw[Tryz.underlying203])
theorem law90:WideMaps.KeyLaw Tryz.prog 90:=deep_law_laid laidOut (m:=3) zz1 kdj zz2 (by rw[Tryz.underlying90])
theorem k83:Tryz.prog.cellsOf 203=3:=by kernel_rfl
theorem k9N:Tryz.prog.cellsOf 90=2:=by kernel_rfl
theorem kbH:Tryz.prog.cellsOf 3=1:=by kernel_rfl
theorem k6W(a:Nat)(h:a<4611686018427387904):(Lit.int .i64 (a:Int)).wf=true:=by
 simp[Lit.wf,IntKind.min,IntKind.max,IntKind.bits,IntKind.signed];exact zz1
theorem k7P{n k:Nat}(h:k<n):∃m,n=m+1:=⟨n-1,zz1⟩
theorem key3(a b c:Nat)(ha:a<4611686018427387904)(hb:b<4611686018427387904)(hc:c<4611686018427387904):∃l,keyOf Tryz.prog 203 (.agg #[.int .i64 a,.int .i64 b,.int .i64 c])=some l:=by
 have k:Tryz.prog.keyType 203=true:=zz2
 obtain⟨m,n⟩:=k7P kbN;unfold keyOf;rw[Tryz.underlying203,k];simp only[Value.formed,Tryz.underlying203,k83];rw[n];simp[Program.keyLits,Tryz.underlying203,Tryz.underlying3,k83,kbH,Value.cells,k6W a ha,k6W b hb,k6W c hc]
theorem key2(a b:Nat)(ha:a<4611686018427387904)(hb:b<4611686018427387904):∃l,keyOf Tryz.prog 90 (.agg #[.int .i64 a,.int .i64 b])=some l:=by
 have k:Tryz.prog.keyType 90=true:=zz2
 obtain⟨m,n⟩:=k7P kdj;unfold keyOf;rw[Tryz.underlying90,k];simp only[Value.formed,Tryz.underlying90,k9N];rw[n];simp[Program.keyLits,Tryz.underlying90,Tryz.underlying3,k9N,kbH,Value.cells,k6W a ha,k6W b hb]
structure kat(α : Type) where
 κ : α -> Value
 good : α -> Prop
 t:TypeId
 k:TypeId
 e:TypeId
 z:Value
 law:WideMaps.KeyLaw Tryz.prog k
 ht:Tryz.prog.underlying t=some (.map k e)
 hz:∀w,(zeroValue e).run Tryz.prog w=.ok z w
 inj:∀{a b},κ a = κ b->a=b
 key:∀a,good a->∃l,keyOf Tryz.prog k (κ a)=some l
section
variable{α : Type}(M:kat α)
def MapAt(w:World)(b:Nat)(m : α -> Option Value):Prop:=
 ∃es clock,w.heap[b]? = some (.map es clock)/\(∀e∈es.toList,e.born<clock)/\es.toList.Pairwise (fun x y=>x.born≠y.born)/\es.toList.Pairwise (fun x y=>x.key≠y.key)/\(∀e∈es.toList,∃a,M.good a/\e.key=M.κ a) /\
  ∀a v,m a=some v ↔ ∃e∈es.toList,e.key=M.κ a/\e.val=v
variable{M}{w w':World}{b:Nat}{m : α -> Option Value}
theorem MapAt.of_blk(h:MapAt M w b m)(hb:w'.heap[b]? = w.heap[b]?):MapAt M w' b m:=by
 obtain⟨es,clock,hh,r⟩:=h;exact⟨es,clock,hb.trans hh,r⟩
theorem MapAt.lt(h:MapAt M w b m):b<w.heap.size:=by
 obtain⟨es,clock,hh,_⟩:=h;exact k03 hh
theorem MapAt.new(M:kat α)(w:World):MapAt M (w.alloc (.map #[] 0)) w.heap.size (fun _=>none):=
 ⟨#[],0,heap_alloc_new w _,zz6,zz6,zz6,zz6,zz6⟩
theorem k0V(w:World)(b:Nat)(o:Obj):Only (fun x=>x=b) w (setBlock w b o):=
 ⟨rfl,rfl,rfl,by simp[setBlock],fun x _ hx=>by simp[setBlock,Array.getElem?_setIfInBounds_ne (Ne.symm hx)]⟩
theorem k0H{w:World}{b:Nat}{q:Obj}(h:w.heap[b]? = some q)(o:Obj):(setBlock w b o).heap[b]? = some o:=by
 simp[setBlock,k03 h]
theorem k3g{es:Array MapEntry}(h:∀e∈es.toList,∃a,M.good a/\e.key=M.κ a):∀e∈es.toList,∃l,keyOf Tryz.prog M.k e.key=some l:=fun e he=>by
 obtain⟨a,ha,hk⟩:=h e he;rw[hk];exact M.key a ha
theorem MapAt.look(h:MapAt M w b m)(a : α)(ha:M.good a):(Instr.lookup M.t (.map (some b)) (M.κ a) false).run Tryz.prog w=.ok ((m a).getD M.z) w:=by
 obtain⟨es,clock,hb,h1,h2,h3,h4,h5⟩:=h;obtain⟨l,hl⟩:=M.key a ha;rcases M.law.find w hl es.toList (k3g h4) with⟨f1,f2⟩|⟨j,e,f1,f2,f3⟩
 ·have hm:m a=none:=by
   cases hm:m a with
   |none=>rfl
   |some v=>obtain⟨e,he,hk,_⟩:=(h5 a v).1 hm;exact absurd hk (f2 e he)
  rw[hm];simp[Instr.lookup,run_underlying M.ht,MapKept.run_getObj_map hb,M.law.check w _ hl,f1,M.hz,Result.andThen]
 ·have hm:m a=some e.val:=(h5 a e.val).2 ⟨e,List.mem_of_getElem? f2,f3,rfl⟩
  rw[hm];simp[Instr.lookup,run_underlying M.ht,MapKept.run_getObj_map hb,M.law.check w _ hl,f1,Result.andThen]
theorem k64{l:List MapEntry}(h:l.Pairwise (fun x y=>x.born≠y.born)){x y:MapEntry}(hx:x∈l)(hy:y∈l)(he:x.born=y.born):x=y:=by
 induction l with
 |nil=>cases hx
 |cons a l ih=>
  rw[List.pairwise_cons]at h;rcases List.mem_cons.1 hx with rfl|hx'
  ·rcases List.mem_cons.1 hy with rfl|hy'
   ·rfl
   ·exact absurd he (h.1 _ hy')
  ·rcases List.mem_cons.1 hy with rfl|hy'
   ·exact absurd he.symm (h.1 _ hx')
   ·exact ih h.2 hx' hy'
theorem k3R{l:List MapEntry}(h:l.Pairwise (fun x y=>x.key≠y.key)){x y:MapEntry}(hx:x∈l)(hy:y∈l)(he:x.key=y.key):x=y:=by
 induction l with
 |nil=>cases hx
 |cons a l ih=>
  rw[List.pairwise_cons]at h;rcases List.mem_cons.1 hx with rfl|hx'
  ·rcases List.mem_cons.1 hy with rfl|hy'
   ·rfl
   ·exact absurd he (h.1 _ hy')
  ·rcases List.mem_cons.1 hy with rfl|hy'
   ·exact absurd he.symm (h.1 _ hx')
   ·exact ih h.2 hx' hy'
theorem k2v{es:Array MapEntry}{clock j:Nat}{e:MapEntry}{a : α}[DecidableEq α](v:Value)(hj:es.toList[j]? = some e)(hk:e.key=M.κ a)(h1:∀e∈es.toList,e.born<clock)(h2:es.toList.Pairwise (fun x y=>x.born≠y.born))(h3:es.toList.Pairwise (fun x y=>x.key≠y.key))(h4:∀e∈es.toList,∃a,M.good a/\e.key=M.κ a)
 (h5:∀a v,m a=some v ↔ ∃e∈es.toList,e.key=M.κ a/\e.val=v) (f:MapEntry->MapEntry) (hf:f e = { e with val:=v }) :
 (∀e∈(es.modify j f).toList,e.born<clock)/\(es.modify j f).toList.Pairwise (fun x y=>x.born≠y.born)/\(es.modify j f).toList.Pairwise (fun x y=>x.key≠y.key)/\(∀e∈(es.modify j f).toList,∃a,M.good a/\e.key=M.κ a) /\
   ∀c u,(fun x=>if x=a then some v else m x) c=some u ↔ ∃e∈(es.modify j f).toList,e.key=M.κ c/\e.val=u:=by
 have hm:e∈es.toList:=List.mem_of_getElem? hj;have e1:(es.modify j f).toList=es.toList.set j { e with val:=v }:=by
  rw[k5q f hj,hf]
 have mem:∀x,x∈es.toList.set j { e with val:=v }->x = { e with val:=v }\/(x∈es.toList):=fun x hx=>(List.mem_or_eq_of_mem_set hx).symm
 have hjl:=(List.getElem?_eq_some_iff.1 hj).1;have memt:∀x,x∈es.toList.set j { e with val:=v } ↔ x = { e with val:=v }\/(x∈es.toList/\x.key≠e.key):=by
  intro x;constructor
  ·intro hx
   obtain⟨i,hi,rfl⟩:=List.mem_iff_getElem.1 hx;rw[List.length_set]at hi;rw[List.getElem_set];by_cases hij:j=i
   ·rw[if_pos hij];exact .inl rfl
   ·rw[if_neg hij]
    refine .inr ⟨List.getElem_mem hi,fun hke=>hij ?_⟩;have:=k3R h3 (List.getElem_mem hi) hm hke;have hn:es.toList.Nodup:=h3.imp (fun h e=>h (by rw[e]));have q:es.toList[i]=es.toList[j]:=by rw[this];exact(List.getElem?_eq_some_iff.1 hj).2.symm
    exact((List.getElem_inj hn).1 q).symm
  ·rintro(rfl|⟨hx,hne⟩)
   ·exact List.mem_set hjl _
   ·obtain⟨i,hi,rfl⟩:=List.mem_iff_getElem.1 hx
    have hij:j≠i:=fun h=>by
     subst h;exact hne (by rw[(List.getElem?_eq_some_iff.1 hj).2])
    rw[List.mem_iff_getElem];exact⟨i,by rw[List.length_set];exact hi,by rw[List.getElem_set,if_neg hij]⟩
 rw[e1];refine⟨fun x hx=>?_,?_,?_,fun x hx=>?_,fun c u=>?_⟩
 ·rcases mem x hx with rfl|h
  ·exact h1 e hm
  ·exact h1 x h
 ·have:(es.toList.set j { e with val:=v }).map (·.born)=es.toList.map (·.born):=by
   rw[List.map_set];exact k88 (by rw[List.getElem?_map,hj];rfl)
  rw[<- List.pairwise_map (f:=fun x:MapEntry=>x.born) (R:=fun a b=>a≠b),this,List.pairwise_map];exact h2
 ·have:(es.toList.set j { e with val:=v }).map (·.key)=es.toList.map (·.key):=by
   rw[List.map_set];exact k88 (by rw[List.getElem?_map,hj];rfl)
  rw[<- List.pairwise_map (f:=fun x:MapEntry=>x.key) (R:=fun a b=>a≠b),this,List.pairwise_map];exact h3
 ·rcases mem x hx with rfl|h
  ·exact h4 e hm
  ·exact h4 x h
 ·by_cases hc:c=a
  ·subst hc
   simp only[if_true];constructor
   ·intro h;cases h
    exact⟨_,(memt _).2 (.inl rfl),hk,rfl⟩
   ·rintro⟨x,hx,hxk,hxv⟩
    rcases(memt x).1 hx with rfl|⟨_,hne⟩
    ·rw[<- hxv]
    ·exact absurd (hxk.trans hk.symm) hne
  ·simp only[hc,if_false]
   rw[h5];constructor
   ·rintro⟨x,hx,hxk,hxv⟩
    exact⟨x,(memt x).2 (.inr ⟨hx,fun h=>hc (M.inj (hxk.symm.trans (h.trans hk)))⟩),hxk,hxv⟩
   ·rintro⟨x,hx,hxk,hxv⟩
    rcases(memt x).1 hx with rfl|⟨h,_⟩
    ·exact absurd (M.inj (hxk.symm.trans hk)) hc
    ·exact⟨x,h,hxk,hxv⟩
theorem k6B{es:Array MapEntry}{clock:Nat}{a : α}[DecidableEq α](v:Value)(ha:M.good a)(hno:∀e∈es.toList,e.key≠M.κ a)(h1:∀e∈es.toList,e.born<clock)(h2:es.toList.Pairwise (fun x y=>x.born≠y.born))(h3:es.toList.Pairwise (fun x y=>x.key≠y.key))(h4:∀e∈es.toList,∃a,M.good a/\e.key=M.κ a)
 (h5:∀a v,m a=some v ↔ ∃e∈es.toList,e.key=M.κ a/\e.val=v) :
 (∀e∈(es.push ⟨M.κ a,v,clock⟩).toList,e.born<clock+1)/\(es.push ⟨M.κ a,v,clock⟩).toList.Pairwise (fun x y=>x.born≠y.born)/\(es.push ⟨M.κ a,v,clock⟩).toList.Pairwise (fun x y=>x.key≠y.key)/\(∀e∈(es.push ⟨M.κ a,v,clock⟩).toList,∃a,M.good a/\e.key=M.κ a) /\
   ∀c u,(fun x=>if x=a then some v else m x) c=some u ↔ ∃e∈(es.push ⟨M.κ a,v,clock⟩).toList,e.key=M.κ c/\e.val=u:=by
 rw[Array.toList_push];have mem:∀x,x∈es.toList++[⟨M.κ a,v,clock⟩] ↔ x∈es.toList\/x=⟨M.κ a,v,clock⟩:=fun x=>by simp
 refine⟨fun x hx=>?_,?_,?_,fun x hx=>?_,fun c u=>?_⟩
 ·rcases(mem x).1 hx with h|rfl
  ·exact Nat.lt_succ_of_lt (h1 x h)
  ·exact Nat.lt_succ_self _
 ·rw[List.pairwise_append]
  exact⟨h2,zz6,fun x hx y hy=>by simp at hy;subst hy;exact Nat.ne_of_lt (h1 x hx)⟩
 ·rw[List.pairwise_append]
  exact⟨h3,zz6,fun x hx y hy=>by simp at hy;subst hy;exact hno x hx⟩
 ·rcases(mem x).1 hx with h|rfl
  ·exact h4 x h
  ·exact⟨a,ha,rfl⟩
 ·by_cases hc:c=a
  ·subst hc
   simp only[if_true];constructor
   ·intro h;cases h
    exact⟨_,(mem _).2 (.inr rfl),rfl,rfl⟩
   ·rintro⟨x,hx,hxk,hxv⟩
    rcases(mem x).1 hx with h|rfl
    ·exact absurd hxk (hno x h)
    ·rw[<- hxv]
  ·simp only[hc,if_false]
   rw[h5];constructor
   ·rintro⟨x,hx,hxk,hxv⟩
    exact⟨x,(mem x).2 (.inl hx),hxk,hxv⟩
   ·rintro⟨x,hx,hxk,hxv⟩
    rcases(mem x).1 hx with h|rfl
    ·exact⟨x,h,hxk,hxv⟩
    ·exact absurd (M.inj hxk.symm) hc
theorem MapAt.store[DecidableEq α](h:MapAt M w b m)(a : α)(ha:M.good a)(v:Value):∃w',(Instr.mapUpdate M.t (.map (some b)) (M.κ a) v).run Tryz.prog w=.ok () w'/\MapAt M w' b (fun x=>if x=a then some v else m x)/\Only (fun x=>x=b) w w':=by
 obtain⟨es,clock,hb,h1,h2,h3,h4,h5⟩:=h;obtain⟨l,hl⟩:=M.key a ha;rcases M.law.find w hl es.toList (k3g h4) with⟨f1,f2⟩|⟨j,e,f1,f2,f3⟩
 ·refine⟨setBlock w b (.map (es.push ⟨M.κ a,v,clock⟩) (clock+1)),?_,⟨_,_,k0H hb _,k6B v ha f2 h1 h2 h3 h4 h5⟩,k0V _ _ _⟩
  simp[Instr.mapUpdate,run_underlying M.ht,MapKept.run_getObj_map hb,M.law.check w _ hl,f1,MapKept.run_setObj_map _ hb,Result.andThen,setBlock]
 ·refine⟨setBlock w b (.map (es.modify j fun x=>{ x with key:=M.κ a,val:=v }) clock),?_,⟨_,_,k0H hb _,k2v v f2 f3 h1 h2 h3 h4 h5 _ (by simp[<- f3])⟩,k0V _ _ _⟩
  have g2:es[j]? = some e:=by rw[<- Array.getElem?_toList];exact f2
  simp[Instr.mapUpdate,run_underlying M.ht,MapKept.run_getObj_map hb,M.law.check w _ hl,f1,g2,f3,M.law.stays w hl,MapKept.run_setObj_map _ hb,Result.andThen,setBlock]
theorem MapAt.drop[DecidableEq α](h:MapAt M w b m)(a : α)(ha:M.good a)(ty:TypeId):∃w',(Builtin.delete_ #[M.t,M.k] ty #[.map (some b),M.κ a]).run Tryz.prog w=.ok (.tuple #[]) w'/\MapAt M w' b (fun x=>if x=a then none else m x)/\Only (fun x=>x=b) w w':=by
 obtain⟨es,clock,hb,h1,h2,h3,h4,h5⟩:=h;obtain⟨l,hl⟩:=M.key a ha;rcases M.law.find w hl es.toList (k3g h4) with⟨f1,f2⟩|⟨j,e,f1,f2,f3⟩
 ·refine⟨setBlock w b (.map es clock),?_,⟨es,clock,k0H hb _,h1,h2,h3,h4,fun c u=>?_⟩,k0V _ _ _⟩
  ·exact zz62
  ·by_cases hc:c=a
   ·subst hc
    simp only[if_true];exact⟨fun h=>zz52,fun⟨x,hx,hk,_⟩=>absurd hk (f2 x hx)⟩
   ·simp only[hc,if_false];exact h5 c u
 ·have hjl:j<es.toList.length:=(List.getElem?_eq_some_iff.1 f2).1
  have hjs:j<es.size:=by simpa using hjl
  have hsub:(es.eraseIdxIfInBounds j).toList=es.toList.eraseIdx j:=by
   rw[Array.eraseIdxIfInBounds,dif_pos hjs,Array.toList_eraseIdx]
  have sub:=List.eraseIdx_sublist es.toList j;have hn:es.toList.Nodup:=h3.imp (fun h e=>h (by rw[e]));have mem:∀x,x∈es.toList.eraseIdx j ↔ x∈es.toList/\x≠e:=by
   intro x;constructor
   ·intro hx
    refine⟨sub.subset hx,fun hxe=>?_⟩;subst hxe;obtain⟨i,hi,hie⟩:=List.mem_iff_getElem.1 hx;rw[List.getElem_eraseIdx]at hie;have hj':=(List.getElem?_eq_some_iff.1 f2).2;split at hie
    ·have:=(List.getElem_inj hn).1 (hie.trans hj'.symm);omega
    ·have:=(List.getElem_inj hn).1 (hie.trans hj'.symm);omega
   ·rintro⟨hx,hne⟩
    obtain⟨i,hi,rfl⟩:=List.mem_iff_getElem.1 hx;have hij:i≠j:=fun h=>by
     subst h;exact hne ((List.getElem?_eq_some_iff.1 f2).2)
    rw[List.mem_iff_getElem];by_cases hlt:i<j
    ·exact⟨i,by rw[List.length_eraseIdx,if_pos hjl];omega,by rw[List.getElem_eraseIdx,dif_pos hlt]⟩
    ·refine⟨i-1,by rw[List.length_eraseIdx,if_pos hjl];omega,?_⟩
     rw[List.getElem_eraseIdx,dif_neg zz1];have e1:i-1+1=i:=by omega
     simp only[e1]
  refine⟨setBlock w b (.map (es.eraseIdxIfInBounds j) clock),?_,⟨_,clock,k0H hb _,?_⟩,k0V _ _ _⟩
  ·exact zz62
  ·rw[hsub]
   refine⟨fun x hx=>h1 x (sub.subset hx),h2.sublist sub,h3.sublist sub,fun x hx=>h4 x (sub.subset hx),fun c u=>?_⟩;by_cases hc:c=a
   ·subst hc
    simp only[if_true];exact⟨fun h=>zz52,fun⟨x,hx,hk,_⟩=>absurd (k3R h3 ((mem x).1 hx).1 (List.mem_of_getElem? f2) (hk.trans f3.symm)) ((mem x).1 hx).2⟩
   ·simp only[hc,if_false]
    rw[h5];exact⟨fun⟨x,hx,hk,hv⟩=>⟨x,(mem x).2 ⟨hx,fun h=>hc (M.inj (hk.symm.trans (h▸f3)))⟩,hk,hv⟩,fun⟨x,hx,hk,hv⟩=>⟨x,((mem x).1 hx).1,hk,hv⟩⟩
def EntryAt(M:kat α)(w:World)(b:Nat)(a : α)(st:Nat):Prop:=∃es clock,w.heap[b]? = some (.map es clock)/\∃e∈es.toList,e.born=st/\e.key=M.κ a
theorem EntryAt.of_blk{a : α}{st:Nat}(h:EntryAt M w b a st)(hb:w'.heap[b]? = w.heap[b]?):EntryAt M w' b a st:=by
 obtain⟨es,clock,hh,r⟩:=h;exact⟨es,clock,hb.trans hh,r⟩
theorem MapAt.entry[DecidableEq α](h:MapAt M w b m)(a : α)(ha:M.good a):∃w' st,(Instr.mapEntry M.t (.map (some b)) (M.κ a)).run Tryz.prog w=.ok (.tuple #[(m a).getD M.z,.int .i64 (st:Nat)]) w'/\MapAt M w' b (fun x=>if x=a then some ((m a).getD M.z) else m x)/\EntryAt M w' b a st/\Only (fun x=>x=b) w w':=by
 obtain⟨es,clock,hb,h1,h2,h3,h4,h5⟩:=h;obtain⟨l,hl⟩:=M.key a ha;rcases M.law.find w hl es.toList (k3g h4) with⟨f1,f2⟩|⟨j,e,f1,f2,f3⟩
 ·have hm:m a=none:=by
   cases hm:m a with
   |none=>rfl
   |some v=>obtain⟨e,he,hk,_⟩:=(h5 a v).1 hm;exact absurd hk (f2 e he)
  rw[hm];refine⟨setBlock w b (.map (es.push ⟨M.κ a,M.z,clock⟩) (clock+1)),clock,?_,⟨_,_,k0H hb _,k6B M.z ha f2 h1 h2 h3 h4 h5⟩,⟨_,_,k0H hb _,⟨M.κ a,M.z,clock⟩,zz6,rfl,rfl⟩,k0V _ _ _⟩;simp[Instr.mapEntry,run_underlying M.ht,MapKept.run_getObj_map hb,M.law.check w _ hl,f1,M.hz,MapKept.run_setObj_map _ hb,Result.andThen,setBlock,goInt]
 ·have hm:m a=some e.val:=(h5 a e.val).2 ⟨e,List.mem_of_getElem? f2,f3,rfl⟩
  have g2:es[j]? = some e:=by rw[<- Array.getElem?_toList];exact f2
  rw[hm];have ET:=k2v (M:=M) (m:=m) e.val f2 f3 h1 h2 h3 h4 h5 (fun x=>{ x with key:=M.κ a }) (by simp[<- f3]);refine⟨setBlock w b (.map (es.modify j fun x=>{ x with key:=M.κ a }) clock),e.born,?_,⟨_,_,k0H hb _,ET⟩,⟨_,_,k0H hb _,e,?_,rfl,f3⟩,k0V _ _ _⟩
  ·simp[Instr.mapEntry,run_underlying M.ht,MapKept.run_getObj_map hb,M.law.check w _ hl,f1,g2,f3,M.law.stays w hl,MapKept.run_setObj_map _ hb,Result.andThen,setBlock,goInt]
  ·rw[k5q _ f2]
   have:=List.mem_set (List.getElem?_eq_some_iff.1 f2).1 { e with key:=M.κ a };simpa[<- f3] using this
theorem MapAt.entryStore[DecidableEq α](h:MapAt M w b m)(a : α)(st:Nat)(he:EntryAt M w b a st)(v:Value)(t:TypeId):∃w',(Instr.entryStore t (.map (some b)) (.int .i64 (st:Nat)) v).run Tryz.prog w=.ok () w'/\MapAt M w' b (fun x=>if x=a then some v else m x)/\Only (fun x=>x=b) w w':=by
 obtain⟨es,clock,hb,h1,h2,h3,h4,h5⟩:=h;obtain⟨es',clock',hb',e,hm,rfl,hk⟩:=he;rw[hb]at hb';cases hb';obtain⟨j,hj,hje⟩:=List.mem_iff_getElem.1 hm;have hjs:j<es.size:=by simpa using hj
 have fi:es.findIdx? (fun x=>(x.born:Int) == (e.born:Int))=some j:=by
  rw[Array.findIdx?_eq_some_iff_getElem];refine⟨hjs,?_,fun i hi=>?_⟩
  ·have:es[j]=e:=by rw[<- hje];simp
   simp[this]
  ·simp only[Bool.not_eq_true,beq_eq_false_iff_ne]
   intro hb2;have hb3:es[i].born=e.born:=by omega
   have hi':i<es.toList.length:=zz20
   have hn:es.toList.Nodup:=h3.imp (fun h e=>h (by rw[e]));have:=k64 h2 (x:=es.toList[i]) (y:=es.toList[j]) (List.getElem_mem _) (List.getElem_mem _) (by rw[hje];simpa using hb3);have:=(List.getElem_inj hn).1 this;exact zz1
 have f2:es.toList[j]? = some e:=by rw[List.getElem?_eq_getElem hj,hje]
 refine⟨setBlock w b (.map (es.modify j fun x=>{ x with val:=v }) clock),?_,⟨_,_,k0H hb _,k2v v f2 hk h1 h2 h3 h4 h5 _ rfl⟩,k0V _ _ _⟩;simp[Instr.entryStore,MapKept.run_getObj_map hb,asInt,asIntOf,fi,MapKept.run_setObj_map _ hb,Result.andThen,setBlock]
section
variable{ops:Array Oper}{rest:List Oper}{o:Oper}{a:Act}{Q:Exit->Act->World->Prop}{K:Act->World->Prop}[DecidableEq α]
theorem k90(hw:Region.wanted o (yielded ops a.tmps)=true)(x y:Operand)(i : α)(ho:o.op=.mapEntry M.t x y)(h:MapAt M w b m)(hx:a.eval x=.map (some b))(hy:a.eval y=M.κ i)(hi:M.good i)(v0:Value)(hv0:(m i).getD M.z=v0)
 (hK:∀w' st,MapAt M w' b (fun x=>if x=i then some v0 else m x)->EntryAt M w' b i st->Only (fun x=>x=b) w w'->K (a.put o.dst (.tuple #[v0,.int .i64 (st:Nat)])) w') :
 if Region.wanted o (yielded ops a.tmps)=true then Oper.wp Tryz.prog o a w K Q else K (a.put o.dst undef) w:=by
 rw[if_pos hw];subst hv0;obtain⟨w',st,hrun,r1,r2,r3⟩:=h.entry i hi;unfold Oper.wp;simp[execOp,ho,hx,hy,hrun,Result.andThen];exact hK w' st r1 r2 r3
theorem k4M(hw:Region.wanted o (yielded ops a.tmps)=true)(t:TypeId)(x s y:Operand)(i : α)(st:Nat)(v:Value)(ho:o.op=.entryStore t x s y)(h:MapAt M w b m)(he:EntryAt M w b i st)(hx:a.eval x=.map (some b))(hs:a.eval s=.int .i64 (st:Nat))(hy:a.eval y=v)
 (hK:∀w',MapAt M w' b (fun x=>if x=i then some v else m x)->Only (fun x=>x=b) w w'->K (a.put o.dst undef) w') :
 if Region.wanted o (yielded ops a.tmps)=true then Oper.wp Tryz.prog o a w K Q else K (a.put o.dst undef) w:=by
 rw[if_pos hw];obtain⟨w',hrun,r1,r3⟩:=h.entryStore i st he v t;unfold Oper.wp;simp[execOp,ho,hx,hs,hy,hrun,Result.andThen];exact hK w' r1 r3
theorem k2P(hw:Region.wanted o (yielded ops a.tmps)=true)(x y z:Operand)(i : α)(v:Value)(ho:o.op=.mapUpdate M.t x y z)(h:MapAt M w b m)(hx:a.eval x=.map (some b))(hy:a.eval y=M.κ i)(hz:a.eval z=v)(hi:M.good i)
 (hK:∀w',MapAt M w' b (fun x=>if x=i then some v else m x)->Only (fun x=>x=b) w w'->K (a.put o.dst undef) w') :
 if Region.wanted o (yielded ops a.tmps)=true then Oper.wp Tryz.prog o a w K Q else K (a.put o.dst undef) w:=by
 rw[if_pos hw];obtain⟨w',hrun,r1,r3⟩:=h.store i hi v;unfold Oper.wp;simp[execOp,ho,hx,hy,hz,hrun,Result.andThen];exact hK w' r1 r3
theorem k7e(hw:Region.wanted o (yielded ops a.tmps)=true)(x y:Operand)(i : α)(ho:o.op=.call { callee:=.builtin .delete,args:=#[x,y],argTypes:=#[M.t,M.k] })(h:MapAt M w b m)(hx:a.eval x=.map (some b))(hy:a.eval y=M.κ i)(hi:M.good i)
 (hK:∀w',MapAt M w' b (fun x=>if x=i then none else m x)->Only (fun x=>x=b) w w'->K (a.put o.dst (.tuple #[])) w') :
 if Region.wanted o (yielded ops a.tmps)=true then Oper.wp Tryz.prog o a w K Q else K (a.put o.dst undef) w:=by
 rw[if_pos hw];obtain⟨w',hrun,r1,r3⟩:=h.drop i hi o.type;unfold Oper.wp;simp[execOp,ho,resolve,invoke,builtin,hx,hy,hrun,Result.andThen];exact hK w' r1 r3
end
end
end Go.Proofs.YtdopmlopafgonaaGreatDoor.Own
