/- TopOrder: of each flow what came is some of what was injected, in its order (a part of the walks and of the plain laws). -/
import Derived.Test.YtdopmlopafgonaaGreatDoorD0
import Derived.Test.YtdopmlopafgonaaGreatDoorD8
import Derived.Deep.RegionHeld
set_option linter.unusedVariables false
set_option linter.unusedSimpArgs false
set_option maxHeartbeats 4000000
set_option maxRecDepth 100000
namespace Go.Proofs.YtdopmlopafgonaaGreatDoor.Own
open Go.RowKit Go.Proofs.YtdopmlopafgonaaGreatDoorW.PrintWords Go.Proofs.YtdopmlopafgonaaGreatDoorW.PrintLast Go.Proofs.YtdopmlopafgonaaGreatDoorW.PrintMore
section
variable{P:Program}{ops:Array Oper}{Q:Exit->Act->World->Prop}{md:Region.Mode}{S:World->Prop}{last:Nat}
def WpL(P:Program)(md:Region.Mode)(ops:Array Oper)(Q:Exit->Act->World->Prop)(S:World->Prop)(last:Nat):Nat->Array Bool->Act->World->Prop
 |0,listed,a,w=>Region.ready md ops listed=[]/\Q .normal a w
 |fuel+1,listed,a,w=>
  (Region.ready md ops listed=[]->Q .normal a w) /\
  ∀i∈Region.ready md ops listed,wpOp P ops Q i (fun a' w'=>(i≠last->S w')/\WpL P md ops Q S last fuel (listed.setIfInBounds i true) a' w') a w
theorem WpL.any:∀(fuel:Nat)(listed:Array Bool)(a:Act)(w:World),WpL P md ops Q S last fuel listed a w->wpAny P md ops Q fuel listed a w
 |0,_,_,_,h=>h
 |fuel+1,_,_,_,h=>⟨h.1,fun i hi=>wpOp_mono (fun a' w' h'=>WpL.any fuel _ a' w' h'.2) (h.2 i hi)⟩
def k6C(md:Region.Mode)(ops:Array Oper)(j i:Nat):Bool:=match ops[j]? with|some o=>o.after.any (fun e=>Region.binds md e && e.on == i)|none=>false
def k1K(md:Region.Mode)(ops:Array Oper)(i:Nat):Nat->List Nat->Bool
 |j,[]=>k6C md ops j i
 |j,k :: r=>k6C md ops j k && k1K md ops i k r
def Closed(md:Region.Mode)(ops:Array Oper)(listed:Array Bool):Prop:=∀j oj,ops[j]? = some oj->listed.getD j true=true->∀e∈oj.after,Region.binds md e=true->listed.getD e.on false=true
def closedB(md:Region.Mode)(ops:Array Oper)(listed:Array Bool):Bool:=(List.range ops.size).all (fun j=>!(listed.getD j true) || (match ops[j]? with|some o=>o.after.all (fun e=>!(Region.binds md e) || listed.getD e.on false)|none=>true))
theorem Closed.of{listed:Array Bool}(h:closedB md ops listed=true):Closed md ops listed:=by
 intro j oj hj hl e he hb;have hlt:j<ops.size:=(Array.getElem?_eq_some_iff.1 hj).1;have h1:=List.all_eq_true.1 h j (List.mem_range.2 hlt);rw[hl,hj]at h1;simp only[Bool.not_true,Bool.false_or]at h1;have h2:=Array.all_eq_true'.1 h1 e he;rw[hb]at h2;simpa using h2
theorem k2i{listed:Array Bool}{j i:Nat}{oj:Oper}(hj:ops[j]? = some oj)(hall:∀e∈oj.after,Region.binds md e=true->listed.getD e.on false=true)(h:k6C md ops j i=true):listed.getD i false=true:=by
 unfold k6C at h;rw[hj]at h;simp only[Array.any_eq_true',Bool.and_eq_true,beq_iff_eq]at h;obtain⟨e,he,hb,rfl⟩:=h;exact hall e he hb
theorem k3M{listed:Array Bool}(hc:Closed md ops listed){i:Nat}:∀(p:List Nat)(j:Nat)(oj:Oper),ops[j]? = some oj->(∀e∈oj.after,Region.binds md e=true->listed.getD e.on false=true)->k1K md ops i j p=true->listed.getD i false=true
 |[],j,oj,hj,hall,h=>k2i hj hall h
 |k :: r,j,oj,hj,hall,h=>by
  simp only[k1K,Bool.and_eq_true]at h;have hk:=k2i hj hall h.1;have hk':listed.getD k true=true:=by
   rcases Nat.lt_or_ge k listed.size with h'|h'
   ·simpa[h'] using hk
   ·simp[Array.getElem?_eq_none h']
  cases hok:ops[k]? with
  |none=>
   exfalso;cases r with
   |nil=>simp[k1K,k6C,hok]at h
   |cons k' r'=>simp[k1K,k6C,hok]at h
  |some ok=>exact k3M hc r k ok hok (hc k ok hok hk') h.2
theorem Closed.next{listed:Array Bool}(hc:Closed md ops listed){j:Nat}(hj:j∈Region.ready md ops listed):Closed md ops (listed.setIfInBounds j true):=by
 obtain⟨hjun,oj,hoj,hall⟩:=mem_ready.1 hj;intro k ok hk hl e he hb;have mono:∀x,listed.getD x false=true->(listed.setIfInBounds j true).getD x false=true:=fun x hx=>by
  by_cases e:j=x
  ·subst e
   rcases Nat.lt_or_ge j listed.size with h'|h'
   ·simp[h']
   ·simp[Array.getElem?_eq_none h']at hx
  ·rw[getD_set_ne false e];exact hx
 by_cases hjk:j=k
 ·subst hjk
  rw[hoj]at hk;cases hk;exact mono _ (hall e he hb)
 ·rw[getD_set_ne true hjk]at hl
  exact mono _ (hc k ok hk hl e he hb)
theorem WpL.first{i:Nat}{oi:Oper}{v:Value}(hi:ops[i]? = some oi)(hsel:∀(j:Nat)(o:Oper) cs b,ops[j]? = some o->o.op≠.select cs b)
 (hQ:∀c a w,Q (.panic c) (a.put oi.dst v) w->Q (.panic c) a w) (pth:List Nat) (hlast:k1K md ops i last pth=true\/ops.size<=last) :
 ∀(fuel:Nat)(listed:Array Bool)(a:Act)(w:World),Closed md ops listed ->
  (∀j oj,ops[j]? = some oj->j≠i->listed.getD j true=false->(∀e∈oj.after,Region.binds md e=true->e.on≠i)->oi.apart ops oj=true) ->
  i∈Region.ready md ops listed->YieldsIf P ops S oi v a->S w ->
  WpL P md ops Q S last fuel (listed.setIfInBounds i true) (a.put oi.dst v) w->WpL P md ops Q S last (fuel+1) listed a w:=by
 intro fuel
 induction fuel with
 |zero=>
  intro listed a w _ _ hr hy hS H;refine⟨fun h=>(by rw[h]at hr;cases hr),fun j hj=>?_⟩;by_cases hji:j=i
  ·exact zz64
  ·have:=ready_mono hj hji
   rw[H.1]at this
   cases this
 |succ fuel ih=>
  intro listed a w hcl hfree hr hy hS H;refine⟨fun h=>(by rw[h]at hr;cases hr),fun j hj=>?_⟩;by_cases hji:j=i
  ·exact zz64
  ·have h1:=H.2 j (ready_mono hj hji)
   obtain⟨hjun,oj,hoj,hall⟩:=mem_ready.1 hj;have hnot:∀e∈oj.after,Region.binds md e=true->e.on≠i:=fun e he hb heq=>by
    have h1:=hall e he hb;have h0:=(mem_ready.1 hr).1;rw[heq]at h1;rcases Nat.lt_or_ge i listed.size with h'|h'
    ·exact zz80
    ·exact zz81
   have hjl:j≠last:=by
    rintro rfl;have hlast:=hlast.resolve_right (fun h=>by have:=(Array.getElem?_eq_some_iff.1 hoj).1;omega);have h1:=k3M hcl pth j oj hoj hall hlast;have h0:=(mem_ready.1 hr).1;rcases Nat.lt_or_ge i listed.size with h'|h'
    ·exact zz80
    ·exact zz81
   have h2:=wpOp_putIf hoj (hfree j oj hoj hji hjun hnot) (fun cs b=>hsel i oi cs b hi) (fun cs b=>hsel j oj cs b hoj) hQ hy h1;have hfree':∀k ok,ops[k]? = some ok->k≠i->(listed.setIfInBounds j true).getD k true=false ->
    (∀e∈ok.after,Region.binds md e=true->e.on≠i)->oi.apart ops ok=true:=fun k ok hk hki hun hno=>by
    refine hfree k ok hk hki ?_ hno;by_cases hjk:j=k
    ·subst hjk;exact hjun
    ·rw[getD_set_ne true hjk]at hun;exact hun
   refine wpOp_mono (fun a' w' h3=>⟨h3.2.1,ih (listed.setIfInBounds j true) a' w' (hcl.next hj) hfree' (ready_mono hr (Ne.symm hji)) h3.1 (h3.2.1 hjl) ?_⟩) h2;rw[Array.setIfInBounds_comm _ _ hji];exact h3.2.2
theorem WpL.take{i:Nat}{oi:Oper}{v:Value}{fuel:Nat}{listed:Array Bool}{a:Act}{w:World}(hi:ops[i]? = some oi)
 (hs:Region.noSelect ops=true) (hf:Region.free md ops listed i=true) (hr:(Region.ready md ops listed).contains i=true) (pth:List Nat) (hl:k1K md ops i last pth=true) (hc:closedB md ops listed=true)
 (hQ:∀c a w,Q (.panic c) (a.put oi.dst v) w->Q (.panic c) a w) (hy:YieldsIf P ops S oi v a) (hS:S w)
 (h:WpL P md ops Q S last fuel (listed.setIfInBounds i true) (a.put oi.dst v) w):WpL P md ops Q S last (fuel+1) listed a w:=
 WpL.first hi (Region.noSelect_spec hs) hQ pth (.inl hl) fuel listed a w (Closed.of hc) (Region.free_spec hi hf) (by simpa using hr) hy hS h
theorem WpL.takeE{i:Nat}{oi:Oper}{v:Value}{fuel:Nat}{listed:Array Bool}{a:Act}{w:World}(hi:ops[i]? = some oi)
 (hs:Region.noSelect ops=true) (hf:Region.free md ops listed i=true) (hr:(Region.ready md ops listed).contains i=true) (hl:Nat.ble ops.size last=true) (hc:closedB md ops listed=true)
 (hQ:∀c a w,Q (.panic c) (a.put oi.dst v) w->Q (.panic c) a w) (hy:YieldsIf P ops S oi v a) (hS:S w)
 (h:WpL P md ops Q S last fuel (listed.setIfInBounds i true) (a.put oi.dst v) w):WpL P md ops Q S last (fuel+1) listed a w:=
 WpL.first hi (Region.noSelect_spec hs) hQ [] (.inr (Nat.le_of_ble_eq_true hl)) fuel listed a w (Closed.of hc) (Region.free_spec hi hf) (by simpa using hr) hy hS h
theorem WpL.one{i:Nat}{o:Oper}{fuel:Nat}{listed:Array Bool}{a:Act}{w:World}(hr:Region.ready md ops listed=[i])(ho:ops[i]? = some o)
 (h:∀K:Act->World->Prop,Shut (∀a w,(i≠last->S w)->WpL P md ops Q S last fuel (listed.setIfInBounds i true) a w->K a w)->if Region.wanted o (yielded ops a.tmps)=true then Oper.wp P o a w K Q else K (a.put o.dst undef) w) :
 WpL P md ops Q S last (fuel+1) listed a w:=
 ⟨fun h0=>(by rw[hr]at h0;cases h0),fun j hj=>by
  rw[hr]at hj;obtain rfl:j=i:=by simpa using hj
  exact wpOp_step ho (fun K' hK=>h K' (fun a w hS hW=>hK a w ⟨hS,hW⟩))⟩
theorem WpL.done{listed:Array Bool}{a:Act}{w:World}(hr:Region.ready md ops listed=[])(h:Q .normal a w):∀fuel,WpL P md ops Q S last fuel listed a w
 |0=>⟨hr,h⟩
 |_+1=>⟨fun _=>h,by rw[hr];simp⟩
theorem WpL.region{id:Nat}{a:Act}{w:World}(S:World->Prop)(last:Nat)(hm:P.follows .mixedOrders=true)
 (h:WpL P .any ops Q S last ops.size (Array.replicate ops.size false) a w.drew):(Code.region id ops true).wp P Q a w:=
 wp_region_any hm (WpL.any _ _ _ _ h)
end
theorem Sm{p q:Prop}(k:q)(h:q->p:=by intro h;simp only[Act.put,List.setIfInBounds_toArray,List.set_cons_zero,List.set_cons_succ,List.getElem_toArray,List.getElem_cons_succ,List.getElem_cons_zero];exact h):p:=h k
section
variable{P:Program}{md:Region.Mode}{ops:Array Oper}{Q:Exit->Act->World->Prop}{S:World->Prop}{last:Nat}
theorem WpL.E{oi:Oper}{v:Value}{fuel:Nat}{listed:Array Bool}{a:Act}{w:World}{q:Prop}(i:Nat)(hS:S w)(k:q)(hi:ops[i]? = some oi:=by rfl)
 (hs:Region.noSelect ops=true:=by kernel_rfl) (hf:Region.free md ops listed i=true:=by kernel_rfl) (hr:(Region.ready md ops listed).contains i=true:=by kernel_rfl) (hl:Nat.ble ops.size last=true:=by kernel_rfl) (hc:closedB md ops listed=true:=by kernel_rfl)
 (hQ:∀c a w,Q (.panic c) (a.put oi.dst v) w->Q (.panic c) a w:=by exact fun _ _ _ h=>h)
 (hy:YieldsIf P ops S oi v a:=by first|(refine Or.inr ⟨?_,?_⟩;rfl;rfl)|(refine Or.inl ⟨?_,?_⟩;rfl;intro w hSw;(try dsimp only at hSw);go_simp;try with_reducible rfl))
 (h:q->WpL P md ops Q S last fuel (listed.setIfInBounds i true) (a.put oi.dst v) w:=by intro h;try simp only[Act.put,List.setIfInBounds_toArray,List.set_cons_zero,List.set_cons_succ,List.getElem_toArray,List.getElem_cons_succ,List.getElem_cons_zero];exact h):WpL P md ops Q S last (fuel+1) listed a w:=
 WpL.takeE hi hs hf hr hl hc hQ hy hS (h k)
theorem WpL.T{oi:Oper}{v:Value}{fuel:Nat}{listed:Array Bool}{a:Act}{w:World}{q:Prop}(i:Nat)(pth:List Nat)(hS:S w)(k:q)(hi:ops[i]? = some oi:=by rfl)
 (hs:Region.noSelect ops=true:=by kernel_rfl) (hf:Region.free md ops listed i=true:=by kernel_rfl) (hr:(Region.ready md ops listed).contains i=true:=by kernel_rfl) (hl:k1K md ops i last pth=true:=by kernel_rfl) (hc:closedB md ops listed=true:=by kernel_rfl)
 (hQ:∀c a w,Q (.panic c) (a.put oi.dst v) w->Q (.panic c) a w:=by exact fun _ _ _ h=>h)
 (hy:YieldsIf P ops S oi v a:=by first|(refine Or.inr ⟨?_,?_⟩;rfl;rfl)|(refine Or.inl ⟨?_,?_⟩;rfl;intro w hSw;(try dsimp only at hSw);go_simp;try with_reducible rfl))
 (h:q->WpL P md ops Q S last fuel (listed.setIfInBounds i true) (a.put oi.dst v) w:=by intro h;try simp only[Act.put,List.setIfInBounds_toArray,List.set_cons_zero,List.set_cons_succ,List.getElem_toArray,List.getElem_cons_succ,List.getElem_cons_zero];exact h):WpL P md ops Q S last (fuel+1) listed a w:=
 WpL.take hi hs hf hr pth hl hc hQ hy hS (h k)
theorem WpL.rg{id:Nat}{a:Act}{w w0:World}(hS:Sat S w0)(last:Nat)(hm:P.follows .mixedOrders=true)(h:WpL P .any ops Q S last ops.size (Array.replicate ops.size false) a w.drew):(Code.region id ops true).wp P Q a w:=WpL.region S last hm h
end
end Go.Proofs.YtdopmlopafgonaaGreatDoor.Own
