/- TopOrder: of each flow what came is some of what was injected, in its order (a part of the walks and of the plain laws). -/
import Derived.Test.YtdopmlopafgonaaGreatDoorD0
import Derived.Test.YtdopmlopafgonaaGreatDoorD27
import Derived.Test.YtdopmlopafgonaaGreatDoorD43
import Derived.Test.YtdopmlopafgonaaGreatDoorD44
set_option linter.unusedVariables false
set_option linter.unusedSimpArgs false
set_option maxHeartbeats 4000000
set_option maxRecDepth 100000
namespace Go.Proofs.YtdopmlopafgonaaGreatDoor.Own
open Go.RowKit Go.Proofs.YtdopmlopafgonaaGreatDoorW.PrintWords Go.Proofs.YtdopmlopafgonaaGreatDoorW.PrintLast Go.Proofs.YtdopmlopafgonaaGreatDoorW.PrintMore Go.Proofs.YtdopmlopafgonaaGreatDoor.PTopQuick
def ints(l:List Nat):List Int:=l.map fun(n:Nat)=>(n:Int)
def k2u(l:List S131):List (Int×Int):=l.map fun e=>(e.f0,e.f1)
def layB(t:List Nat):Bool:=
 match rLay.f 100 0 [] 0 0 0 0 0 0 [] 0 [] (ints t) with
 |some (a,b,c1,c2,c3,c4,c5,c6,ws,st,rows,z)=>decide (a=((t.length+1:Nat):Int)) && (k2u b == (k0X t).map fun p=>((p.1:Int),(p.2:Int))) && decide (c1=0) && decide (c2=0) && decide (c3=0) && decide (c4=0) && decide (c5=0) && decide (c6=0) && (ws == []) && decide (st=0) && (rows == (k17 t).map ints) && decide (z=0)
 |none=>false
theorem lay1:(k3K 1).all layB=true:=by decide +kernel
theorem lay2:(k3K 2).all layB=true:=by decide +kernel
theorem lay3:(k3K 3).all layB=true:=by decide +kernel
theorem lay4:(k3K 4).all layB=true:=by decide +kernel
theorem lay5:(k3K 5).all layB=true:=by decide +kernel
theorem k6z:∀k,(∀x1 x6 x9 p0 E N a b c1 c2 c3 c4 c5 c6 w0 s0 c d,rLay.l1 k x1 x6 x9 p0 E 0 0 0 0 0 0 ([]:List Int) 0 N=some (a,b,c1,c2,c3,c4,c5,c6,w0,s0,c,d)->∀p2 p3 p4 p5 p6 p7 ws st,rLay.l1 k x1 x6 x9 p0 E p2 p3 p4 p5 p6 p7 ws st N=some (a,b,p2,p3,p4,p5,p6,p7,ws,st,c,d)) /\
 (∀x1 x6 x9 x10 x11 p0 E N a b c1 c2 c3 c4 c5 c6 w0 s0 c d,rLay.l2 k x1 x6 x9 x10 x11 p0 E 0 0 0 0 0 0 ([]:List Int) 0 N=some (a,b,c1,c2,c3,c4,c5,c6,w0,s0,c,d)->∀p2 p3 p4 p5 p6 p7 ws st,rLay.l2 k x1 x6 x9 x10 x11 p0 E p2 p3 p4 p5 p6 p7 ws st N=some (a,b,p2,p3,p4,p5,p6,p7,ws,st,c,d))
 |0=>⟨fun _ _ _ _ _ _ _ _ _ _ _ _ _ _ _ _ _ _ h=>by simp[rLay.l1]at h,fun _ _ _ _ _ _ _ _ _ _ _ _ _ _ _ _ _ _ _ _ h=>by simp[rLay.l2]at h⟩
 |k+1=>by
  obtain⟨i1,i2⟩:=k6z k;refine⟨fun x1 x6 x9 p0 E N a b c1 c2 c3 c4 c5 c6 w0 s0 c d h p2 p3 p4 p5 p6 p7 ws st=>?_,fun x1 x6 x9 x10 x11 p0 E N a b c1 c2 c3 c4 c5 c6 w0 s0 c d h p2 p3 p4 p5 p6 p7 ws st=>?_⟩
  ·unfold rLay.l1 at h ⊢
   by_cases e:x9<x6
   ·rw[if_pos e]at h ⊢;exact i2 _ _ _ _ _ _ _ _ _ _ _ _ _ _ _ _ _ _ _ _ h _ _ _ _ _ _ _ _
   ·rw[if_neg e]at h ⊢
    simp only[Option.some.injEq,Prod.mk.injEq]at h;obtain⟨rfl,rfl,_,_,_,_,_,_,_,_,rfl,rfl⟩:=h;rfl
  ·unfold rLay.l2 at h ⊢
   by_cases e:x11<x6
   ·rw[if_pos e]at h ⊢
    by_cases e2:x9=x11
    ·rw[if_pos e2]at h ⊢
     by_cases e3:x10.length<17592186044416
     ·rw[if_pos e3]at h ⊢;exact i2 _ _ _ _ _ _ _ _ _ _ _ _ _ _ _ _ _ _ _ _ h _ _ _ _ _ _ _ _
     ·exact zz109
    ·rw[if_neg e2]at h ⊢
     obtain⟨t,ht,h⟩:=Option.bind_eq_some_iff.mp h;rw[ht,Option.bind_some];by_cases e3:1<(t.length:Int)
     ·rw[if_pos e3]at h ⊢
      by_cases e4:x10.length<17592186044416
      ·rw[if_pos e4]at h ⊢;exact i2 _ _ _ _ _ _ _ _ _ _ _ _ _ _ _ _ _ _ _ _ h _ _ _ _ _ _ _ _
      ·rw[if_neg e4]at h;cases h
     ·exact zz109
   ·rw[if_neg e]at h ⊢
    by_cases e3:N.length<5864062014805
    ·rw[if_pos e3]at h ⊢;exact i1 _ _ _ _ _ _ _ _ _ _ _ _ _ _ _ _ _ _ h _ _ _ _ _ _ _ _
    ·exact zz109
theorem k5i:∀k x1 x6 x7 p0 E N a b c1 c2 c3 c4 c5 c6 w0 s0 c d,rLay.l0 k x1 x6 x7 p0 E 0 0 0 0 0 0 ([]:List Int) 0 N=some (a,b,c1,c2,c3,c4,c5,c6,w0,s0,c,d)->∀p2 p3 p4 p5 p6 p7 (ws:List Int) st N',ws.length<100->rLay.l0 k x1 x6 x7 p0 E p2 p3 p4 p5 p6 p7 ws st N'=some (a,b,p2,p3,p4,p5,p6,p7,ws,st,c,d)
 |0,_,_,_,_,_,_,_,_,_,_,_,_,_,_,_,_,_,_,h=>by simp[rLay.l0]at h
 |k+1,x1,x6,x7,p0,E,N,a,b,c1,c2,c3,c4,c5,c6,w0,s0,c,d,h=>fun p2 p3 p4 p5 p6 p7 ws st N' hw=>by
  unfold rLay.l0 at h ⊢;by_cases e:x7<x6
  ·rw[if_pos e]at h ⊢
   by_cases e2:0<=(wrap64 (x7-1))
   ·rw[if_pos e2]at h ⊢
    by_cases e3:(wrap64 (x7-1))<(x1.length:Int)
    ·rw[if_pos e3]at h ⊢
     by_cases e4:E.length<8796093022208
     ·rw[if_pos e4]at h ⊢;exact k5i k _ _ _ _ _ _ _ _ _ _ _ _ _ _ _ _ _ _ h _ _ _ _ _ _ _ _ _ hw
     ·rw[if_neg e4]at h;cases h
    ·exact zz109
   ·rw[if_neg e2]at h;cases h
  ·rw[if_neg e]at h ⊢
   by_cases e2:([]:List Int).length+([]:List Int).length<17592186044416
   ·rw[if_pos e2]at h
    rw[if_pos zz20];have h2:=(k6z k).1 _ _ _ _ _ _ _ _ _ _ _ _ _ _ _ _ _ _ h p2 p3 p4 p5 p6 p7 ws st;simpa using h2
   ·exact absurd zz7 e2
theorem k8V(k:Nat)(x1:List Int)(q:Bool)(a b c1 c2 c3 c4 c5 c6 w0 s0 c)(h:rLay.j0 (k+1) x1 q 0 [] 0 0 0 0 0 0 [] 0 []=some (a,b,c1,c2,c3,c4,c5,c6,w0,s0,c,0))(a0:Int)(l01:List S131)(p2 p3 p4 p5 p6 p7:Int)(ws:List Int)(st:Int)(l10:List (List Int))(hw:ws.length<100):rLay.j0 (k+1) x1 q a0 l01 p2 p3 p4 p5 p6 p7 ws st l10=some (a,b,p2,p3,p4,p5,p6,p7,ws,st,c,0):=by
 unfold rLay.j0 at h ⊢;dsimp only at h ⊢;by_cases e:q=true
 ·rw[if_pos e]at h
  simp only[Option.some.injEq,Prod.mk.injEq]at h;exact zz1
 ·rw[if_neg e]at h ⊢
  exact k5i _ _ _ _ _ _ _ _ _ _ _ _ _ _ _ _ _ _ _ h _ _ _ _ _ _ _ _ _ hw
theorem k9v(t:List Nat)(h0:0<t.length)(h1:t.length<=5)(hb:∀i (h:i<t.length),t[i]<=i):layB t=true:=by
 have hm:=k4i t.length t rfl hb;have:t.length=1\/t.length=2\/t.length=3\/t.length=4\/t.length=5:=zz1
 rcases this with e|e|e|e|e<;>rw[e]at hm
 ·exact List.all_eq_true.1 lay1 t hm
 ·exact List.all_eq_true.1 lay2 t hm
 ·exact List.all_eq_true.1 lay3 t hm
 ·exact List.all_eq_true.1 lay4 t hm
 ·exact List.all_eq_true.1 lay5 t hm
theorem kb4(t:List Nat)(h0:0<t.length)(h1:t.length<=5)(hb:∀i (h:i<t.length),t[i]<=i)(a0:Int)(l01:List S131)(p2 p3 p4 p5 p6 p7:Int)(ws:List Int)(st:Int)(l10:List (List Int))(hw:ws.length<100) :
 ∃E,rLay.f 100 a0 l01 p2 p3 p4 p5 p6 p7 ws st l10 (ints t)=some (((t.length+1:Nat):Int),E,p2,p3,p4,p5,p6,p7,ws,st,(k17 t).map ints,0)/\k2u E=(k0X t).map fun p=>((p.1:Int),(p.2:Int)):=by
 have h:=k9v t h0 h1 hb;unfold layB at h;split at h
 case h_2=>exact zz52
 case h_1 a b c1 c2 c3 c4 c5 c6 w0 s0 rows z he=>
  simp only[Bool.and_eq_true,decide_eq_true_eq,beq_iff_eq]at h;obtain⟨⟨⟨⟨⟨⟨⟨⟨⟨⟨⟨ha,hb2⟩,_⟩,_⟩,_⟩,_⟩,_⟩,_⟩,_⟩,_⟩,hr⟩,hz⟩:=h;refine⟨b,?_,hb2⟩;subst ha hr hz;unfold rLay.f at he ⊢;obtain⟨x,hx,he⟩:=Option.bind_eq_some_iff.mp he;rw[hx,Option.bind_some];have key:∀q,rLay.j0 100 (ints t) q 0 [] 0 0 0 0 0 0 [] 0 []=some (((t.length+1:Nat):Int),b,c1,c2,c3,c4,c5,c6,w0,s0,(k17 t).map ints,0)->rLay.j0 100 (ints t) q a0 l01 p2 p3 p4 p5 p6 p7 ws st l10=some (((t.length+1:Nat):Int),b,p2,p3,p4,p5,p6,p7,ws,st,(k17 t).map ints,0):=fun q hq=>k8V 99 (ints t) q _ _ _ _ _ _ _ _ _ _ _ hq a0 l01 p2 p3 p4 p5 p6 p7 ws st l10 hw
  by_cases e:x=true
  ·rw[if_pos e]at he ⊢;exact key _ he
  ·rw[if_neg e]at he ⊢;exact key _ he
def k0U(l:List Nat):List Nat:=match l with
 |[]=>[0]
 |l=>(l.take 5).zipIdx.map fun p=>p.1 % (p.2+1)
theorem k4o(l:List Nat):0<(k0U l).length/\(k0U l).length<=5:=by
 unfold k0U;split
 ·exact zz6
 ·rename_i h
  have:l≠[]:=fun e=>h e
  have:=List.length_pos_iff.2 this;exact zz84
theorem k81(l:List Nat):∀i (h:i<(k0U l).length),(k0U l)[i]<=i:=by
 unfold k0U;split
 ·intro i h;simp at h;subst h;simp
 ·intro i h
  simp only[List.getElem_map,List.getElem_zipIdx,Nat.zero_add];exact Nat.lt_succ_iff.mp (Nat.mod_lt _ (Nat.succ_pos i))
theorem kcw(k:Nat)(l:List Int)(out:List Int)(i x:Nat)(hi:i<5)(hl:l[i]? = some (x:Int))(hx:x<256)(ho:out.length<=5):rOf.l0 (k+1) l out i=rOf.l0 k l (out++[((x % (i+1):Nat):Int)]) ((i+1:Nat):Int):=by
 have hlen:=(List.getElem?_eq_some_iff.1 hl).1;have e1:wrap64 ((i:Int)+1)=((i+1:Nat):Int):=by unfold wrap64;omega
 have e2:rd l (i:Int)=(x:Int):=by unfold rd;rw[List.getD_eq_getElem?_getD,Int.toNat_natCast,hl];rfl
 have e3:wrap64 (x:Int)=(x:Int):=by unfold wrap64;omega
 conv=>
  lhs
  unfold rOf.l0
 rw[if_pos zz1,if_pos zz1,if_pos zz1,e1,if_neg zz1,if_pos zz1,e2,e3];have e4:Int.tmod (x:Int) ((i+1:Nat):Int)=((x % (i+1):Nat):Int):=by
  rw[Int.tmod_eq_emod_of_nonneg zz1];push_cast;rfl
 rw[e4]
theorem kbO(k:Nat)(l:List Int)(out:List Int)(i:Nat)(hi:(l.length:Int)<=i\/5<=i)(ho:out.length<=5):rOf.l0 (k+1) l out i=some (if out.length=0 then out++[0] else out):=by
 unfold rOf.l0;have key:(if(out.length:Int)=0 then(if out.length<17592186044416 then some (out++[0]) else none) else some out)=some (if out.length=0 then out++[0] else out):=by
  by_cases e:out.length=0
  ·rw[if_pos zz1,if_pos zz1,if_pos e]
  ·rw[if_neg zz1,if_neg e]
 by_cases e:(i:Int)<(l.length:Int)
 ·rw[if_pos e,if_neg zz1];exact key
 ·rw[if_neg e];exact key
theorem kbY(l:List Nat)(h:∀x∈l,x<256):rOf.f 20 (ints l)=some (ints (k0U l)):=by
 unfold rOf.f;have key:∀j,j<=5->j<=l.length->rOf.l0 20 (ints l) [] 0=rOf.l0 (20-j) (ints l) (ints ((l.take j).zipIdx.map fun p=>p.1 % (p.2+1))) (j:Nat):=by
  intro j
  induction j with
  |zero=>intro _ _;rfl
  |succ j ih=>
   intro h1 h2;rw[ih zz1 zz1];have hx:l[j]? = some l[j]:=List.getElem?_eq_getElem zz1;rw[show 20-j=(20-(j+1))+1 by omega];rw[kcw _ (ints l) _ j l[j] zz1 (by unfold ints;rw[List.getElem?_map,hx];rfl) (h _ (List.getElem_mem _)) (by simp[ints];omega)];congr 1;rw[List.take_add_one,hx,List.zipIdx_append];have e:(l.take j).length=j:=by simp;omega
   simp[ints,e]
 by_cases hl:l=[]
 ·subst hl;rfl
 ·have hp:=List.length_pos_iff.2 hl
  have e:k0U l=(l.take 5).zipIdx.map fun p=>p.1 % (p.2+1):=by
   unfold k0U;split
   ·exact absurd rfl hl
   ·rfl
  by_cases h5:l.length<=5
  ·rw[key l.length h5 (Nat.le_refl _),show 20-l.length=(19-l.length)+1 by omega,kbO _ _ _ _ (.inl (by simp[ints])) (by simp[ints];omega),e,List.take_of_length_le (Nat.le_refl _),List.take_of_length_le h5]
   rw[if_neg (by simp[ints];omega)]
  ·rw[key 5 (Nat.le_refl _) zz1,kbO _ _ _ _ (.inr (Nat.le_refl _)) (by simp[ints];omega),e]
   rw[if_neg (by simp[ints];omega)]
end Go.Proofs.YtdopmlopafgonaaGreatDoor.Own
