/- TopOrder: of each flow what came is some of what was injected, in its order (a part of the walks and of the plain laws). -/
import Derived.Test.YtdopmlopafgonaaGreatDoorCards
import Derived.Test.YtdopmlopafgonaaGreatDoorRows
import Derived.Test.YtdopmlopafgonaaGreatDoorTie
import Derived.Test.YtdopmlopafgonaaGreatDoorD0
import Derived.Test.YtdopmlopafgonaaGreatDoorD48
import Derived.Test.YtdopmlopafgonaaGreatDoorD49
import Derived.Below
import Derived.ChangeOld
import Derived.Lib.SmallJoins
import Derived.OpenShut
import Derived.ProofKit
import Derived.SevenTiedAt
import Derived.ShutString
import Derived.SizedLaws
import Derived.WalkKit
set_option linter.unusedVariables false
set_option linter.unusedSimpArgs false
set_option maxHeartbeats 4000000
set_option maxRecDepth 100000
section
namespace Go.Proofs.YtdopmlopafgonaaGreatDoor.topOrder
open Go.ChangeShapes Go.WideShapes Go.ChangeAt Go.RowKit Go.Joins
open Go.ChangeMaps (open_string shut_string)
open Go.Proofs.YtdopmlopafgonaaGreatDoorW.PrintWords Go.Proofs.YtdopmlopafgonaaGreatDoor.Own
set_option linter.unusedVariables false
open Go.Proofs.YtdopmlopafgonaaGreatDoor.Own
theorem term(A:Option Addr)(c:Nat)(l:List Int)(a1 a2 a3:Int)(A5:Option Addr)(n5 c5:Nat)(q:List OpV)(w:World)(hT:Tab w)(hr:ReadsInt w .u8 A l.length l)(hw:∀x∈l,(Lit.int .u8 x).wf=true)(hc:l.length<=c)(w1:(Lit.int .u8 a1).wf=true)(w2:(Lit.int .u8 a2).wf=true)(w3:(Lit.int .u16 a3).wf=true)(hq:Ops w A5 n5 q)(hqc:n5<=c5) :
 Calls Tryz.prog 4 #[.slice A l.length c,.int .u8 a1,.int .u8 a2,.int .u16 a3,.slice A5 n5 c5] w fun e w'=>e=.returned (.bool true)/\Below w.heap.size w w':=by
 obtain⟨m,hx,rfl⟩:=k97 (w:=w) (A:=A) hw;have b1:=ka6 w1;have b2:=ka6 w2;have b3:=kd8 w3;obtain⟨n1,rfl⟩:∃n:Nat,a1=n:=⟨a1.toNat,zz1⟩;obtain⟨n2,rfl⟩:∃n:Nat,a2=n:=⟨a2.toNat,zz1⟩;obtain⟨n3,rfl⟩:∃n:Nat,a3=n:=⟨a3.toNat,zz1⟩;by_cases h:100<n5
 ·exact k5W _ _ _ _ A5 c5 n5 h hT
 ·exact k4J A c m hx n1 n2 n3 zz1 zz1 zz1 A5 c5 n5 q hq hqc zz1 (k7p hr) hc hT
theorem own:ownKnob Tryz.prog.godebug=none:=by kernel_rfl
theorem laidOut:laidOutB Tryz.prog=true:=by kernel_rfl
theorem lifted(os:Os)(started:os.Started)(H:Type)(enc:TypeId×Value->H) :
 ReturnsInHanded {} Tryz.checked os 4 .any (fun w args=>(Rows.topOrderSpec.pre enc Tryz.prog Tryz.f4 Rows.topOrderRow.domain false w args/\laidMetH Tryz.prog k9z w)/\sizedMet enc Tryz.prog Tryz.f4 (OpenSpec.ofChange Rows.topOrderSpec) false w args) (Rows.topOrderSpec.post enc Tryz.prog Tryz.f4 false true false false):=by
 refine returnsInHanded_of_change_and (C:=Tryz.checked) (X:=fun w _=>laidMetH Tryz.prog k9z w) (fun _ _ _ hh h=>h.of_heap hh) own started zz2 Tryz.func4
  (ChangeSpec.witness_shaped (enc:=enc) (C:=Tryz.checked) (os:=os) (X:=fun w _=>laidMetH Tryz.prog k9z w) false (World.laidAll Tryz.prog os k9z) #[.slice none 0 0,.int .u8 0,.int .u8 0,.int .u16 0,.slice none 0 0] 8 (World.laidAll_os _ _ _)
    (World.shaped_of_ZipB zz2 zz2) zz2 zz2 zz2
    (by rw[MakeChecks.laidMetH_plain _ _ _ zz2];exact laidMet_laidAll _ zz2 zz2)) ?_
 intro W base args ds gs before hval0 hW hcnd hsz0 hL _;have hsz:(DataW.weightsEach Tryz.prog (Tryz.f4.params.toList++Rows.topOrderSpec.plain.varTypes Tryz.prog) (ds++gs)).all (· <= reachBytes)=true:=hsz0;have hval:∀(j:Nat) t v,Tryz.f4.params[j]? = some t->args[j]? = some v->Value.okWide Tryz.prog W .any base t v:=hval0;have hW':=hW;obtain⟨p,q,hA0,hV,rfl,hfz,hnd⟩:=hW;have hA:DataW.TrodAll enc Tryz.prog W 0 (fun _=>true) true Tryz.f4.params.toList args.toList ds p:=hA0;rw[Tryz.params4]at hA hval hsz;obtain⟨v0,vs0,d0,ds0,p0,q0,hargs,rfl,rfl,h0,r0⟩:=trodAll_cons hA;obtain⟨v1,vs1,d1,ds1,p1,q1,rfl,rfl,rfl,h1,r1⟩:=trodAll_cons r0;obtain⟨v2,vs2,d2,ds2,p2,q2,rfl,rfl,rfl,h2,r2⟩:=trodAll_cons r1;obtain⟨v3,vs3,d3,ds3,p3,q3,rfl,rfl,rfl,h3,r3⟩:=trodAll_cons r2;obtain⟨v4,vs4,d4,ds4,p4,q4,rfl,rfl,rfl,h4,r4⟩:=trodAll_cons r3;obtain⟨rfl,rfl,rfl⟩:=trodAll_nil r4;obtain rfl:args=#[v0,v1,v2,v3,v4]:=by cases args;simp_all
 obtain⟨rfl,rfl⟩:=trodVars_none hV;obtain⟨a0,len0,cap0,rfl⟩:=okWide_slice Tryz.underlying22 (hval 0 22 v0 rfl rfl);have k0:=h0;have lt0:∀x∈p0,x.block<W.heap.size:=by obtain⟨m,hm⟩:=k0;exact DataW.trod_lt m _ _ _ hm
 have y0:len0*1<=140737488351232:=k92 hsz (j:=0) (t:=22) rfl rfl Tryz.underlying22 Tryz.underlying5 zz2 zz2 h0;obtain⟨l0,rfl,hr0,hm0,hw0,hc0⟩:∃l:List Int,len0=l.length/\ReadsInt W .u8 a0 l.length l/\l.length<=maxLen/\(∀x∈l,(Lit.int .u8 x).wf=true)/\l.length<=cap0:=by
  obtain⟨fuel,hf⟩:=h0;rcases open_ints Tryz.underlying22 Tryz.underlying5 zz2 hf with⟨hcs,_⟩|⟨x,l,c,zs,hcs,_,hl,hm,hz,_,hcell,hwz⟩
  ·simp[Value.cells]at hcs
   obtain⟨rfl,rfl,rfl⟩:=hcs;exact ReadsInt.ofRowC (.inl ⟨rfl,rfl,rfl,rfl⟩)
  ·simp[Value.cells]at hcs
   obtain⟨rfl,rfl,rfl⟩:=hcs;exact ReadsInt.ofRowC (.inr ⟨_,rfl,hl,hm,by simpa using hz,hcell,hwz⟩)
 obtain⟨a1,rfl,rfl,rfl,w1⟩:=open_int Tryz.underlying5 (hval 1 5 v1 rfl rfl) h1;obtain⟨a2,rfl,rfl,rfl,w2⟩:=open_int Tryz.underlying5 (hval 2 5 v2 rfl rfl) h2;obtain⟨a3,rfl,rfl,rfl,w3⟩:=open_int Tryz.underlying23 (hval 3 23 v3 rfl rfl) h3;obtain⟨a4,len4,cap4,rfl⟩:=okWide_slice Tryz.underlying43 (hval 4 43 v4 rfl rfl);have k4:=h4;have lt4:∀x∈p4,x.block<W.heap.size:=by obtain⟨m,hm⟩:=k4;exact DataW.trod_lt m _ _ _ hm
 obtain⟨Z4,R4,C4⟩:=Ops.open_ h4;clear hA0 hval0 hsz0 hsz;refine(term a0 cap0 l0 a1 a2 a3 a4 len4 cap4 Z4 W (k7m hL) hr0 hw0 hc0 w1 w2 w3 R4 C4).mono fun e W' ⟨he,bel⟩=>?_
 subst he;exact⟨_,rfl,_,_,_,[],_,[],hW',trodAll_mk1 (shut_bool Tryz.underlying4 _),(trodAll_cons_mk (Below.trod laidOut zz2 (of_decide_eq_true zz2) k0 bel lt0) (trodAll_cons_mk (shut_int Tryz.underlying5 w1) (trodAll_cons_mk (shut_int Tryz.underlying5 w2) (trodAll_cons_mk (shut_int Tryz.underlying23 w3) (trodAll_cons_mk (Below.trod laidOut zz2 (of_decide_eq_true zz2) k4 bel lt4) trodAll_mk0))))),rfl,bel.frame _,fun h=>by cases h⟩
theorem over:Rows.topOrderRow.holds Tryz.pinned (OpenSpec.ofChange Rows.topOrderSpec):=
 OpenClaim.holds_of_wide 4 Tryz.f4 rfl rfl rfl rfl rfl rfl rfl ⟨rfl,rfl,rfl,rfl,rfl⟩ rfl rfl rfl rfl rfl zz2 Tryz.func4 zz2
  (of_decide_eq_true zz2) (by unfold Func.isWrapper;first|(rw[if_pos (by decide +kernel)];kernel_rfl)|(rw[if_neg (by decide +kernel)];exact⟨rfl,rfl⟩))
  (fun os started H enc _=>lifted os started H enc)
theorem card:Rows.TopOrderCardSaid:=
 Claim7.holds_tied_plain_at .later [] [.data] true (true, "0c4d2c61c508658628df8b65677e0c4429a95b64c2a3c3c3431a870e07da5d01") false
  over (fun _ h=>by cases h) zz2 (fun _ h=>by cases h) topOrder_row_tie rfl ⟨rfl,rfl⟩ zz2 rfl
  (fun f fn hf hfn=>by
    obtain rfl:f=4:=Option.some.inj ((show Tryz.prog.funcNamed "shunter/shuntertop.TopOrder" = some 4 by kernel_rfl).symm.trans hf) |>.symm;obtain rfl:fn=Tryz.f4:=(Option.some.inj (Tryz.func4.symm.trans hfn)).symm;exact⟨zz2,fun j t ht=>by
     rw[Tryz.params4]at ht;have hm:t∈[22,5,5,23,43]:=by simpa using Array.mem_of_getElem? ht
     have hall:([22,5,5,23,43].all fun u=>!Tryz.prog.wantsStandIn u)=true:=zz2
     exact(show Tryz.prog.wantsStandIn t=false by simpa using List.all_eq_true.1 hall t hm)⟩)
  zz2
end Go.Proofs.YtdopmlopafgonaaGreatDoor.topOrder
namespace Go.Proofs.YtdopmlopafgonaaGreatDoor
theorem topOrder_holds:Rows.TopOrderCardSaid:=topOrder.card
end Go.Proofs.YtdopmlopafgonaaGreatDoor
end
