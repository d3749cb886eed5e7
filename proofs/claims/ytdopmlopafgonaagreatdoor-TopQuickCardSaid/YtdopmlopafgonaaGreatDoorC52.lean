/- TopQuick: one packet alone is brought from host to host (a part of the walks and of the plain laws). -/
import Derived.Test.YtdopmlopafgonaaGreatDoorCards
import Derived.Test.YtdopmlopafgonaaGreatDoorRows
import Derived.Test.YtdopmlopafgonaaGreatDoorTie
import Derived.Test.YtdopmlopafgonaaGreatDoorC0
import Derived.Test.YtdopmlopafgonaaGreatDoorC49
import Derived.Test.YtdopmlopafgonaaGreatDoorC50
import Derived.Test.YtdopmlopafgonaaGreatDoorC51
import Derived.Below
import Derived.ChangeOld
import Derived.Lib.SmallJoins
import Derived.OpenShut
import Derived.ProofKit
import Derived.SevenTiedAt
import Derived.ShutString
import Derived.SizedLaws
import Derived.WalkKit
set_option linter.unusedVariables false
set_option linter.unusedSimpArgs false
set_option maxHeartbeats 4000000
set_option maxRecDepth 100000
section
namespace Go.Proofs.YtdopmlopafgonaaGreatDoor.topQuick
open Go.ChangeShapes Go.WideShapes Go.ChangeAt Go.RowKit Go.Joins
open Go.ChangeMaps (open_string shut_string)
open Go.Proofs.YtdopmlopafgonaaGreatDoorW.PrintWords Go.Proofs.YtdopmlopafgonaaGreatDoor.Own
set_option linter.unusedVariables false
open Go.Proofs.YtdopmlopafgonaaGreatDoor.Own
theorem term (A:Option Addr) (c:Nat) (l:List Int) (a1 a2 a3 a4 a5 a6:Int) (w:World) (hT:Tab w) (hr:ReadsInt w .u8 A l.length l) (hm:l.length<=maxLen) (hw:∀ x∈l,(Lit.int .u8 x).wf=true) (hy:l.length*1<=140737488351232) (hc:l.length<=c) (w1:(Lit.int .u8 a1).wf=true) (w2:(Lit.int .u8 a2).wf=true) (w3:(Lit.int .u16 a3).wf=true) (w4:(Lit.int .u8 a4).wf=true) (w5:(Lit.int .u8 a5).wf=true) (w6:(Lit.int .u32 a6).wf=true) :
 Calls Tryz.prog 3 #[.slice A l.length c,.int .u8 a1,.int .u8 a2,.int .u16 a3,.int .u8 a4,.int .u8 a5,.int .u32 a6] w fun e w'=>e = .returned (.bool true)/\Below w.heap.size w w':=by
 obtain ⟨m,hx,rfl⟩:=k8O (w:=w) (A:=A) hw;have b1:=k8b w1;have b2:=k8b w2;have b3:=kcr w3;have b4:=k8b w4;have b5:=k8b w5;have b6:=kca w6;obtain ⟨n1,rfl⟩:∃ n:Nat,a1=n:=⟨a1.toNat,zz1⟩;obtain ⟨n2,rfl⟩:∃ n:Nat,a2=n:=⟨a2.toNat,zz1⟩;obtain ⟨n3,rfl⟩:∃ n:Nat,a3=n:=⟨a3.toNat,zz1⟩;obtain ⟨n4,rfl⟩:∃ n:Nat,a4=n:=⟨a4.toNat,zz1⟩;obtain ⟨n5,rfl⟩:∃ n:Nat,a5=n:=⟨a5.toNat,zz1⟩;exact k4h A c m hx n1 n2 n3 n4 n5 a6 zz1 zz1 zz1 zz1 zz1 b6.1 b6.2 (k7d hr) hc hT
theorem own:ownKnob Tryz.prog.godebug=none:=by kernel_rfl
theorem laidOut:laidOutB Tryz.prog=true:=by kernel_rfl
theorem lifted (os:Os) (started:os.Started) (H:Type) (enc:TypeId × Value->H) :
 ReturnsInHanded {} Tryz.checked os 3 .any (fun w args=>(Rows.topQuickSpec.pre enc Tryz.prog Tryz.f3 Rows.topQuickRow.domain false w args/\laidMetH Tryz.prog k9x w)/\sizedMet enc Tryz.prog Tryz.f3 (OpenSpec.ofChange Rows.topQuickSpec) false w args) (Rows.topQuickSpec.post enc Tryz.prog Tryz.f3 false true false false):=by
 refine returnsInHanded_of_change_and (C:=Tryz.checked) (X:=fun w _=>laidMetH Tryz.prog k9x w) (fun _ _ _ hh h=>h.of_heap hh) own started zz3 Tryz.func3
  (ChangeSpec.witness_shaped (enc:=enc) (C:=Tryz.checked) (os:=os) (X:=fun w _=>laidMetH Tryz.prog k9x w) false (World.laidAll Tryz.prog os k9x) #[.slice none 0 0,.int .u8 0,.int .u8 0,.int .u16 0,.int .u8 0,.int .u8 0,.int .u32 0] 8 (World.laidAll_os _ _ _)
    (World.shaped_of_ZipB zz3 zz3) zz3 zz3 zz3
    (by rw [MakeChecks.laidMetH_plain _ _ _ zz3];exact laidMet_laidAll _ zz3 zz3)) ?_
 intro W base args ds gs before hval0 hW hcnd hsz0 hL _;have hsz:(DataW.weightsEach Tryz.prog (Tryz.f3.params.toList++Rows.topQuickSpec.plain.varTypes Tryz.prog) (ds++gs)).all (· <= reachBytes)=true:=hsz0;have hval:∀ (j:Nat) t v,Tryz.f3.params[j]? = some t->args[j]? = some v->Value.okWide Tryz.prog W .any base t v:=hval0;have hW':=hW;obtain ⟨p,q,hA0,hV,rfl,hfz,hnd⟩:=hW;have hA:DataW.TrodAll enc Tryz.prog W 0 (fun _=>true) true Tryz.f3.params.toList args.toList ds p:=hA0;rw [Tryz.params3] at hA hval hsz;obtain ⟨v0,vs0,d0,ds0,p0,q0,hargs,rfl,rfl,h0,r0⟩:=trodAll_cons hA;obtain ⟨v1,vs1,d1,ds1,p1,q1,rfl,rfl,rfl,h1,r1⟩:=trodAll_cons r0;obtain ⟨v2,vs2,d2,ds2,p2,q2,rfl,rfl,rfl,h2,r2⟩:=trodAll_cons r1;obtain ⟨v3,vs3,d3,ds3,p3,q3,rfl,rfl,rfl,h3,r3⟩:=trodAll_cons r2;obtain ⟨v4,vs4,d4,ds4,p4,q4,rfl,rfl,rfl,h4,r4⟩:=trodAll_cons r3;obtain ⟨v5,vs5,d5,ds5,p5,q5,rfl,rfl,rfl,h5,r5⟩:=trodAll_cons r4;obtain ⟨v6,vs6,d6,ds6,p6,q6,rfl,rfl,rfl,h6,r6⟩:=trodAll_cons r5;obtain ⟨rfl,rfl,rfl⟩:=trodAll_nil r6;obtain rfl:args = #[v0,v1,v2,v3,v4,v5,v6]:=by cases args;simp_all
 obtain ⟨rfl,rfl⟩:=trodVars_none hV;obtain ⟨a0,len0,cap0,rfl⟩:=okWide_slice Tryz.underlying22 (hval 0 22 v0 rfl rfl);have k0:=h0;have lt0:∀ x∈p0,x.block<W.heap.size:=by obtain ⟨m,hm⟩:=k0;exact DataW.trod_lt m _ _ _ hm
 have y0:len0*1<=140737488351232:=k81 hsz (j:=0) (t:=22) rfl rfl Tryz.underlying22 Tryz.underlying5 zz3 zz3 h0;obtain ⟨l0,rfl,hr0,hm0,hw0,hc0⟩:∃ l:List Int,len0=l.length/\ReadsInt W .u8 a0 l.length l/\l.length<=maxLen/\(∀ x∈l,(Lit.int .u8 x).wf=true)/\l.length<=cap0:=by
  obtain ⟨fuel,hf⟩:=h0;rcases open_ints Tryz.underlying22 Tryz.underlying5 zz3 hf with ⟨hcs,_⟩ | ⟨x,l,c,zs,hcs,_,hl,hm,hz,_,hcell,hwz⟩
  · simp [Value.cells] at hcs
    obtain ⟨rfl,rfl,rfl⟩:=hcs;exact ReadsInt.ofRowC (.inl ⟨rfl,rfl,rfl,rfl⟩)
  · simp [Value.cells] at hcs
    obtain ⟨rfl,rfl,rfl⟩:=hcs;exact ReadsInt.ofRowC (.inr ⟨_,rfl,hl,hm,by simpa using hz,hcell,hwz⟩)
 obtain ⟨a1,rfl,rfl,rfl,w1⟩:=open_int Tryz.underlying5 (hval 1 5 v1 rfl rfl) h1;obtain ⟨a2,rfl,rfl,rfl,w2⟩:=open_int Tryz.underlying5 (hval 2 5 v2 rfl rfl) h2;obtain ⟨a3,rfl,rfl,rfl,w3⟩:=open_int Tryz.underlying23 (hval 3 23 v3 rfl rfl) h3;obtain ⟨a4,rfl,rfl,rfl,w4⟩:=open_int Tryz.underlying5 (hval 4 5 v4 rfl rfl) h4;obtain ⟨a5,rfl,rfl,rfl,w5⟩:=open_int Tryz.underlying5 (hval 5 5 v5 rfl rfl) h5;obtain ⟨a6,rfl,rfl,rfl,w6⟩:=open_int Tryz.underlying24 (hval 6 24 v6 rfl rfl) h6;clear hA0 hval0 hsz0 hsz;refine (term a0 cap0 l0 a1 a2 a3 a4 a5 a6 W (k6U hL) hr0 hm0 hw0 y0 hc0 w1 w2 w3 w4 w5 w6).mono fun e W' ⟨he,bel⟩=>?_
 subst he;exact ⟨_,rfl,_,_,_,[],_,[],hW',trodAll_mk1 (shut_bool Tryz.underlying4 _),(trodAll_cons_mk (Below.trod laidOut zz3 (of_decide_eq_true zz3) k0 bel lt0) (trodAll_cons_mk (shut_int Tryz.underlying5 w1) (trodAll_cons_mk (shut_int Tryz.underlying5 w2) (trodAll_cons_mk (shut_int Tryz.underlying23 w3) (trodAll_cons_mk (shut_int Tryz.underlying5 w4) (trodAll_cons_mk (shut_int Tryz.underlying5 w5) (trodAll_cons_mk (shut_int Tryz.underlying24 w6) trodAll_mk0))))))),rfl,bel.frame _,fun h=>by cases h⟩
theorem over:Rows.topQuickRow.holds Tryz.pinned (OpenSpec.ofChange Rows.topQuickSpec):=
 OpenClaim.holds_of_wide 3 Tryz.f3 rfl rfl rfl rfl rfl rfl rfl ⟨rfl,rfl,rfl,rfl,rfl⟩ rfl rfl rfl rfl rfl zz3 Tryz.func3 zz3
  (of_decide_eq_true zz3) (by unfold Func.isWrapper;first | (rw [if_pos (by decide +kernel)];kernel_rfl) | (rw [if_neg (by decide +kernel)];exact ⟨rfl,rfl⟩))
  (fun os started H enc _=>lifted os started H enc)
theorem card:Rows.TopQuickCardSaid:=
 Claim7.holds_tied_plain_at .later [] [.data] true (true, "0c4d2c61c508658628df8b65677e0c4429a95b64c2a3c3c3431a870e07da5d01") false
  over (fun _ h=>by cases h) zz3 (fun _ h=>by cases h) topQuick_row_tie rfl ⟨rfl,rfl⟩ zz3 rfl
  (fun f fn hf hfn=>by
    obtain rfl:f=3:=Option.some.inj ((show Tryz.prog.funcNamed "shunter/shuntertop.TopQuick" = some 3 by kernel_rfl).symm.trans hf) |>.symm;obtain rfl:fn=Tryz.f3:=(Option.some.inj (Tryz.func3.symm.trans hfn)).symm;exact ⟨zz3,fun j t ht=>by
     rw [Tryz.params3] at ht;have hm:t∈[22,5,5,23,5,5,24]:=by simpa using Array.mem_of_getElem? ht
     have hall:([22,5,5,23,5,5,24].all fun u=>!Tryz.prog.wantsStandIn u)=true:=by kernel_rfl
     exact (show Tryz.prog.wantsStandIn t=false by simpa using List.all_eq_true.1 hall t hm)⟩)
  zz3
end Go.Proofs.YtdopmlopafgonaaGreatDoor.topQuick
namespace Go.Proofs.YtdopmlopafgonaaGreatDoor
theorem topQuick_holds:Rows.TopQuickCardSaid:=topQuick.card
end Go.Proofs.YtdopmlopafgonaaGreatDoor
end
