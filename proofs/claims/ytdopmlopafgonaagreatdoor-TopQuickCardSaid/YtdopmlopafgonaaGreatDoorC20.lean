/- TopQuick: one packet alone is brought from host to host (a part of the walks and of the plain laws). -/
import Derived.Test.YtdopmlopafgonaaGreatDoorC0
import Derived.Test.YtdopmlopafgonaaGreatDoorC19
set_option linter.unusedVariables false
set_option linter.unusedSimpArgs false
set_option maxHeartbeats 4000000
set_option maxRecDepth 100000
namespace Go.Proofs.YtdopmlopafgonaaGreatDoor.Own
open Go.RowKit Go.Proofs.YtdopmlopafgonaaGreatDoorW.PrintWords Go.Proofs.YtdopmlopafgonaaGreatDoorW.PrintLast Go.Proofs.YtdopmlopafgonaaGreatDoorW.PrintMore
theorem w16 (n:Int):IntKind.u16.wrap n=n % 65536:=by simp [IntKind.wrap,IntKind.bits,IntKind.signed]
theorem w64 (n:Int):IntKind.u64.wrap n=n % 18446744073709551616:=by simp [IntKind.wrap,IntKind.bits,IntKind.signed]
def k0q (a b:Int):Int:=((a-32768) % 18446744073709551616+(b-(a-32768)) % 65536) % 18446744073709551616
theorem k1W (a b:Int):0<=k0q a b/\k0q a b<=18446744073709551615:=by unfold k0q;omega
def SndSt (w0 w:World) (g:Nat) (s l:Int):Prop:=w.heap[g]? = some (.cells #[.int .u64 s,.int .u64 l] 191 (0,0))/\Only (fun b=>b=g) w0 w
theorem SndSt.drewN {w0 w:World} {g:Nat} {s l:Int} (h:SndSt w0 w g s l) (m:Nat):SndSt w0 (w.drewN m) g s l:=⟨h.1,h.2.drewN m⟩
theorem SndSt.below {w0 w w1:World} {g:Nat} {s l:Int} (h:SndSt w0 w g s l) (hb:Below w.heap.size w w1):SndSt w0 w1 g s l:=⟨k0U h.1 hb,h.2.below hb⟩
theorem SndSt.set0 {w0 w:World} {g:Nat} {s l:Int} (h:SndSt w0 w g s l) (x:Int):SndSt w0 (w.setCell ⟨g,0,none⟩ (.int .u64 x)) g x l:=⟨by simpa using k05 h.1 0 (.int .u64 x),h.2.set (fun _=>rfl) _⟩
theorem SndSt.set1 {w0 w:World} {g:Nat} {s l:Int} (h:SndSt w0 w g s l) (x:Int):SndSt w0 (w.setCell ⟨g,1,none⟩ (.int .u64 x)) g s x:=⟨by simpa using k05 h.1 1 (.int .u64 x),h.2.set (fun _=>rfl) _⟩
theorem SndSt.c0 {w0 w:World} {g:Nat} {s l:Int} (h:SndSt w0 w g s l):w.cell? ⟨g,0,none⟩=some (.int .u64 s):=(k00 h.1 0).trans rfl
theorem SndSt.c1 {w0 w:World} {g:Nat} {s l:Int} (h:SndSt w0 w g s l):w.cell? ⟨g,1,none⟩=some (.int .u64 l):=(k00 h.1 1).trans rfl
theorem SndSt.f0 {w0 w:World} {g:Nat} {s l:Int} (h:SndSt w0 w g s l):w.frozen? ⟨g,0,none⟩=false:=k02 h.1 0
theorem SndSt.f1 {w0 w:World} {g:Nat} {s l:Int} (h:SndSt w0 w g s l):w.frozen? ⟨g,1,none⟩=false:=k02 h.1 1
theorem k73 (a:Int) (w:World):Calls Tryz.prog 142 #[.int .u64 a] w fun e w'=>e = .returned (.int .u16 (IntKind.u16.wrap a))/\Drawn0 w w':=by
 go_enter Tryz.func142,Tryz.ntmps142;go_wp2;go_ret;exact ⟨by first | rfl | (simp;done),zz11⟩
theorem k1X (a b:Int) (w:World):Calls Tryz.prog 115 #[.int .u64 a,.int .u16 b] w fun e w'=>e = .returned (.int .u64 (k0q a b))/\Drawn0 w w':=by
 have hfin:k08 (IntKind.u64.wrap (IntKind.u64.wrap (a-32768)+IntKind.u64.wrap (IntKind.u16.wrap (b-IntKind.u16.wrap (IntKind.u64.wrap (a-32768)))))=k0q a b):=Ab (by
  simp only [w16,w64,k0q];omega)
 go_enter Tryz.func115,Tryz.ntmps115
 go_wp2_with (go_at_call 142;(with_reducible refine (k73 _ _).mono ?_);rintro e w' ⟨rfl,⟨nd,rfl⟩⟩)
 go_ret;exact ⟨by rw [<- hfin.out];rfl,zz11⟩
theorem kbD (n r:Int) (w:World) (h0:0<=n) (h1:n<4611686018427387904) (h2:1<=r) (h3:r<=8) :
 Calls Tryz.prog 67 #[.int .u64 n,.int .i64 r] w fun e w'=>e = .returned (.pointer (some ⟨w.heap.size,0,none⟩))/\w'=w.alloc (.cells #[.int .u64 n,.int .u64 (n+r)] 191):=by
 have e1:decide (4611686018427387904<=n)=false:=by simp;omega
 have e2:decide (r<1)=false:=by simp;omega
 have e3:decide (8<r)=false:=by simp;omega
 go_enter Tryz.func67,Tryz.ntmps67;exact zz12
theorem k2B (s l:Int) (w:World) (h0:0<=s) (h1:s<=l) (h2:l<=s+8) (h3:l<18446744073709551616) :
 Calls Tryz.prog 114 #[.agg #[.int .u64 s,.int .u64 l]] w fun e w'=>e = .returned (.int .i64 (l-s))/\Below w.heap.size w w':=by
 go_enter Tryz.func114,Tryz.ntmps114;go_wp2;go_ret;exact ⟨rfl,(Below.refl _ _).alloc (Nat.le_refl _) _⟩
theorem k1p (g:Nat) (s l:Int) (w0 w:World) (hS:SndSt w0 w g s l) (h0:0<=s) (h1:s<=l) (h2:l<=s+8) (h3:l<18446744073709551616) :
 Calls Tryz.prog 79 #[.pointer (some ⟨g,0,none⟩)] w fun e w'=>e = .returned (.int .i64 (l-s))/\SndSt w0 w' g s l:=by
 have HS:=Ab hS;have hc0:=hS.c0;have hc1:=hS.c1;clear hS;go_enter Tryz.func79,Tryz.ntmps79
 go_wp2_with (go_at_call 114;(with_reducible refine (k2B _ _ _ h0 h1 h2 h3).mono ?_);rintro e w' ⟨rfl,hb⟩;have HB:=Ab hb;clear hb)
 go_ret;exact ⟨rfl,HS.out.below HB.out⟩
theorem k1G (g:Nat) (s l:Int) (w0 w:World) (hS:SndSt w0 w g s l) :
 Calls Tryz.prog 85 #[.pointer (some ⟨g,0,none⟩)] w fun e w'=>e = .returned (.int .u64 s)/\SndSt w0 w' g s l:=by
 have HS:=Ab hS;have hc0:=hS.c0;clear hS;go_enter Tryz.func85,Tryz.ntmps85;exact zz82
theorem k3Z (g:Nat) (s l:Int) (w0 w:World) (hS:SndSt w0 w g s l) :
 Calls Tryz.prog 81 #[.pointer (some ⟨g,0,none⟩)] w fun e w'=>e = .returned (.int .u64 l)/\SndSt w0 w' g s l:=by
 have HS:=Ab hS;have hc1:=hS.c1;clear hS;go_enter Tryz.func81,Tryz.ntmps81;exact zz82
theorem k3D (g:Nat) (s l:Int) (w0 w:World) (hS:SndSt w0 w g s l) (h0:0<=s) (h1:s<l) (h2:l<=s+8) (h3:l<18446744073709551616) :
 Calls Tryz.prog 132 #[.pointer (some ⟨g,0,none⟩)] w fun e w'=>e = .returned (.tuple #[.int .u64 s,.bool true])/\SndSt w0 w' g (s+1) l:=by
 have HS:=Ab hS;have hc0:=hS.c0;have hc1:=hS.c1;clear hS;have e1:(l-s == 0)=false:=by simp;omega
 go_enter Tryz.func132,Tryz.ntmps132
 go_wp2_with (go_at_call 114;(with_reducible refine (k2B _ _ _ h0 zz1 h2 h3).mono ?_);rintro e w' ⟨rfl,hb⟩;have hS2:=HS.out.below hb;clear hb;have hd0:=hS2.c0;have hd1:=hS2.c1;have hg0:=hS2.f0;have HS2:=Ab hS2;clear hS2)
 go_ret2
 exact ⟨rfl,HS2.out.set0 _⟩
def k4E (s l b:Int):Int:=if k0q l b<=l\/s+8<k0q l b then l else k0q l b
theorem k4w (g:Nat) (s l b:Int) (w0 w:World) (hS:SndSt w0 w g s l) (h0:0<=s) (h3:s+8<18446744073709551616) :
 Calls Tryz.prog 98 #[.pointer (some ⟨g,0,none⟩),.int .u16 b] w fun e w'=>e = .returned (.bool (decide (l<k0q l b/\k0q l b<=s+8)))/\SndSt w0 w' g s (k4E s l b):=by
 have HS:=Ab hS;have hc0:=hS.c0;have hc1:=hS.c1;have hf1:=hS.f1;clear hS;by_cases c1:k0q l b<=l
 · rw [decide_eq_false zz1,show k4E s l b=l from if_pos (Or.inl c1)]
   have e1:decide (k0q l b<=l)=true:=decide_eq_true c1;clear c1;go_enter Tryz.func98,Tryz.ntmps98
   go_wp2_with (go_at_call 115;(with_reducible refine (k1X _ _ _).mono ?_);rintro e w' ⟨rfl,⟨nd,rfl⟩⟩)
   go_ret;exact ⟨rfl,by first | exact HS.out.drewN _ | exact (HS.out.drewN _).drewN _⟩
 · have e1:decide (k0q l b<=l)=false:=decide_eq_false c1
   by_cases c2:s+8<k0q l b
   · rw [decide_eq_false zz1,show k4E s l b=l from if_pos (Or.inr c2)]
     have e2:decide (s+8<k0q l b)=true:=decide_eq_true c2;clear c1 c2;go_enter Tryz.func98,Tryz.ntmps98
     go_wp2_with (go_at_call 115;(with_reducible refine (k1X _ _ _).mono ?_);rintro e w' ⟨rfl,⟨nd,rfl⟩⟩)
     go_ret;exact ⟨rfl,by first | exact HS.out.drewN _ | exact (HS.out.drewN _).drewN _⟩
   · rw [decide_eq_true zz1,show k4E s l b=k0q l b from if_neg zz1]
     have e2:decide (s+8<k0q l b)=false:=decide_eq_false c2;clear c1 c2;go_enter Tryz.func98,Tryz.ntmps98
     go_wp2_with (go_at_call 115;(with_reducible refine (k1X _ _ _).mono ?_);rintro e w' ⟨rfl,⟨nd,rfl⟩⟩)
     go_ret;exact ⟨rfl,by first | exact (HS.out.drewN _).set1 _ | exact ((HS.out.drewN _).drewN _).set1 _⟩
def RcvSt (w0 w:World) (g:Nat) (x h r:Int):Prop:=w.heap[g]? = some (.cells #[.int .u64 x,.int .i64 h,.int .i64 r] 193 (0,0))/\Only (fun b=>b=g) w0 w
section
variable {w0 w w1:World} {g:Nat} {x h r:Int}
theorem RcvSt.drewN (s:RcvSt w0 w g x h r) (m:Nat):RcvSt w0 (w.drewN m) g x h r:=⟨s.1,s.2.drewN m⟩
theorem RcvSt.set0 (s:RcvSt w0 w g x h r) (y:Int):RcvSt w0 (w.setCell ⟨g,0,none⟩ (.int .u64 y)) g y h r:=⟨by simpa using k05 s.1 0 (.int .u64 y),s.2.set (fun _=>rfl) _⟩
theorem RcvSt.set1 (s:RcvSt w0 w g x h r) (y:Int):RcvSt w0 (w.setCell ⟨g,1,none⟩ (.int .i64 y)) g x y r:=⟨by simpa using k05 s.1 1 (.int .i64 y),s.2.set (fun _=>rfl) _⟩
theorem RcvSt.c0 (s:RcvSt w0 w g x h r):w.cell? ⟨g,0,none⟩=some (.int .u64 x):=(k00 s.1 0).trans rfl
theorem RcvSt.c1 (s:RcvSt w0 w g x h r):w.cell? ⟨g,1,none⟩=some (.int .i64 h):=(k00 s.1 1).trans rfl
theorem RcvSt.c2 (s:RcvSt w0 w g x h r):w.cell? ⟨g,2,none⟩=some (.int .i64 r):=(k00 s.1 2).trans rfl
theorem RcvSt.f0 (s:RcvSt w0 w g x h r):w.frozen? ⟨g,0,none⟩=false:=k02 s.1 0
theorem RcvSt.f1 (s:RcvSt w0 w g x h r):w.frozen? ⟨g,1,none⟩=false:=k02 s.1 1
end
theorem kbF (n r:Int) (w:World) (h0:0<=n) (h1:n<4611686018427387904) (h2:1<=r) (h3:r<=8) :
 Calls Tryz.prog 68 #[.int .u64 n,.int .i64 r] w fun e w'=>e = .returned (.pointer (some ⟨w.heap.size,0,none⟩))/\w'=w.alloc (.cells #[.int .u64 n,.int .i64 0,.int .i64 r] 193):=by
 have e1:decide (4611686018427387904<=n)=false:=by simp;omega
 have e2:decide (r<1)=false:=by simp;omega
 have e3:decide (8<r)=false:=by simp;omega
 go_enter Tryz.func68,Tryz.ntmps68;exact zz12
theorem k6a (g:Nat) (x h r:Int) (w0 w:World) (s:RcvSt w0 w g x h r) (x0:0<=x) (x1:x<=9000000000000000000) (h0:0<=h) (h1:h<=r) (h2:r<=8) :
 Calls Tryz.prog 80 #[.pointer (some ⟨g,0,none⟩)] w fun e w'=>e = .returned (.int .u64 (x+(r-h)))/\RcvSt w0 w' g x h r:=by
 have HS:=Ab s;have hc0:=s.c0;have hc1:=s.c1;have hc2:=s.c2;have hf0:=s.f0;have hf1:=s.f1;clear s;go_enter Tryz.func80,Tryz.ntmps80;go_wp2
 go_quiet (fail)
 go_wp2;go_ret;exact ⟨rfl,HS.out.drewN _⟩
theorem kad (g:Nat) (x h r:Int) (w0 w:World) (s:RcvSt w0 w g x h r) :
 Calls Tryz.prog 82 #[.pointer (some ⟨g,0,none⟩)] w fun e w'=>e = .returned (.int .i64 h)/\RcvSt w0 w' g x h r:=by
 have HS:=Ab s;have hc0:=s.c0;have hc1:=s.c1;have hc2:=s.c2;have hf0:=s.f0;have hf1:=s.f1;clear s;go_enter Tryz.func82,Tryz.ntmps82;go_wp2;go_ret;exact ⟨rfl,HS.out⟩
theorem k4u (g:Nat) (x h r:Int) (w0 w:World) (s:RcvSt w0 w g x h r) :
 Calls Tryz.prog 84 #[.pointer (some ⟨g,0,none⟩)] w fun e w'=>e = .returned (.int .u64 x)/\RcvSt w0 w' g x h r:=by
 have HS:=Ab s;have hc0:=s.c0;have hc1:=s.c1;have hc2:=s.c2;have hf0:=s.f0;have hf1:=s.f1;clear s;go_enter Tryz.func84,Tryz.ntmps84;go_wp2;go_ret;exact ⟨rfl,HS.out⟩
theorem k6P (g:Nat) (x r:Int) (w0 w:World) (s:RcvSt w0 w g x 0 r) :
 Calls Tryz.prog 130 #[.pointer (some ⟨g,0,none⟩)] w fun e w'=>e = .returned (.bool false)/\RcvSt w0 w' g x 0 r:=by
 have HS:=Ab s;have hc0:=s.c0;have hc1:=s.c1;have hc2:=s.c2;have hf0:=s.f0;have hf1:=s.f1;clear s;go_enter Tryz.func130,Tryz.ntmps130;go_wp2;go_ret;exact ⟨rfl,HS.out⟩
theorem k6I (g:Nat) (x h r:Int) (w0 w:World) (s:RcvSt w0 w g x h r) (h0:0<h) (h1:h<=8) :
 Calls Tryz.prog 130 #[.pointer (some ⟨g,0,none⟩)] w fun e w'=>e = .returned (.bool true)/\RcvSt w0 w' g x (h-1) r:=by
 have e1:(h == 0)=false:=by simp;omega
 have HS:=Ab s;have hc0:=s.c0;have hc1:=s.c1;have hc2:=s.c2;have hf0:=s.f0;have hf1:=s.f1;clear s;go_enter Tryz.func130,Tryz.ntmps130;go_wp2;go_ret;exact ⟨rfl,HS.out.set1 _⟩
theorem k1x (g:Nat) (x h r b:Int) (w0 w:World) (s:RcvSt w0 w g x h r) (x0:0<=x) (x1:x<=9000000000000000000) :
 Calls Tryz.prog 134 #[.pointer (some ⟨g,0,none⟩),.int .u16 b] w fun e w'=>e = .returned (.tuple #[.int .u64 (k0q x b),.int .u64 ((k0q x b-x) % 18446744073709551616),.bool (decide (x<=k0q x b))])/\RcvSt w0 w' g x h r:=by
 have hr:=k1W x b;have hw:=w64 (k0q x b-x);have HS:=Ab s;have hc0:=s.c0;have hc1:=s.c1;have hc2:=s.c2;have hf0:=s.f0;have hf1:=s.f1;clear s;go_enter Tryz.func134,Tryz.ntmps134
 go_wp2_with (go_at_call 115;(with_reducible refine (k1X _ _ _).mono ?_);rintro e w' ⟨rfl,⟨nd,rfl⟩⟩)
 go_quiet (fail)
 go_wp2
 go_ret3
 exact ⟨rfl,(HS.out.drewN _).drewN _⟩
theorem k4G (g:Nat) (x h r b:Int) (w0 w:World) (s:RcvSt w0 w g x h r) (x0:0<=x) (x1:x<=9000000000000000000) (h0:0<=h) (h1:h<=r) (h2:r<=8) (hs:k0q x b<x) :
 Calls Tryz.prog 135 #[.pointer (some ⟨g,0,none⟩),.int .u16 b] w fun e w'=>e = .returned (.int .u16 60)/\RcvSt w0 w' g x h r:=by
 have e1:decide (x<=k0q x b)=false:=decide_eq_false zz1;have HS:=Ab s;clear s;go_enter Tryz.func135,Tryz.ntmps135
 go_wp2_with (go_at_call 134;(with_reducible refine (k1x g x h r b w0 w HS.out x0 x1).mono ?_);rintro e w2 ⟨rfl,hs2⟩;have HS2:=Ab hs2;have hc0:=hs2.c0;have hc1:=hs2.c1;have hc2:=hs2.c2;have hf0:=hs2.f0;have hf1:=hs2.f1;clear hs2)
 go_ret;exact ⟨rfl,HS2.out⟩
theorem k5G (g:Nat) (x h r b:Int) (w0 w:World) (s:RcvSt w0 w g x h r) (x0:0<=x) (x1:x<=9000000000000000000) (h0:0<=h) (h1:h<=r) (h2:r<=8) (hs:x+(r-h)<=k0q x b) :
 Calls Tryz.prog 135 #[.pointer (some ⟨g,0,none⟩),.int .u16 b] w fun e w'=>e = .returned (.int .u16 61)/\RcvSt w0 w' g x h r:=by
 have hr:=k1W x b;have e1:decide (x<=k0q x b)=true:=decide_eq_true zz1;have e3:decide (r-h<=(k0q x b-x) % 18446744073709551616)=true:=decide_eq_true zz1;have HS:=Ab s;clear s;go_enter Tryz.func135,Tryz.ntmps135
 go_wp2_with (go_at_call 134;(with_reducible refine (k1x g x h r b w0 w HS.out x0 x1).mono ?_);rintro e w2 ⟨rfl,hs2⟩;have HS2:=Ab hs2;have hc0:=hs2.c0;have hc1:=hs2.c1;have hc2:=hs2.c2;have hf0:=hs2.f0;have hf1:=hs2.f1;clear hs2)
 go_quiet (fail)
 go_wp2;exact zz31
theorem k6Q (X:Int) (g:Nat) (x h r b:Int) (w0 w:World) (s:RcvSt w0 w g x h r) (x0:0<=x) (x1:x<=9000000000000000000) (h0:0<=h) (h1:h<=r) (h2:r<=8) (hX:k0q x b=X) (hs:x<=X) (ht:X<x+(r-h)) :
 Calls Tryz.prog 135 #[.pointer (some ⟨g,0,none⟩),.int .u16 b] w fun e w'=>e = .returned (.int .u16 0)/\RcvSt w0 w' g (X+1) (h+1) r:=by
 have e1:decide (x<=k0q x b)=true:=decide_eq_true zz1;have e3:decide (r-h<=(k0q x b-x) % 18446744073709551616)=false:=decide_eq_false zz1;have HS:=Ab s;clear s;go_enter Tryz.func135,Tryz.ntmps135
 go_wp2_with (go_at_call 134;(with_reducible refine (k1x g x h r b w0 w HS.out x0 x1).mono ?_);rintro e w2 ⟨rfl,hs2⟩;have HS2:=Ab hs2;have hc0:=hs2.c0;have hc1:=hs2.c1;have hc2:=hs2.c2;have hf0:=hs2.f0;have hf1:=hs2.f1;clear hs2)
 go_quiet (fail)
 go_wp2;go_ret;exact ⟨rfl,by rw [<- hX];first | exact ((HS2.out.drewN _).set0 _).set1 _ | exact (HS2.out.set0 _).set1 _⟩
theorem k70 (g:Nat) (x h r b:Int) (w0 w:World) (s:RcvSt w0 w g x h r) (x0:0<=x) (x1:x<=9000000000000000000) (h0:0<=h) (h1:h<=r) (h2:r<=8) (hs:k0q x b<=x\/x+(r-h)<k0q x b) :
 Calls Tryz.prog 99 #[.pointer (some ⟨g,0,none⟩),.int .u16 b] w fun e w'=>e = .returned (.bool false)/\RcvSt w0 w' g x h r:=by
 have hr:=k1W x b;have HS:=Ab s;clear s;by_cases c1:x<=k0q x b
 · have e1:decide (x<=k0q x b)=true:=decide_eq_true c1
   by_cases c2:(k0q x b-x) % 18446744073709551616=0
   · have e2:((k0q x b-x) % 18446744073709551616 == 0)=true:=by rw [c2];rfl
     clear hs c1 c2;go_enter Tryz.func99,Tryz.ntmps99
     go_wp2_with (go_at_call 134;(with_reducible refine (k1x g x h r b w0 w HS.out x0 x1).mono ?_);rintro e w2 ⟨rfl,hs2⟩;have HS2:=Ab hs2;have hc0:=hs2.c0;have hc1:=hs2.c1;have hc2:=hs2.c2;have hf0:=hs2.f0;have hf1:=hs2.f1;clear hs2)
     go_quiet (fail)
     go_wp2;exact zz31
   · have e2:((k0q x b-x) % 18446744073709551616 == 0)=false:=beq_eq_false_iff_ne.mpr c2
     have e3:decide (r-h<(k0q x b-x) % 18446744073709551616)=true:=decide_eq_true zz1;clear hs c1 c2;go_enter Tryz.func99,Tryz.ntmps99
     go_wp2_with (go_at_call 134;(with_reducible refine (k1x g x h r b w0 w HS.out x0 x1).mono ?_);rintro e w2 ⟨rfl,hs2⟩;have HS2:=Ab hs2;have hc0:=hs2.c0;have hc1:=hs2.c1;have hc2:=hs2.c2;have hf0:=hs2.f0;have hf1:=hs2.f1;clear hs2)
     go_quiet (fail)
     go_wp2;exact zz31
 · have e1:decide (x<=k0q x b)=false:=decide_eq_false c1
   clear hs c1;go_enter Tryz.func99,Tryz.ntmps99
   go_wp2_with (go_at_call 134;(with_reducible refine (k1x g x h r b w0 w HS.out x0 x1).mono ?_);rintro e w2 ⟨rfl,hs2⟩;have HS2:=Ab hs2;have hc0:=hs2.c0;have hc1:=hs2.c1;have hc2:=hs2.c2;have hf0:=hs2.f0;have hf1:=hs2.f1;clear hs2)
   go_quiet (fail)
   go_wp2;exact zz31
theorem k6u (X:Int) (g:Nat) (x h r b:Int) (w0 w:World) (s:RcvSt w0 w g x h r) (x0:0<=x) (x1:x<=9000000000000000000) (h0:0<=h) (h1:h<=r) (h2:r<=8) (hX:k0q x b=X) (hs:x<X) (ht:X<=x+(r-h)) :
 Calls Tryz.prog 99 #[.pointer (some ⟨g,0,none⟩),.int .u16 b] w fun e w'=>e = .returned (.bool true)/\RcvSt w0 w' g X h r:=by
 have hr:=k1W x b;have e1:decide (x<=k0q x b)=true:=decide_eq_true zz1;have e2:((k0q x b-x) % 18446744073709551616 == 0)=false:=beq_eq_false_iff_ne.mpr zz1;have e3:decide (r-h<(k0q x b-x) % 18446744073709551616)=false:=decide_eq_false zz1;have HS:=Ab s;clear s;have HX:=Ab hX;clear hX hs ht;go_enter Tryz.func99,Tryz.ntmps99
 go_wp2_with (go_at_call 134;(with_reducible refine (k1x g x h r b w0 w HS.out x0 x1).mono ?_);rintro e w2 ⟨rfl,hs2⟩;have HS2:=Ab hs2;have hc0:=hs2.c0;have hc1:=hs2.c1;have hc2:=hs2.c2;have hf0:=hs2.f0;have hf1:=hs2.f1;clear hs2)
 go_quiet (fail)
 go_wp2;go_ret;exact ⟨rfl,by rw [<- HX.out];first | exact (HS2.out.drewN _).set0 _ | exact HS2.out.set0 _⟩
end Go.Proofs.YtdopmlopafgonaaGreatDoor.Own
