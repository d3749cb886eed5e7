/- TopQuick: one packet alone is brought from host to host (a part of the walks and of the plain laws). -/
import Derived.Test.YtdopmlopafgonaaGreatDoorC0
set_option linter.unusedVariables false
set_option linter.unusedSimpArgs false
set_option maxHeartbeats 4000000
set_option maxRecDepth 100000
namespace Go.Proofs.Ytamaemlhnkabcaa.Crc
open Go.Proofs.YtdopmlopafgonaaGreatDoor.Own
def sh (r:Nat):Nat:=if 32768<=r then (r*2 % 65536) ^^^ 4129 else r*2
def shn:Nat->Nat->Nat
 | 0,r=>r
 | k+1,r=>sh (shn k r)
def tk (r c:Nat):Nat:=shn 8 (r ^^^ (c*256))
def run (r:Nat) (l:List Nat):Nat:=l.foldl tk r
def crc (l:List Nat):Nat:=run 65535 l
theorem xlc (a b c:Nat):a ^^^ (b ^^^ c)=b ^^^ (a ^^^ c):=by rw [<- Nat.xor_assoc,Nat.xor_comm a b,Nat.xor_assoc]
theorem k6q {r x y:Nat} (h:r ^^^ x=r ^^^ y):x=y:=by
 have h3:r ^^^ (r ^^^ x)=r ^^^ (r ^^^ y):=by rw [h]
 rwa [<- Nat.xor_assoc,<- Nat.xor_assoc,Nat.xor_self,Nat.zero_xor,Nat.zero_xor] at h3
theorem k34 {a b:Nat} (ha:a<65536) (hb:b<65536):a ^^^ b<65536:=Nat.xor_lt_two_pow (n:=16) ha hb
theorem sh_lt {r:Nat} (h:r<65536):sh r<65536:=by
 unfold sh;split
 · exact k34 zz1 zz1
 · exact zz1
theorem k7l {r:Nat} (k:Nat) (h:r<65536):shn k r<65536:=by
 induction k with
 | zero=>exact h
 | succ k ih=>exact sh_lt ih
theorem k2c {c:Nat} (h:c<256):c*256<65536:=by omega
theorem k8p {r c:Nat} (h:r<65536) (hc:c<256):tk r c<65536:=k7l 8 (k34 h (k2c hc))
theorem k5t {r:Nat} (h:r<65536):32768<=r ↔ r.testBit 15=true:=by
 constructor
 · intro h1
   rw [Nat.testBit_eq_decide_div_mod_eq];simp;exact zz1
 · intro h1
   have:=Nat.ge_two_pow_of_testBit h1;exact zz1
theorem kbG (a b:Nat):(a ^^^ b)*2 % 65536=(a*2 % 65536) ^^^ (b*2 % 65536):=by
 apply Nat.eq_of_testBit_eq;intro i;rw [Nat.testBit_xor,show (65536:Nat)=2 ^ 16 from rfl,Nat.testBit_mod_two_pow,Nat.testBit_mod_two_pow,Nat.testBit_mod_two_pow];have e:∀ x:Nat,x*2=x <<< 1:=fun x=>by rw [Nat.shiftLeft_eq]
 rw [e,e,e,Nat.testBit_shiftLeft,Nat.testBit_shiftLeft,Nat.testBit_shiftLeft,Nat.testBit_xor];cases decide (i<16) <;> cases decide (i ≥ 1) <;> simp
theorem kbN {r:Nat} (h:r<65536):sh r=(r*2 % 65536) ^^^ (if r.testBit 15 then 4129 else 0):=by
 unfold sh;by_cases c:32768<=r
 · rw [if_pos c,if_pos ((k5t h).1 c)]
 · rw [if_neg c,if_neg (fun k=>c ((k5t h).2 k)),Nat.xor_zero]
   omega
theorem kcn {a b:Nat} (ha:a<65536) (hb:b<65536):sh (a ^^^ b)=sh a ^^^ sh b:=by
 rw [kbN ha,kbN hb,kbN (k34 ha hb),kbG,Nat.testBit_xor];generalize a*2 % 65536=x;generalize b*2 % 65536=y;cases a.testBit 15 <;> cases b.testBit 15 <;> simp only [Bool.bne_true,Bool.bne_false,Bool.not_true,Bool.not_false,Bool.false_eq_true,if_false,if_true,Nat.xor_zero]
 · rw [Nat.xor_assoc]
 · rw [Nat.xor_assoc,Nat.xor_assoc,Nat.xor_comm y]
 · rw [Nat.xor_assoc,xlc 4129,Nat.xor_self,Nat.xor_zero]
theorem k9j {a b:Nat} (k:Nat) (ha:a<65536) (hb:b<65536):shn k (a ^^^ b)=shn k a ^^^ shn k b:=by
 induction k with
 | zero=>rfl
 | succ k ih=>
   show sh (shn k (a ^^^ b))=sh (shn k a) ^^^ sh (shn k b);rw [ih,kcn (k7l k ha) (k7l k hb)]
theorem k4e {a b:Nat} (h:a ^^^ b=0):a=b:=by
 have h1:(a ^^^ b) ^^^ b=b:=by rw [h,Nat.zero_xor]
 rwa [Nat.xor_assoc,Nat.xor_self,Nat.xor_zero] at h1
theorem kbk {r:Nat} (hz:sh r=0):r=0:=by
 unfold sh at hz;split at hz
 · have:=k4e hz
   omega
 · exact zz1
theorem kaM {r:Nat} (k:Nat) (hz:shn k r=0):r=0:=by
 induction k with
 | zero=>exact hz
 | succ k ih=>exact ih (kbk hz)
theorem k8x {a b:Nat} (k:Nat) (ha:a<65536) (hb:b<65536) (h:shn k a=shn k b):a=b:=by
 apply k4e;apply kaM k;rw [k9j k ha hb,h,Nat.xor_self]
theorem kbf (j k r:Nat):shn j (shn k r)=shn (j+k) r:=by
 induction j with
 | zero=>rw [Nat.zero_add];rfl
 | succ j ih=>rw [show j+1+k=(j+k)+1 by omega];show sh (shn j (shn k r))=sh (shn (j+k) r);rw [ih]
theorem k95 {c:Nat} (hc:c<256):shn 8 c=c*256:=by
 have step:∀ x,x<32768->sh x=x*2:=fun x hx=>by unfold sh;rw [if_neg zz1]
 show sh (sh (sh (sh (sh (sh (sh (sh c)))))))=c*256;rw [step c zz1,step (c*2) zz1,step (c*2*2) zz1,step (c*2*2*2) zz1,step (c*2*2*2*2) zz1,step (c*2*2*2*2*2) zz1,step (c*2*2*2*2*2*2) zz1,step (c*2*2*2*2*2*2*2) zz1];exact zz1
theorem k7X {r s c:Nat} (hr:r<65536) (hs:s<65536) (hc:c<256) (h:tk r c=tk s c):r=s:=by
 have h1:=k8x 8 (k34 hr (k2c hc)) (k34 hs (k2c hc)) h;have h2:(r ^^^ c*256) ^^^ (c*256)=(s ^^^ c*256) ^^^ (c*256):=by rw [h1]
 rwa [Nat.xor_assoc,Nat.xor_assoc,Nat.xor_self,Nat.xor_zero,Nat.xor_zero] at h2
theorem k7a {r c d:Nat} (hr:r<65536) (hc:c<256) (hd:d<256) (h:tk r c=tk r d):c=d:=by
 have h1:=k8x 8 (k34 hr (k2c hc)) (k34 hr (k2c hd)) h;have h2:=k6q h1;exact zz1
theorem kci {r c d:Nat} (hr:r<65536) (hc:c<256) (hd:d<256):tk (tk r c) d=shn 16 ((r ^^^ c*256) ^^^ d):=by
 have e:tk (tk r c) d=shn 8 (shn 8 (r ^^^ c*256) ^^^ shn 8 d):=by
  rw [k95 hd];rfl
 rw [e,<- k9j 8 (k34 hr (k2c hc)) zz1,kbf]
theorem k7Q (a:Nat):(a / 256*256) ^^^ (a % 256)=a:=by
 apply Nat.eq_of_testBit_eq;intro i;rw [Nat.testBit_xor,show (256:Nat)=2 ^ 8 from rfl,Nat.testBit_mod_two_pow,<- Nat.shiftLeft_eq,<- Nat.shiftRight_eq_div_pow,Nat.testBit_shiftLeft,Nat.testBit_shiftRight];by_cases h:i<8
 · simp [h,show ¬ (8<=i) by omega]
 · have:8+(i-8)=i:=by omega
   simp [h,show 8<=i by omega,this]
theorem kbv {r a:Nat} (hr:r<65536) (ha:a<65536):tk (tk r (a / 256)) (a % 256)=shn 16 (r ^^^ a):=by
 rw [kci hr zz1 zz1,Nat.xor_assoc,k7Q a]
def k7U (l:List Nat):Prop:=∀ x∈l,x<256
theorem k77 (r:Nat):run r []=r:=by unfold run;rw [List.foldl_nil]
theorem k1l (r c:Nat) (l:List Nat):run r (c :: l)=run (tk r c) l:=by unfold run;rw [List.foldl_cons]
theorem k9B {r:Nat} {l:List Nat} (h:r<65536) (hl:k7U l):run r l<65536:=by
 induction l generalizing r with
 | nil=>exact h
 | cons c l ih=>
   rw [k1l];exact ih (k8p h (hl c zz17)) (fun x hx=>hl x (by simp [hx]))
theorem k4T (r:Nat) (l m:List Nat):run r (l++m)=run (run r l) m:=List.foldl_append ..
theorem kbm {r s:Nat} {l:List Nat} (hr:r<65536) (hs:s<65536) (hl:k7U l) (h:run r l=run s l):r=s:=by
 induction l generalizing r s with
 | nil=>exact h
 | cons c l ih=>
   have hc:=hl c zz17;rw [k1l,k1l] at h;exact k7X hr hs hc (ih (k8p hr hc) (k8p hs hc) (fun x hx=>hl x (by simp [hx])) h)
theorem kbA {r k:Nat} {l:List Nat} {y:Nat} (hr:r<65536) (hl:k7U l) (hk:k<l.length) (hy:y<256) (h:run r (l.set k y)=run r l):y=l[k]:=by
 induction l generalizing r k with
 | nil=>simp at hk
 | cons c l ih=>
   have hc:=hl c zz17;have hl':k7U l:=fun x hx=>hl x (by simp [hx])
   cases k with
   | zero=>
     rw [List.set_cons_zero,k1l,k1l] at h;exact k7a hr hy hc (kbm (k8p hr hy) (k8p hr hc) hl' h)
   | succ k=>
     rw [List.set_cons_succ,k1l,k1l] at h;exact ih (k8p hr hc) hl' (by simpa using hk) h
theorem kaq {r a:Nat} (hr:r<65536) (ha:a<65536):run r [a / 256,a % 256]=shn 16 (r ^^^ a):=by
 rw [k1l,k1l,k77,kbv hr ha]
theorem kak {l:List Nat} (hl:k7U l):crc (l++[crc l / 256,crc l % 256])=0:=by
 have h:=k9B (r:=65535) zz1 hl;unfold crc;rw [k4T,kaq h h,Nat.xor_self];exact zz8
end Go.Proofs.Ytamaemlhnkabcaa.Crc
