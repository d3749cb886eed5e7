/- TopOrder: of each flow what came is some of what was injected, in its order (a part of the walks and of the plain laws). -/
import Derived.Test.YtdopmlopafgonaaGreatDoorD0
set_option linter.unusedVariables false
set_option linter.unusedSimpArgs false
set_option maxHeartbeats 4000000
set_option maxRecDepth 100000
namespace Go.Proofs.Ytamaemlhnkabcaa.Crc
open Go.Proofs.YtdopmlopafgonaaGreatDoor.Own
def sh(r:Nat):Nat:=if 32768<=r then(r*2 % 65536) ^^^ 4129 else r*2
def shn:Nat->Nat->Nat
 |0,r=>r
 |k+1,r=>sh (shn k r)
def tk(r c:Nat):Nat:=shn 8 (r ^^^ (c*256))
def run(r:Nat)(l:List Nat):Nat:=l.foldl tk r
def crc(l:List Nat):Nat:=run 65535 l
theorem xlc(a b c:Nat):a ^^^ (b ^^^ c)=b ^^^ (a ^^^ c):=by rw[<- Nat.xor_assoc,Nat.xor_comm a b,Nat.xor_assoc]
theorem k6K{r x y:Nat}(h:r ^^^ x=r ^^^ y):x=y:=by
 have h3:r ^^^ (r ^^^ x)=r ^^^ (r ^^^ y):=by rw[h]
 rwa [<- Nat.xor_assoc,<- Nat.xor_assoc,Nat.xor_self,Nat.zero_xor,Nat.zero_xor]at h3
theorem k3c{a b:Nat}(ha:a<65536)(hb:b<65536):a ^^^ b<65536:=Nat.xor_lt_two_pow (n:=16) ha hb
theorem sh_lt{r:Nat}(h:r<65536):sh r<65536:=by
 unfold sh;split
 ·exact k3c zz1 zz1
 ·exact zz1
theorem k87{r:Nat}(k:Nat)(h:r<65536):shn k r<65536:=by
 induction k with
 |zero=>exact h
 |succ k ih=>exact sh_lt ih
theorem k2o{c:Nat}(h:c<256):c*256<65536:=by omega
theorem k8S{r c:Nat}(h:r<65536)(hc:c<256):tk r c<65536:=k87 8 (k3c h (k2o hc))
theorem k6c{r:Nat}(h:r<65536):32768<=r ↔ r.testBit 15=true:=by
 constructor
 ·intro h1
  rw[Nat.testBit_eq_decide_div_mod_eq];exact zz84
 ·intro h1
  have:=Nat.ge_two_pow_of_testBit h1;exact zz1
theorem kct(a b:Nat):(a ^^^ b)*2 % 65536=(a*2 % 65536) ^^^ (b*2 % 65536):=by
 apply Nat.eq_of_testBit_eq;intro i;rw[Nat.testBit_xor,show(65536:Nat)=2 ^ 16 from rfl,Nat.testBit_mod_two_pow,Nat.testBit_mod_two_pow,Nat.testBit_mod_two_pow];have e:∀x:Nat,x*2=x <<< 1:=fun x=>by rw[Nat.shiftLeft_eq]
 rw[e,e,e,Nat.testBit_shiftLeft,Nat.testBit_shiftLeft,Nat.testBit_shiftLeft,Nat.testBit_xor];cases decide (i<16)<;>cases decide (i ≥ 1)<;>simp
theorem kcj{r:Nat}(h:r<65536):sh r=(r*2 % 65536) ^^^ (if r.testBit 15 then 4129 else 0):=by
 unfold sh;by_cases c:32768<=r
 ·rw[if_pos c,if_pos ((k6c h).1 c)]
 ·rw[if_neg c,if_neg (fun k=>c ((k6c h).2 k)),Nat.xor_zero]
  omega
theorem kdw{a b:Nat}(ha:a<65536)(hb:b<65536):sh (a ^^^ b)=sh a ^^^ sh b:=by
 rw[kcj ha,kcj hb,kcj (k3c ha hb),kct,Nat.testBit_xor];generalize a*2 % 65536=x;generalize b*2 % 65536=y;cases a.testBit 15<;>cases b.testBit 15<;>simp only[Bool.bne_true,Bool.bne_false,Bool.not_true,Bool.not_false,Bool.false_eq_true,if_false,if_true,Nat.xor_zero]
 ·rw[Nat.xor_assoc]
 ·rw[Nat.xor_assoc,Nat.xor_assoc,Nat.xor_comm y]
 ·rw[Nat.xor_assoc,xlc 4129,Nat.xor_self,Nat.xor_zero]
theorem k9Y{a b:Nat}(k:Nat)(ha:a<65536)(hb:b<65536):shn k (a ^^^ b)=shn k a ^^^ shn k b:=by
 induction k with
 |zero=>rfl
 |succ k ih=>
  show sh (shn k (a ^^^ b))=sh (shn k a) ^^^ sh (shn k b);rw[ih,kdw (k87 k ha) (k87 k hb)]
theorem k4L{a b:Nat}(h:a ^^^ b=0):a=b:=by
 have h1:(a ^^^ b) ^^^ b=b:=by rw[h,Nat.zero_xor]
 rwa [Nat.xor_assoc,Nat.xor_self,Nat.xor_zero]at h1
theorem kcz{r:Nat}(hz:sh r=0):r=0:=by
 unfold sh at hz;split at hz
 ·have:=k4L hz
  omega
 ·exact zz1
theorem kaN{r:Nat}(k:Nat)(hz:shn k r=0):r=0:=by
 induction k with
 |zero=>exact hz
 |succ k ih=>exact ih (kcz hz)
theorem kad{a b:Nat}(k:Nat)(ha:a<65536)(hb:b<65536)(h:shn k a=shn k b):a=b:=by
 apply k4L;apply kaN k;rw[k9Y k ha hb,h,Nat.xor_self]
theorem kbZ(j k r:Nat):shn j (shn k r)=shn (j+k) r:=by
 induction j with
 |zero=>rw[Nat.zero_add];rfl
 |succ j ih=>rw[show j+1+k=(j+k)+1 by omega];show sh (shn j (shn k r))=sh (shn (j+k) r);rw[ih]
theorem k9F{c:Nat}(hc:c<256):shn 8 c=c*256:=by
 have step:∀x,x<32768->sh x=x*2:=fun x hx=>by unfold sh;rw[if_neg zz1]
 show sh (sh (sh (sh (sh (sh (sh (sh c)))))))=c*256;rw[step c zz1,step (c*2) zz1,step (c*2*2) zz1,step (c*2*2*2) zz1,step (c*2*2*2*2) zz1,step (c*2*2*2*2*2) zz1,step (c*2*2*2*2*2*2) zz1,step (c*2*2*2*2*2*2*2) zz1];exact zz1
theorem k8B{r s c:Nat}(hr:r<65536)(hs:s<65536)(hc:c<256)(h:tk r c=tk s c):r=s:=by
 have h1:=kad 8 (k3c hr (k2o hc)) (k3c hs (k2o hc)) h;have h2:(r ^^^ c*256) ^^^ (c*256)=(s ^^^ c*256) ^^^ (c*256):=by rw[h1]
 rwa [Nat.xor_assoc,Nat.xor_assoc,Nat.xor_self,Nat.xor_zero,Nat.xor_zero]at h2
theorem k7w{r c d:Nat}(hr:r<65536)(hc:c<256)(hd:d<256)(h:tk r c=tk r d):c=d:=by
 have h1:=kad 8 (k3c hr (k2o hc)) (k3c hr (k2o hd)) h;have h2:=k6K h1;exact zz1
theorem kda{r c d:Nat}(hr:r<65536)(hc:c<256)(hd:d<256):tk (tk r c) d=shn 16 ((r ^^^ c*256) ^^^ d):=by
 have e:tk (tk r c) d=shn 8 (shn 8 (r ^^^ c*256) ^^^ shn 8 d):=by
  rw[k9F hd];rfl
 rw[e,<- k9Y 8 (k3c hr (k2o hc)) zz1,kbZ]
theorem k8z(a:Nat):(a / 256*256) ^^^ (a % 256)=a:=by
 apply Nat.eq_of_testBit_eq;intro i;rw[Nat.testBit_xor,show(256:Nat)=2 ^ 8 from rfl,Nat.testBit_mod_two_pow,<- Nat.shiftLeft_eq,<- Nat.shiftRight_eq_div_pow,Nat.testBit_shiftLeft,Nat.testBit_shiftRight];by_cases h:i<8
 ·simp[h,show ¬(8<=i) by omega]
 ·have:8+(i-8)=i:=by omega
  simp[h,show 8<=i by omega,this]
theorem kc8{r a:Nat}(hr:r<65536)(ha:a<65536):tk (tk r (a / 256)) (a % 256)=shn 16 (r ^^^ a):=by
 rw[kda hr zz1 zz1,Nat.xor_assoc,k8z a]
def k8k(l:List Nat):Prop:=∀x∈l,x<256
theorem k7G(r:Nat):run r []=r:=by unfold run;rw[List.foldl_nil]
theorem k1q(r c:Nat)(l:List Nat):run r (c :: l)=run (tk r c) l:=by unfold run;rw[List.foldl_cons]
theorem kam{r:Nat}{l:List Nat}(h:r<65536)(hl:k8k l):run r l<65536:=by
 induction l generalizing r with
 |nil=>exact h
 |cons c l ih=>
  rw[k1q];exact ih (k8S h (hl c zz6)) (fun x hx=>hl x (by simp[hx]))
theorem k59(r:Nat)(l m:List Nat):run r (l++m)=run (run r l) m:=List.foldl_append ..
theorem kcv{r s:Nat}{l:List Nat}(hr:r<65536)(hs:s<65536)(hl:k8k l)(h:run r l=run s l):r=s:=by
 induction l generalizing r s with
 |nil=>exact h
 |cons c l ih=>
  have hc:=hl c zz6;rw[k1q,k1q]at h;exact k8B hr hs hc (ih (k8S hr hc) (k8S hs hc) (fun x hx=>hl x (by simp[hx])) h)
theorem kcG{r k:Nat}{l:List Nat}{y:Nat}(hr:r<65536)(hl:k8k l)(hk:k<l.length)(hy:y<256)(h:run r (l.set k y)=run r l):y=l[k]:=by
 induction l generalizing r k with
 |nil=>simp at hk
 |cons c l ih=>
  have hc:=hl c zz6;have hl':k8k l:=fun x hx=>hl x (by simp[hx])
  cases k with
  |zero=>
   rw[List.set_cons_zero,k1q,k1q]at h;exact k7w hr hy hc (kcv (k8S hr hy) (k8S hr hc) hl' h)
  |succ k=>
   rw[List.set_cons_succ,k1q,k1q]at h;exact ih (k8S hr hc) hl' (by simpa using hk) h
theorem kbm{r a:Nat}(hr:r<65536)(ha:a<65536):run r [a / 256,a % 256]=shn 16 (r ^^^ a):=by
 rw[k1q,k1q,k7G,kc8 hr ha]
theorem kaF{l:List Nat}(hl:k8k l):crc (l++[crc l / 256,crc l % 256])=0:=by
 have h:=kam (r:=65535) zz1 hl;unfold crc;rw[k59,kbm h h,Nat.xor_self];exact zz7
end Go.Proofs.Ytamaemlhnkabcaa.Crc
