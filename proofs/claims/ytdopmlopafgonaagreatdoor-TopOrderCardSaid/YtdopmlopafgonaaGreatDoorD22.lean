/- TopOrder: of each flow what came is some of what was injected, in its order (a part of the walks and of the plain laws). -/
import Derived.Test.YtdopmlopafgonaaGreatDoorD0
import Derived.Test.YtdopmlopafgonaaGreatDoorD20
import Derived.Test.YtdopmlopafgonaaGreatDoorD21
import Derived.Laws.BitsAllLaws
set_option linter.unusedVariables false
set_option linter.unusedSimpArgs false
set_option maxHeartbeats 4000000
set_option maxRecDepth 100000
namespace Go.Proofs.YtdopmlopafgonaaGreatDoor.Wire
open Go.RowKit Go.Proofs.Ytamaemlhnkabcaa.Crc Go.Proofs.YtdopmlopafgonaaGreatDoorW.PrintWords Go.Proofs.YtdopmlopafgonaaGreatDoorW.PrintLast Go.Proofs.YtdopmlopafgonaaGreatDoorW.PrintMore
open Go.Proofs.YtdopmlopafgonaaGreatDoor.Own
theorem w16(n:Int):IntKind.u16.wrap n=n % 65536:=by simp[IntKind.wrap,IntKind.bits,IntKind.signed]
theorem w32(n:Int):IntKind.u32.wrap n=n % 4294967296:=by simp[IntKind.wrap,IntKind.bits,IntKind.signed]
theorem lo8{a:Int}(h:(Lit.int .u8 a).wf=true):0<=a/\a<=255:=by
 simp[Lit.wf,IntKind.min,IntKind.max,IntKind.bits,IntKind.signed]at h;exact zz1
def nat(l:List Int):List Nat:=l.map Int.toNat
def crcI(l:List Int):Int:=(crc (nat l):Nat)
def Oct(l:List Int):Prop:=∀x∈l,(Lit.int .u8 x).wf=true
theorem Oct.bytes{l:List Int}(h:Oct l):k8k (nat l):=by
 intro x hx;obtain⟨y,hy,rfl⟩:=List.mem_map.1 hx;have:=lo8 (h y hy);exact zz1
theorem Oct.getD{l:List Int}(h:Oct l)(k:Nat):0<=l.getD k 0/\l.getD k 0<=255:=by
 rw[List.getD_eq_getElem?_getD];by_cases hk:k<l.length
 ·rw[List.getElem?_eq_getElem hk]
  exact lo8 (h _ (List.getElem_mem hk))
 ·rw[List.getElem?_eq_none zz1]
  simp
theorem k0y{l:List Int}(h:Oct l):0<=crcI l/\crcI l<=65535:=by
 have:=kam (r:=65535) zz1 h.bytes;unfold crcI crc;exact zz1
def Reg(w0 w:World)(g:Nat)(r:Nat):Prop:=w.heap[g]? = some (.cells #[.int .u16 (r:Int)] 244 (0,0))/\w0.heap.size<=g/\Below w0.heap.size w0 w
theorem Reg.set{w0 w:World}{g r:Nat}(h:Reg w0 w g r)(q:Nat)(x:Int)(hx:x=q):Reg w0 (w.setCell ⟨g,0,none⟩ (.int .u16 x)) g q:=by
 subst hx;exact⟨by simpa using k05 h.1 0 (.int .u16 (q:Int)),h.2.1,h.2.2.setCell h.2.1 _⟩
theorem Reg.cell{w0 w:World}{g r:Nat}(h:Reg w0 w g r):w.cell? ⟨g,0,none⟩=some (.int .u16 (r:Int)):=(k00 h.1 0).trans rfl
theorem Reg.free{w0 w:World}{g r:Nat}(h:Reg w0 w g r):w.frozen? ⟨g,0,none⟩=false:=k02 h.1 0
theorem kar{r:Nat}(h:r<65536):bits .and .u16 (r:Int) 32768=if 32768<=r then 32768 else 0:=by
 rw[show(32768:Int)=((32768:Nat):Int) from rfl,u16_and_nat r 32768 h zz1];by_cases c:32768<=r
 ·rw[if_pos c]
  congr 1;apply Nat.eq_of_testBit_eq;intro i;rw[Nat.testBit_and,show(32768:Nat)=2 ^ 15 from rfl,Nat.testBit_two_pow];by_cases hi:15=i
  ·subst hi;simp[(k6c h).1 c]
  ·simp[hi]
 ·rw[if_neg c]
  have:r &&& 32768=0:=by
   apply Nat.eq_of_testBit_eq;intro i;rw[Nat.testBit_and,show(32768:Nat)=2 ^ 15 from rfl,Nat.testBit_two_pow];by_cases hi:15=i
   ·subst hi
    have:r.testBit 15=false:=by
     rcases hb:r.testBit 15 with _|_
     ·rfl
     ·exact absurd ((k6c h).2 hb) c
    simp[this]
   ·simp[hi]
  rw[this];rfl
theorem kcZ{r:Nat}(h:r<65536)(c:32768<=r):bits .xor .u16 (IntKind.u16.wrap ((r:Int)*2)) 4129=((sh r:Nat):Int):=by
 rw[w16,show(r:Int)*2 % 65536=((r*2 % 65536:Nat):Int) by omega,show(4129:Int)=((4129:Nat):Int) from rfl,u16_xor_nat _ _ zz1 zz1];unfold sh;rw[if_pos c]
theorem kbe{r:Nat}(c:¬32768<=r):IntKind.u16.wrap ((r:Int)*2)=((sh r:Nat):Int):=by
 rw[w16];unfold sh;rw[if_neg c];exact zz1
theorem k7v(g r:Nat)(w0 w:World)(s:Reg w0 w g r)(h:r<65536) :
 Calls Tryz.prog 166 #[.pointer (some ⟨g,0,none⟩)] w fun e w'=>e=.returned (.tuple #[])/\Reg w0 w' g (sh r):=by
 have S:=Ab s;have HL:=Ab h;have hc:=s.cell;have hf:=s.free;clear s;by_cases c:32768<=r
 ·have e1:(bits .and .u16 (r:Int) 32768 != 0)=true:=by rw[kar h,if_pos c];rfl
  have E2:=Ab (kcZ h c);clear c h;go_enter Tryz.func166,Tryz.ntmps166;go_wp2;go_end0;exact⟨rfl,(S.1.set (r*2 % 65536) _ (by rw[w16];omega)).set _ _ E2.1⟩
 ·have e1:(bits .and .u16 (r:Int) 32768 != 0)=false:=by rw[kar h,if_neg c];rfl
  have E2:=Ab (kbe c);clear c h;go_enter Tryz.func166,Tryz.ntmps166;go_wp2;go_end0;exact⟨rfl,S.1.set _ _ E2.1⟩
theorem k3C(g r:Nat)(c:Nat)(w0 w:World)(s:Reg w0 w g r)(h:r<65536)(hc:c<256) :
 Calls Tryz.prog 143 #[.pointer (some ⟨g,0,none⟩),.int .u8 (c:Int)] w fun e w'=>e=.returned (.tuple #[])/\Reg w0 w' g (tk r c):=by
 have S:=Ab s;have hl:=s.cell;have hf:=s.free;have HX:k07 (bits .xor .u16 (r:Int) ((c:Int)*256)=((shn 0 (r ^^^ c*256):Nat):Int)):=Ab (by
  have:=u16_xor_nat r (c*256) h (k2o hc);rw[Int.natCast_mul]at this;exact this)
 have HL:=Ab (k3c h (k2o hc));have c0:0<=(c:Int):=zz1
 have c1:(c:Int)<=255:=zz1
 clear s h hc;go_enter Tryz.func143,Tryz.ntmps143
 go_wp2_with fail
 go_loopw [12] (fun i wr=>∃k:Nat,k<=8/\i=.int .i64 k/\Reg w0 wr g (shn k (r ^^^ c*256))) (fun i _=>8-(intOf i).toNat)
 case atStart=>exact⟨0,zz1,rfl,S.1.set _ _ HX.1⟩
 case round=>
  obtain⟨k,hk,rfl,hS⟩:=hrel;have S1:=Ab hS;clear hS S hl hf;by_cases hlt:k<8
  ·go_wp2_with fail
   refine(k7v g _ w0 _ S1.1 (k87 k HL.1)).mono ?_;rintro e w2 ⟨rfl,hS⟩;have S2:=Ab hS;clear hS;go_wp2
   go_roundw
   case rel=>exact⟨k+1,zz1,by go_num,S2.1⟩
   case measure=>simp[intOf];omega
  ·obtain rfl:k=8:=by omega
   go_wp2;go_end0;exact⟨rfl,S1.1⟩
theorem k6d(l:List Int)(k:Nat)(hk:k<l.length):nat (l.take (k+1))=nat (l.take k)++[(l.getD k 0).toNat]:=by
 unfold nat;rw[List.take_succ_eq_append_getElem hk,List.map_append,List.getD_eq_getElem?_getD,List.getElem?_eq_getElem hk];rfl
theorem kaC(r:Nat)(l:List Int)(k:Nat)(hk:k<l.length):run r (nat (l.take (k+1)))=tk (run r (nat (l.take k))) (l.getD k 0).toNat:=by
 rw[k6d l k hk,k59,k1q,k7G]
theorem Oct.take{l:List Int}(h:Oct l)(k:Nat):Oct (l.take k):=fun x hx=>h x (List.mem_of_mem_take hx)
theorem kbx(ad:Addr)(cap:Nat)(l:List Int)(w:World)(hr:ReadsInt w .u8 (some ad) l.length l)(ho:Oct l) :
 Calls Tryz.prog 119 #[.slice (some ad) l.length cap] w fun e w'=>e=.returned (.int .u16 (crcI l))/\Below w.heap.size w w':=by
 have HR:=Ab hr;have HO:=Ab ho;have hm:=hr.2.1;clear hr ho;go_enter Tryz.func119,Tryz.ntmps119
 go_wp2_with fail
 go_loopw [8] (fun i wr=>∃k:Nat,k<=l.length/\i=.int .i64 k/\Reg w wr w.heap.size (run 65535 (nat (l.take k)))) (fun i _=>l.length-(intOf i).toNat)
 case atStart=>exact⟨0,zz1,rfl,by
  rw[show nat (l.take 0)=[] from rfl,k7G];refine⟨?_,Nat.le_refl _,?_⟩
  ·exact zz86
  ·first|exact k0f (Below.refl _ _) _|exact(k0f (Below.refl _ _) _).setCell (Nat.le_refl _) _⟩
 case round=>
  obtain⟨k,hk,rfl,hS⟩:=hrel;have S1:=Ab hS;clear hS;by_cases hlt:k<l.length
  ·obtain⟨ad',e,hcs⟩:=HR.1.2.2 zz1
   obtain rfl:=Option.some.inj e;have hz:=k01 S1.1.2.2 (hcs k hlt);have hb:=HO.1.getD k;have SN:=Ab (kaC 65535 l k hlt);clear hcs;obtain⟨z,rz⟩:∃z:Nat,l.getD k 0=(z:Int):=⟨(l.getD k 0).toNat,zz1⟩;rw[rz]at hz hb SN;have hzl:z<256:=by omega
   clear rz hb
   go_wp2_with fail
   refine(k3C w.heap.size _ z w _ S1.1 (kam zz1 (HO.1.take k).bytes) hzl).mono ?_;rintro e w2 ⟨rfl,hS⟩;have S2:=Ab hS;clear hS;go_wp2
   go_roundw
   case rel=>exact⟨k+1,zz1,by go_num,by rw[SN.1,Int.toNat_natCast];exact S2.1⟩
   case measure=>simp[intOf];omega
  ·have hc:=S1.1.cell
   go_wp2;go_ret;exact⟨by rw[List.take_of_length_le zz1];rfl,S1.1.2.2⟩
theorem kaz(cap:Nat)(w:World) :
 Calls Tryz.prog 119 #[.slice none 0 cap] w fun e w'=>e=.returned (.int .u16 65535)/\Below w.heap.size w w':=by
 go_enter Tryz.func119,Tryz.ntmps119
 go_wp2_with fail
 go_loopw [8] (fun i wr=>i=.int .i64 0/\Reg w wr w.heap.size 65535) (fun _ _=>0)
 case atStart=>exact⟨rfl,by
  refine⟨?_,Nat.le_refl _,?_⟩
  ·exact zz86
  ·first|exact k0f (Below.refl _ _) _|exact(k0f (Below.refl _ _) _).setCell (Nat.le_refl _) _⟩
 case round=>
  obtain⟨rfl,hS⟩:=hrel;have S1:=Ab hS;have hc:=hS.cell;clear hS;go_wp2;go_ret;exact⟨rfl,S1.1.2.2⟩
theorem k1h(a:Option Addr)(cap:Nat)(l:List Int)(w:World)(hr:ReadsInt w .u8 a l.length l)(ho:Oct l) :
 Calls Tryz.prog 119 #[.slice a l.length cap] w fun e w'=>e=.returned (.int .u16 (crcI l))/\Below w.heap.size w w':=by
 cases a with
 |some ad=>exact kbx ad cap l w hr ho
 |none=>
  have h0:l.length=0:=by
   rcases Nat.eq_zero_or_pos l.length with h|h
   ·exact h
   ·obtain⟨_,h,_⟩:=hr.2.2 h;cases h
  obtain rfl:=List.eq_nil_of_length_eq_zero h0;exact kaz cap w
end Go.Proofs.YtdopmlopafgonaaGreatDoor.Wire
