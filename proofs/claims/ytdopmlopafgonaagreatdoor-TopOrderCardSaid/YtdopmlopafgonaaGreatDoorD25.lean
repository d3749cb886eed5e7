/- TopOrder: of each flow what came is some of what was injected, in its order (a part of the walks and of the plain laws). -/
import Derived.Test.YtdopmlopafgonaaGreatDoorD0
import Derived.Test.YtdopmlopafgonaaGreatDoorD24
set_option linter.unusedVariables false
set_option linter.unusedSimpArgs false
set_option maxHeartbeats 4000000
set_option maxRecDepth 100000
namespace Go.Proofs.YtdopmlopafgonaaGreatDoor.Wire
open Go.RowKit Go.Proofs.Ytamaemlhnkabcaa.Crc Go.Proofs.YtdopmlopafgonaaGreatDoor.PTopQuick Go.Proofs.YtdopmlopafgonaaGreatDoorW.PrintWords Go.Proofs.YtdopmlopafgonaaGreatDoorW.PrintLast Go.Proofs.YtdopmlopafgonaaGreatDoorW.PrintMore
open Go.Proofs.YtdopmlopafgonaaGreatDoor.Own
def dec6(x0 x1 x2 x3 x4 x5:Int):Option Fr:=if crcI [x0,x1,x2,x3]=x4*256+x5/\¬x0=1/\Wire.sound x0 x1 0 0 0=true then some ⟨x0,x1,x2*256+x3,0,0,0⟩ else none
def kaR(x0 x1 x2 x3 x4 x5 x6 x7 x8 x9 x10 x11:Int):Option Fr:=if crcI [x0,x1,x2,x3,x4,x5,x6,x7,x8,x9]=x10*256+x11/\x0=1/\Wire.sound x0 x1 x4 x5 (x6*16777216+x7*65536+x8*256+x9)=true then some ⟨x0,x1,x2*256+x3,x4,x5,x6*16777216+x7*65536+x8*256+x9⟩ else none
def dec:List Int->Option Fr
 |[x0,x1,x2,x3,x4,x5]=>dec6 x0 x1 x2 x3 x4 x5
 |[x0,x1,x2,x3,x4,x5,x6,x7,x8,x9,x10,x11]=>kaR x0 x1 x2 x3 x4 x5 x6 x7 x8 x9 x10 x11
 |_=>none
theorem kbi{l:List Int}(h6:¬l.length=6)(h12:¬l.length=12):dec l=none:=by
 unfold dec;split
 ·exact absurd rfl h6
 ·exact absurd rfl h12
 ·rfl
def Fr.or(o:Option Fr):Fr:=o.getD Fr.zero
def code(o:Option Fr):Int:=if o.isSome=true then 0 else 30
theorem dec_calls(A:Option Addr)(c:Nat)(l:List Int)(w:World)(hr:ReadsInt w .u8 A l.length l)(hc:l.length<=c)(ho:Oct l) :
 Calls Tryz.prog 96 #[.slice A l.length c] w (Back w (Fr.or (dec l)) (code (dec l))):=by
 by_cases h6:l.length=6
 ·match l,h6 with
  |[x0,x1,x2,x3,x4,x5],_=>
   obtain⟨ad,rfl,_⟩:=hr.2.2 zz6;have g:∀k,0<=[x0,x1,x2,x3,x4,x5].getD k 0/\[x0,x1,x2,x3,x4,x5].getD k 0<=255:=ho.getD;by_cases hs:crcI [x0,x1,x2,x3]=x4*256+x5
   ·by_cases hx:x0=1
    ·have e:dec [x0,x1,x2,x3,x4,x5]=none:=if_neg (fun h=>h.2.1 hx)
     rw[e];exact k9s ad c x0 x1 x2 x3 x4 x5 w hr hc (g 0) (g 1) (g 2) (g 3) (g 4) (g 5) hs hx
    ·rcases hf:Wire.sound x0 x1 0 0 0 with _|_
     ·have e:dec [x0,x1,x2,x3,x4,x5]=none:=if_neg (fun h=>by rw[hf]at h;exact absurd h.2.2 zz7)
      rw[e];exact kbk ad c x0 x1 x2 x3 x4 x5 w hr hc (g 0) (g 1) (g 2) (g 3) (g 4) (g 5) hs hx hf
     ·have e:dec [x0,x1,x2,x3,x4,x5]=some ⟨x0,x1,x2*256+x3,0,0,0⟩:=if_pos ⟨hs,hx,hf⟩
      rw[e];exact kcL ad c x0 x1 x2 x3 x4 x5 w hr hc (g 0) (g 1) (g 2) (g 3) (g 4) (g 5) hs hx hf
   ·have e:dec [x0,x1,x2,x3,x4,x5]=none:=if_neg (fun h=>hs h.1)
    rw[e];exact kay ad c x0 x1 x2 x3 x4 x5 w hr hc (g 0) (g 1) (g 2) (g 3) (g 4) (g 5) hs
 ·by_cases h12:l.length=12
  ·match l,h12 with
   |[x0,x1,x2,x3,x4,x5,x6,x7,x8,x9,x10,x11],_=>
    obtain⟨ad,rfl,_⟩:=hr.2.2 zz6;have g:∀k,0<=[x0,x1,x2,x3,x4,x5,x6,x7,x8,x9,x10,x11].getD k 0/\[x0,x1,x2,x3,x4,x5,x6,x7,x8,x9,x10,x11].getD k 0<=255:=ho.getD;by_cases hs:crcI [x0,x1,x2,x3,x4,x5,x6,x7,x8,x9]=x10*256+x11
    ·by_cases hx:x0=1
     ·rcases hf:Wire.sound x0 x1 x4 x5 (x6*16777216+x7*65536+x8*256+x9) with _|_
      ·have e:dec [x0,x1,x2,x3,x4,x5,x6,x7,x8,x9,x10,x11]=none:=if_neg (fun h=>by rw[hf]at h;exact absurd h.2.2 zz7)
       rw[e];exact k9d ad c x0 x1 x2 x3 x4 x5 x6 x7 x8 x9 x10 x11 w hr hc (g 0) (g 1) (g 2) (g 3) (g 4) (g 5) (g 6) (g 7) (g 8) (g 9) (g 10) (g 11) hs hx hf
      ·have e:dec [x0,x1,x2,x3,x4,x5,x6,x7,x8,x9,x10,x11]=some ⟨x0,x1,x2*256+x3,x4,x5,x6*16777216+x7*65536+x8*256+x9⟩:=if_pos ⟨hs,hx,hf⟩
       rw[e];exact kaX ad c x0 x1 x2 x3 x4 x5 x6 x7 x8 x9 x10 x11 w hr hc (g 0) (g 1) (g 2) (g 3) (g 4) (g 5) (g 6) (g 7) (g 8) (g 9) (g 10) (g 11) hs hx hf
     ·have e:dec [x0,x1,x2,x3,x4,x5,x6,x7,x8,x9,x10,x11]=none:=if_neg (fun h=>hx h.2.1)
      rw[e];exact k8Q ad c x0 x1 x2 x3 x4 x5 x6 x7 x8 x9 x10 x11 w hr hc (g 0) (g 1) (g 2) (g 3) (g 4) (g 5) (g 6) (g 7) (g 8) (g 9) (g 10) (g 11) hs hx
    ·have e:dec [x0,x1,x2,x3,x4,x5,x6,x7,x8,x9,x10,x11]=none:=if_neg (fun h=>hs h.1)
     rw[e];exact k9g ad c x0 x1 x2 x3 x4 x5 x6 x7 x8 x9 x10 x11 w hr hc (g 0) (g 1) (g 2) (g 3) (g 4) (g 5) (g 6) (g 7) (g 8) (g 9) (g 10) (g 11) hs
  ·rw[kbi h6 h12]
   exact ka1 A l.length c w h6 h12 hr.2.1
end Go.Proofs.YtdopmlopafgonaaGreatDoor.Wire
namespace Go.Proofs.YtdopmlopafgonaaGreatDoor.Wire
open Go.RowKit Go.Proofs.Ytamaemlhnkabcaa.Crc Go.Proofs.YtdopmlopafgonaaGreatDoorW.PrintWords Go.Proofs.YtdopmlopafgonaaGreatDoorW.PrintLast Go.Proofs.YtdopmlopafgonaaGreatDoorW.PrintMore Go.Proofs.YtdopmlopafgonaaGreatDoor.PTopQuick
open Go.Proofs.YtdopmlopafgonaaGreatDoor.Own
theorem sound_iff{k l a b y:Int}:sound k l a b y=true ↔ l<3/\((k=1/\a<6/\b<6/\a≠b)\/((k=2\/k=3)/\a=0/\b=0/\y=0)):=by
 have hm:mx a b<6 ↔ a<6/\b<6:=by unfold mx;first|omega|(split<;>omega)
 unfold sound wire_Sound.f;by_cases h1:k=1
 ·subst h1
  by_cases h2:l<3
  ·by_cases h3:mx a b<6
   ·simp[h2,h3,hm.1 h3]
   ·have:¬(a<6/\b<6):=fun h=>h3 (hm.2 h)
    simp only[if_true,if_pos h2,if_neg h3,Option.getD_some];constructor
    ·intro h;cases h
    ·intro h;omega
  ·simp only[if_true,if_neg h2,Option.getD_some]
   constructor
   ·intro h;cases h
   ·intro h;omega
 ·by_cases h4:k=2
  ·subst h4
   by_cases h2:l<3
   ·simp[h2]
   ·simp[h2]
  ·by_cases h5:k=3
   ·subst h5
    by_cases h2:l<3
    ·simp[h2]
    ·simp[h2]
   ·simp[h1,h4,h5]
theorem bytes_len(F:Fr):F.bytes.length=if F.k=1 then 12 else 6:=by
 unfold Fr.bytes enc pre;split<;>rfl
theorem enc_fr(F:Fr)(w:World)(hw:F.wf)(hs:F.sound=true):Calls Tryz.prog 88 #[.agg #[.int .u8 F.k,.int .u8 F.l,.int .u16 F.s,.int .u8 F.a,.int .u8 F.b,.int .u32 F.y]] w (Enc w F.bytes):=by
 obtain⟨⟨k0,k1⟩,⟨l0,l1⟩,⟨s0,s1⟩,⟨a0,a1⟩,⟨b0,b1⟩,y0,y1⟩:=hw;by_cases hk:F.k=1
 ·exact kaV _ _ _ _ _ _ w k0 k1 l0 l1 s0 s1 a0 a1 b0 b1 y0 y1 hs hk
 ·exact k9k _ _ _ _ _ _ w k0 k1 l0 l1 s0 s1 a0 a1 b0 b1 y0 y1 hs hk
theorem dec_bytes{l:List Int}{F:Fr}(ho:Oct l)(h:dec l=some F):F.bytes=l/\F.wf/\F.sound=true:=by
 have g:=ho.getD;unfold dec at h;split at h
 next x0 x1 x2 x3 x4 x5=>
  have g0:0<=x0/\x0<=255:=g 0;have g1:0<=x1/\x1<=255:=g 1;have g2:0<=x2/\x2<=255:=g 2;have g3:0<=x3/\x3<=255:=g 3;have g4:0<=x4/\x4<=255:=g 4;have g5:0<=x5/\x5<=255:=g 5;unfold dec6 at h;split at h
  next hc=>
   obtain rfl:=Option.some.inj h;refine⟨?_,?_,hc.2.2⟩
   ·have e2:(x2*256+x3) / 256=x2:=by omega
    have e3:(x2*256+x3) % 256=x3:=zz1
    have e4:(x4*256+x5) / 256=x4:=zz1
    have e5:(x4*256+x5) % 256=x5:=zz1
    show enc x0 x1 (x2*256+x3) 0 0 0=_;unfold enc pre;rw[if_neg hc.2.1,e2,e3,List.append_nil];show[x0,x1,x2,x3]++[crcI [x0,x1,x2,x3] / 256,crcI [x0,x1,x2,x3] % 256]=_;rw[hc.1,e4,e5];rfl
   ·unfold Fr.wf;dsimp only;omega
  next=>cases h
 next x0 x1 x2 x3 x4 x5 x6 x7 x8 x9 x10 x11=>
  have g0:0<=x0/\x0<=255:=g 0;have g1:0<=x1/\x1<=255:=g 1;have g2:0<=x2/\x2<=255:=g 2;have g3:0<=x3/\x3<=255:=g 3;have g4:0<=x4/\x4<=255:=g 4;have g5:0<=x5/\x5<=255:=g 5;have g6:0<=x6/\x6<=255:=g 6;have g7:0<=x7/\x7<=255:=g 7;have g8:0<=x8/\x8<=255:=g 8;have g9:0<=x9/\x9<=255:=g 9;have g10:0<=x10/\x10<=255:=g 10;have g11:0<=x11/\x11<=255:=g 11;unfold kaR at h;split at h
  next hc=>
   obtain rfl:=Option.some.inj h;refine⟨?_,?_,hc.2.2⟩
   ·have e2:(x2*256+x3) / 256=x2:=by omega
    have e3:(x2*256+x3) % 256=x3:=zz1
    have e6:(x6*16777216+x7*65536+x8*256+x9) / 16777216=x6:=zz1
    have e7:(x6*16777216+x7*65536+x8*256+x9) / 65536 % 256=x7:=zz1
    have e8:(x6*16777216+x7*65536+x8*256+x9) / 256 % 256=x8:=zz1
    have e9:(x6*16777216+x7*65536+x8*256+x9) % 256=x9:=zz1
    have e10:(x10*256+x11) / 256=x10:=zz1
    have e11:(x10*256+x11) % 256=x11:=zz1
    show enc x0 x1 (x2*256+x3) x4 x5 (x6*16777216+x7*65536+x8*256+x9)=_;unfold enc pre;rw[if_pos hc.2.1,e2,e3,e6,e7,e8,e9];show[x0,x1,x2,x3,x4,x5,x6,x7,x8,x9]++[crcI [x0,x1,x2,x3,x4,x5,x6,x7,x8,x9] / 256,crcI [x0,x1,x2,x3,x4,x5,x6,x7,x8,x9] % 256]=_;rw[hc.1,e10,e11];rfl
   ·unfold Fr.wf;dsimp only;omega
  next=>cases h
 ·exact zz52
theorem k2R{F:Fr}(hk:¬F.k=1):F.bytes=[F.k,F.l,F.s / 256,F.s % 256]++[crcI [F.k,F.l,F.s / 256,F.s % 256] / 256,crcI [F.k,F.l,F.s / 256,F.s % 256] % 256]:=by
 unfold Fr.bytes enc pre;rw[if_neg hk,List.append_nil];rfl
theorem k3J{F:Fr}(hk:F.k=1):F.bytes=[F.k,F.l,F.s / 256,F.s % 256,F.a,F.b,F.y / 16777216,F.y / 65536 % 256,F.y / 256 % 256,F.y % 256]++[crcI [F.k,F.l,F.s / 256,F.s % 256,F.a,F.b,F.y / 16777216,F.y / 65536 % 256,F.y / 256 % 256,F.y % 256] / 256,crcI [F.k,F.l,F.s / 256,F.s % 256,F.a,F.b,F.y / 16777216,F.y / 65536 % 256,F.y / 256 % 256,F.y % 256] % 256]:=by
 unfold Fr.bytes enc pre;rw[if_pos hk];rfl
theorem k4N{F:Fr}(hw:F.wf):Oct [F.k,F.l,F.s / 256,F.s % 256]:=by
 obtain⟨⟨k0,k1⟩,⟨l0,l1⟩,⟨s0,s1⟩,⟨a0,a1⟩,⟨b0,b1⟩,y0,y1⟩:=hw;exact Oct.cons k0 k1 (Oct.cons l0 l1 (Oct.cons zz1 zz1 (Oct.cons zz1 zz1 Oct.nil)))
theorem k5Q{F:Fr}(hw:F.wf):Oct [F.k,F.l,F.s / 256,F.s % 256,F.a,F.b,F.y / 16777216,F.y / 65536 % 256,F.y / 256 % 256,F.y % 256]:=by
 obtain⟨⟨k0,k1⟩,⟨l0,l1⟩,⟨s0,s1⟩,⟨a0,a1⟩,⟨b0,b1⟩,y0,y1⟩:=hw;exact Oct.cons k0 k1 (Oct.cons l0 l1 (Oct.cons zz1 zz1 (Oct.cons zz1 zz1 (Oct.cons a0 a1 (Oct.cons b0 b1 (Oct.cons zz1 zz1 (Oct.cons zz1 zz1 (Oct.cons zz1 zz1 (Oct.cons zz1 zz1 Oct.nil)))))))))
theorem k6Z{l:List Int}(ho:Oct l):Oct (l++[crcI l / 256,crcI l % 256]):=by
 obtain⟨h0,h1⟩:=k0y ho;exact ho.append (Oct.two zz1 zz1 zz1 zz1)
theorem oct_bytes{F:Fr}(hw:F.wf):Oct F.bytes:=by
 by_cases hk:F.k=1
 ·rw[k3J hk];exact k6Z (k5Q hw)
 ·rw[k2R hk];exact k6Z (k4N hw)
theorem dec_enc{F:Fr}(hw:F.wf)(hs:F.sound=true):dec F.bytes=some F:=by
 have hS:=sound_iff.1 hs;by_cases hk:F.k=1
 ·rw[k3J hk]
  obtain⟨h0,h1⟩:=k0y (k5Q hw);generalize hc:crcI [F.k,F.l,F.s / 256,F.s % 256,F.a,F.b,F.y / 16777216,F.y / 65536 % 256,F.y / 256 % 256,F.y % 256]=c at h0 h1 ⊢;show kaR F.k F.l (F.s / 256) (F.s % 256) F.a F.b (F.y / 16777216) (F.y / 65536 % 256) (F.y / 256 % 256) (F.y % 256) (c / 256) (c % 256)=some F;have e1:F.s / 256*256+F.s % 256=F.s:=by omega
  have e2:F.y / 16777216*16777216+F.y / 65536 % 256*65536+F.y / 256 % 256*256+F.y % 256=F.y:=by
   have:=hw.2.2.2.2.2;exact zz1
  unfold kaR;rw[hc,e1,e2,if_pos ⟨zz1,hk,hs⟩]
 ·rw[k2R hk]
  obtain⟨h0,h1⟩:=k0y (k4N hw);generalize hc:crcI [F.k,F.l,F.s / 256,F.s % 256]=c at h0 h1 ⊢;show dec6 F.k F.l (F.s / 256) (F.s % 256) (c / 256) (c % 256)=some F;have e1:F.s / 256*256+F.s % 256=F.s:=by omega
  have hz:F.a=0/\F.b=0/\F.y=0:=by
   rcases hS.2 with h|h
   ·exact absurd h.1 hk
   ·exact h.2
  have hs':Wire.sound F.k F.l 0 0 0=true:=by
   have:Wire.sound F.k F.l F.a F.b F.y=true:=hs
   rwa [hz.1,hz.2.1,hz.2.2]at this
  unfold dec6;rw[hc,e1,if_pos ⟨zz1,hk,hs'⟩];obtain⟨k,l,s,a,b,y⟩:=F;obtain⟨rfl,rfl,rfl⟩:=hz;rfl
theorem xor8_range{a b:Int}(a0:0<=a)(a1:a<=255)(b0:0<=b)(b1:b<=255):0<=bits .xor .u8 a b/\bits .xor .u8 a b<=255:=by
 rw[u8_xor a b a0 zz1 b0 zz1];have:a.toNat ^^^ b.toNat<256:=Nat.xor_lt_two_pow (n:=8) zz1 zz1;exact zz1
theorem kbV{a b:Int}(a0:0<=a)(a1:a<=255)(b0:0<=b)(b1:b<=255)(h:(bits .xor .u8 a b).toNat=a.toNat):b=0:=by
 rw[u8_xor a b a0 zz1 b0 zz1,Int.toNat_natCast]at h;have h2:a.toNat ^^^ b.toNat=a.toNat ^^^ 0:=by rw[h,Nat.xor_zero]
 have:=k6K h2;exact zz1
theorem Oct.set{l:List Int}(h:Oct l)(k:Nat)(v:Int)(v0:0<=v)(v1:v<=255):Oct (l.set k v):=by
 intro x hx;rcases List.mem_or_eq_of_mem_set hx with hx|rfl
 ·exact h x hx
 ·simp[Lit.wf,IntKind.min,IntKind.max,IntKind.bits,IntKind.signed];omega
theorem kcm(l:List Int)(k:Nat)(v:Int):nat (l.set k v)=(nat l).set k v.toNat:=by unfold nat;rw[List.map_set]
theorem kc9(l:List Int)(k:Nat)(hk:k<l.length)(h:k<(nat l).length):(nat l)[k]=(l.getD k 0).toNat:=by
 have e:(nat l)[k]? = some (l.getD k 0).toNat:=by
  unfold nat;rw[List.getElem?_map,List.getElem?_eq_getElem hk,List.getD_eq_getElem?_getD,List.getElem?_eq_getElem hk];rfl
 rw[List.getElem?_eq_getElem h]at e;exact Option.some.inj e
theorem k7Q{F:Fr}(hw:F.wf):crc (nat F.bytes)=0:=by
 have key:∀p:List Int,Oct p->crc (nat (p++[crcI p / 256,crcI p % 256]))=0:=fun p hp=>by
  have e:nat (p++[crcI p / 256,crcI p % 256])=nat p++[crc (nat p) / 256,crc (nat p) % 256]:=by
   unfold nat crcI nat;rw[List.map_append,List.map_cons,List.map_cons,List.map_nil];congr 1
  rw[e];exact kaF hp.bytes
 by_cases hk:F.k=1
 ·rw[k3J hk];exact key _ (k5Q hw)
 ·rw[k2R hk];exact key _ (k4N hw)
theorem bends_none{F:Fr}(hw:F.wf)(k:Nat)(hk:k<F.bytes.length)(x:Int)(x0:0<=x)(x1:x<=255)(hx:¬x=0):dec (F.bytes.set k (bits .xor .u8 (F.bytes.getD k 0) x))=none:=by
 have ho:=oct_bytes hw;have hb:=ho.getD k;have hr:=xor8_range hb.1 hb.2 x0 x1;rcases hd:dec (F.bytes.set k (bits .xor .u8 (F.bytes.getD k 0) x)) with _|H
 ·rfl
 ·exfalso
  obtain⟨he,hw',-⟩:=dec_bytes (ho.set k _ hr.1 hr.2) hd;have h1:=k7Q hw';rw[he,kcm]at h1;have h2:=k7Q hw;have hk':k<(nat F.bytes).length:=by unfold nat;simpa using hk
  have h3:=kcG (r:=65535) zz1 ho.bytes hk' (y:=(bits .xor .u8 (F.bytes.getD k 0) x).toNat) zz1 (by unfold crc at h1 h2;omega);rw[kc9 _ k hk hk']at h3;exact hx (kbV hb.1 hb.2 x0 x1 h3)
theorem bends_same{F:Fr}(hw:F.wf)(hs:F.sound=true)(k:Nat)(hk:k<F.bytes.length):dec (F.bytes.set k (bits .xor .u8 (F.bytes.getD k 0) 0))=some F:=by
 have hb:=(oct_bytes hw).getD k;have e:bits .xor .u8 (F.bytes.getD k 0) 0=F.bytes.getD k 0:=by
  rw[u8_xor _ 0 hb.1 zz1 zz1 zz1,show((0:Int)).toNat=0 from rfl,Nat.xor_zero];exact zz1
 rw[e,List.getD_eq_getElem?_getD,List.getElem?_eq_getElem hk,Option.getD_some,List.set_getElem_self];exact dec_enc hw hs
end Go.Proofs.YtdopmlopafgonaaGreatDoor.Wire
