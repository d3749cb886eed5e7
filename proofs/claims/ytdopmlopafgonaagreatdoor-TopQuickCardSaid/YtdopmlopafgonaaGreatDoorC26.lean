/- TopQuick: one packet alone is brought from host to host (a part of the walks and of the plain laws). -/
import Derived.Test.YtdopmlopafgonaaGreatDoorC0
import Derived.Test.YtdopmlopafgonaaGreatDoorC25
import Derived.Deep.RegionHeld3
set_option linter.unusedVariables false
set_option linter.unusedSimpArgs false
set_option maxHeartbeats 4000000
set_option maxRecDepth 100000
namespace Go.Proofs.YtdopmlopafgonaaGreatDoor.Wire
open Go.RowKit Go.Proofs.Ytamaemlhnkabcaa.Crc Go.Proofs.YtdopmlopafgonaaGreatDoor.PTopQuick Go.Proofs.YtdopmlopafgonaaGreatDoorW.PrintWords Go.Proofs.YtdopmlopafgonaaGreatDoorW.PrintLast Go.Proofs.YtdopmlopafgonaaGreatDoorW.PrintMore
open Go.Proofs.YtdopmlopafgonaaGreatDoor.Own
theorem k25 {P:Program} (t e:TypeId) (kh km:IntKind) {i:TypeInfo} (ht:P.underlying t=some (.slice e)) (hi:P.info? e=some i) (A:Option Addr) (n c:Nat) (j:Int) (h0:0<=j) (hc:j<=c) :
 ∀ W:World,(Instr.slice t (.slice A n c) none (some (.int kh j)) (some (.int km j))).run P W = .ok (.slice A j.toNat j.toNat) W:=by
 intro W;have hel:P.elem t=e:=by simp [Program.elem,ht]
 have hu:P.underlying t=some (.slice (P.elem t)):=by rw [hel];exact ht
 have ha:(A.map fun x=>x.add 0)=A:=by cases A <;> simp [Addr.add]
 rw [run_slice_hm W t A n c hu kh km j j h0 zz1 hc,hel];simp [sizeOf,typeInfo,hi,sliced,Result.andThen,ha]
theorem kae (a:Addr) (i j:Nat):(a.add i).add j=a.add (i+j):=by
 unfold Addr.add;by_cases hi:i=0 <;> by_cases hj:j=0 <;> simp [hi,hj,Nat.add_assoc]
theorem k0p {W:World} {ad:Addr} {l m:List Int} (h:ReadsInt W .u8 (some ad) l.length l) (i n:Nat) (hn:i+n<=l.length) (hm:m=(l.drop i).take n):ReadsInt W .u8 (some (ad.add i)) n m:=by
 subst hm;refine ⟨by rw [List.length_take,List.length_drop];omega,by have:=h.2.1;omega,fun hp=>⟨_,rfl,fun j hj=>?_⟩⟩;obtain ⟨a',e,hc⟩:=h.2.2 zz1;obtain rfl:=Option.some.inj e;rw [kae,hc _ zz1,List.getD_eq_getElem?_getD,List.getD_eq_getElem?_getD,List.getElem?_take_of_lt hj,List.getElem?_drop]
theorem k4X {W:World} {ad:Addr} {l:List Int} (h:ReadsInt W .u8 (some ad) l.length l) (k:Nat) (hk:k<l.length) {x:Int} (hx:l.getD k 0=x):W.cell? (ad.add k)=some (.int .u8 x):=by
 obtain ⟨a',e,hc⟩:=h.2.2 zz1;obtain rfl:=Option.some.inj e;rw [hc k hk,hx]
def Two (w W:World):Prop:=At W w.heap.size Fr.zero/\At W (w.heap.size+1) Fr.zero/\Below w.heap.size w W
theorem Two.new (w:World):Two w ((w.alloc (.cells #[.int .u8 0,.int .u8 0,.int .u16 0,.int .u8 0,.int .u8 0,.int .u32 0] 163)).alloc (.cells #[.int .u8 0,.int .u8 0,.int .u16 0,.int .u8 0,.int .u8 0,.int .u32 0] 163)):=
 ⟨k0U (k1D _ _) (k0f (Below.refl _ _) _),(by have:=k1D (w.alloc (.cells #[.int .u8 0,.int .u8 0,.int .u16 0,.int .u8 0,.int .u8 0,.int .u32 0] 163)) (.cells #[.int .u8 0,.int .u8 0,.int .u16 0,.int .u8 0,.int .u8 0,.int .u32 0] 163);rwa [show (w.alloc (.cells #[.int .u8 0,.int .u8 0,.int .u16 0,.int .u8 0,.int .u8 0,.int .u32 0] 163)).heap.size=w.heap.size+1 by simp] at this:((w.alloc (.cells #[.int .u8 0,.int .u8 0,.int .u16 0,.int .u8 0,.int .u8 0,.int .u32 0] 163)).alloc (.cells #[.int .u8 0,.int .u8 0,.int .u16 0,.int .u8 0,.int .u8 0,.int .u32 0] 163)).heap[w.heap.size+1]? = some (.cells #[.int .u8 0,.int .u8 0,.int .u16 0,.int .u8 0,.int .u8 0,.int .u32 0] 163)),k0f (k0f (Below.refl _ _) _) _⟩
theorem Two.below {w W W1:World} (h:Two w W) (hb:Below W.heap.size W W1):Two w W1:=⟨k0U h.1 hb,k0U h.2.1 hb,k0B h.2.2 h.2.2.size hb⟩
theorem Two.drew {w W:World} (h:Two w W):Two w W.drew:=h.below (Below.refl _ _).drew
theorem Two.reads {w W:World} {A:Option Addr} {l:List Int} (h:Two w W) (hr:ReadsInt w .u8 A l.length l):ReadsInt W .u8 A l.length l:=hr.below h.2.2
theorem At.free {W:World} {g:Nat} {f:Fr} (h:At W g f) (i:Nat):W.frozen? ⟨g,i,none⟩=false:=k02 h i
def Back (w:World) (f:Fr) (c:Int) (e:Ending) (w':World):Prop:=e = .returned (.tuple #[f.val,.int .u16 c])/\Below w.heap.size w w'
theorem Box.set6 {W:World} {g:Nat} {k' l' s' a' b' y':Int} (h:Box W g k' l' s' a' b' y') (k l s a b y:Int):Box ((((((W.setCell ⟨g,0,none⟩ (.int .u8 k)).setCell ⟨g,1,none⟩ (.int .u8 l)).setCell ⟨g,2,none⟩ (.int .u16 s)).setCell ⟨g,3,none⟩ (.int .u8 a)).setCell ⟨g,4,none⟩ (.int .u8 b)).setCell ⟨g,5,none⟩ (.int .u32 y)) g k l s a b y:=by
 have h0:=k05 h 0 (.int .u8 k);have h1:=k05 h0 1 (.int .u8 l);have h2:=k05 h1 2 (.int .u16 s);have h3:=k05 h2 3 (.int .u8 a);have h4:=k05 h3 4 (.int .u8 b);exact k05 h4 5 (.int .u32 y)
theorem Box.far6 {W:World} {g q:Nat} {k' l' s' a' b' y':Int} (h:Box W q k' l' s' a' b' y') (hne:q≠g) (k l s a b y:Int):Box ((((((W.setCell ⟨g,0,none⟩ (.int .u8 k)).setCell ⟨g,1,none⟩ (.int .u8 l)).setCell ⟨g,2,none⟩ (.int .u16 s)).setCell ⟨g,3,none⟩ (.int .u8 a)).setCell ⟨g,4,none⟩ (.int .u8 b)).setCell ⟨g,5,none⟩ (.int .u32 y)) q k' l' s' a' b' y':=
 k18 (k18 (k18 (k18 (k18 (k18 h hne _) hne _) hne _) hne _) hne _) hne _
theorem k2G {w W:World} {g:Nat} (h:Below w.heap.size w W) (hg:w.heap.size<=g) (k l s a b y:Int):Below w.heap.size w ((((((W.setCell ⟨g,0,none⟩ (.int .u8 k)).setCell ⟨g,1,none⟩ (.int .u8 l)).setCell ⟨g,2,none⟩ (.int .u16 s)).setCell ⟨g,3,none⟩ (.int .u8 a)).setCell ⟨g,4,none⟩ (.int .u8 b)).setCell ⟨g,5,none⟩ (.int .u32 y)):=
 k0x (k0x (k0x (k0x (k0x (k0x h hg) hg) hg) hg) hg) hg
theorem k0X {W:World} {ad:Addr} {x:Int} {l:List Int} (h:ReadsInt W .u8 (some ad) (x :: l).length (x :: l)):W.cell? ad=some (.int .u8 x):=by
 have:=k4X h 0 zz17 rfl;simpa [Addr.add] using this
theorem k2p {W:World} {ad:Addr} {l:List Int} (h:ReadsInt W .u8 (some ad) l.length l) (k:Nat) (hk:k+1<l.length) {x:Int} (hx:l.getD (k+1) 0=x):W.cell? ⟨ad.block,ad.off+(k+1),none⟩=some (.int .u8 x):=by
 have:=k4X h (k+1) hk hx;simpa [Addr.add] using this
theorem k3O {w W:World} {ad:Addr} {x0 x1:Int} {l:List Int} (T:Two w W) (h:ReadsInt w .u8 (some ad) (x0 :: x1 :: l).length (x0 :: x1 :: l)) :
 Two w W/\W.cell? ad=some (.int .u8 x0)/\W.cell? ⟨ad.block,ad.off+1,none⟩=some (.int .u8 x1)/\W.frozen? ⟨w.heap.size+1,0,none⟩=false/\W.frozen? ⟨w.heap.size+1,1,none⟩=false/\W.frozen? ⟨w.heap.size+1,2,none⟩=false/\W.frozen? ⟨w.heap.size+1,3,none⟩=false/\W.frozen? ⟨w.heap.size+1,4,none⟩=false/\W.frozen? ⟨w.heap.size+1,5,none⟩=false:=
 ⟨T,k0X (T.reads h),k2p (T.reads h) 0 zz17 rfl,T.2.1.free 0,T.2.1.free 1,T.2.1.free 2,T.2.1.free 3,T.2.1.free 4,T.2.1.free 5⟩
theorem ka3 {w W:World} {ad:Addr} {x0 x1:Int} {m:List Int} (T:Two w W) (h:ReadsInt w .u8 (some ad) (x0 :: x1 :: m).length (x0 :: x1 :: m)) (k l s a b y:Int) :
 ((((((W.setCell ⟨w.heap.size+1,0,none⟩ (.int .u8 k)).setCell ⟨w.heap.size+1,1,none⟩ (.int .u8 l)).setCell ⟨w.heap.size+1,2,none⟩ (.int .u16 s)).setCell ⟨w.heap.size+1,3,none⟩ (.int .u8 a)).setCell ⟨w.heap.size+1,4,none⟩ (.int .u8 b)).setCell ⟨w.heap.size+1,5,none⟩ (.int .u32 y)).cell? ad=some (.int .u8 x0)/\((((((W.setCell ⟨w.heap.size+1,0,none⟩ (.int .u8 k)).setCell ⟨w.heap.size+1,1,none⟩ (.int .u8 l)).setCell ⟨w.heap.size+1,2,none⟩ (.int .u16 s)).setCell ⟨w.heap.size+1,3,none⟩ (.int .u8 a)).setCell ⟨w.heap.size+1,4,none⟩ (.int .u8 b)).setCell ⟨w.heap.size+1,5,none⟩ (.int .u32 y)).cell? ⟨ad.block,ad.off+1,none⟩=some (.int .u8 x1)/\((((((W.setCell ⟨w.heap.size+1,0,none⟩ (.int .u8 k)).setCell ⟨w.heap.size+1,1,none⟩ (.int .u8 l)).setCell ⟨w.heap.size+1,2,none⟩ (.int .u16 s)).setCell ⟨w.heap.size+1,3,none⟩ (.int .u8 a)).setCell ⟨w.heap.size+1,4,none⟩ (.int .u8 b)).setCell ⟨w.heap.size+1,5,none⟩ (.int .u32 y)).frozen? ⟨w.heap.size+1,0,none⟩=false/\((((((W.setCell ⟨w.heap.size+1,0,none⟩ (.int .u8 k)).setCell ⟨w.heap.size+1,1,none⟩ (.int .u8 l)).setCell ⟨w.heap.size+1,2,none⟩ (.int .u16 s)).setCell ⟨w.heap.size+1,3,none⟩ (.int .u8 a)).setCell ⟨w.heap.size+1,4,none⟩ (.int .u8 b)).setCell ⟨w.heap.size+1,5,none⟩ (.int .u32 y)).frozen? ⟨w.heap.size+1,1,none⟩=false/\((((((W.setCell ⟨w.heap.size+1,0,none⟩ (.int .u8 k)).setCell ⟨w.heap.size+1,1,none⟩ (.int .u8 l)).setCell ⟨w.heap.size+1,2,none⟩ (.int .u16 s)).setCell ⟨w.heap.size+1,3,none⟩ (.int .u8 a)).setCell ⟨w.heap.size+1,4,none⟩ (.int .u8 b)).setCell ⟨w.heap.size+1,5,none⟩ (.int .u32 y)).frozen? ⟨w.heap.size+1,2,none⟩=false/\((((((W.setCell ⟨w.heap.size+1,0,none⟩ (.int .u8 k)).setCell ⟨w.heap.size+1,1,none⟩ (.int .u8 l)).setCell ⟨w.heap.size+1,2,none⟩ (.int .u16 s)).setCell ⟨w.heap.size+1,3,none⟩ (.int .u8 a)).setCell ⟨w.heap.size+1,4,none⟩ (.int .u8 b)).setCell ⟨w.heap.size+1,5,none⟩ (.int .u32 y)).frozen? ⟨w.heap.size+1,3,none⟩=false/\((((((W.setCell ⟨w.heap.size+1,0,none⟩ (.int .u8 k)).setCell ⟨w.heap.size+1,1,none⟩ (.int .u8 l)).setCell ⟨w.heap.size+1,2,none⟩ (.int .u16 s)).setCell ⟨w.heap.size+1,3,none⟩ (.int .u8 a)).setCell ⟨w.heap.size+1,4,none⟩ (.int .u8 b)).setCell ⟨w.heap.size+1,5,none⟩ (.int .u32 y)).frozen? ⟨w.heap.size+1,4,none⟩=false/\((((((W.setCell ⟨w.heap.size+1,0,none⟩ (.int .u8 k)).setCell ⟨w.heap.size+1,1,none⟩ (.int .u8 l)).setCell ⟨w.heap.size+1,2,none⟩ (.int .u16 s)).setCell ⟨w.heap.size+1,3,none⟩ (.int .u8 a)).setCell ⟨w.heap.size+1,4,none⟩ (.int .u8 b)).setCell ⟨w.heap.size+1,5,none⟩ (.int .u32 y)).frozen? ⟨w.heap.size+1,5,none⟩=false:=
 have hb:=k2G T.2.2 (Nat.le_succ w.heap.size) k l s a b y;have hx:=Box.set6 T.2.1 k l s a b y
 ⟨k0X (h.below hb),k2p (h.below hb) 0 zz17 rfl,k02 hx 0,k02 hx 1,k02 hx 2,k02 hx 3,k02 hx 4,k02 hx 5⟩
def Pair (w W:World) (f:Fr):Prop:=At W w.heap.size Fr.zero/\At W (w.heap.size+1) f/\Below w.heap.size w W
theorem Two.six {w W:World} (h:Two w W) (k l s a b y:Int):Pair w ((((((W.setCell ⟨w.heap.size+1,0,none⟩ (.int .u8 k)).setCell ⟨w.heap.size+1,1,none⟩ (.int .u8 l)).setCell ⟨w.heap.size+1,2,none⟩ (.int .u16 s)).setCell ⟨w.heap.size+1,3,none⟩ (.int .u8 a)).setCell ⟨w.heap.size+1,4,none⟩ (.int .u8 b)).setCell ⟨w.heap.size+1,5,none⟩ (.int .u32 y)) ⟨k,l,s,a,b,y⟩:=
 ⟨Box.far6 h.1 zz1 k l s a b y,Box.set6 h.2.1 k l s a b y,k2G h.2.2 (Nat.le_succ w.heap.size) k l s a b y⟩
theorem Pair.below {w W W1:World} {f:Fr} (h:Pair w W f) (hb:Below W.heap.size W W1):Pair w W1 f:=⟨k0U h.1 hb,k0U h.2.1 hb,k0B h.2.2 h.2.2.size hb⟩
theorem Pair.drew {w W:World} {f:Fr} (h:Pair w W f):Pair w W.drew f:=h.below (Below.refl _ _).drew
theorem Pair.reads {w W:World} {f:Fr} {A:Option Addr} {l:List Int} (h:Pair w W f) (hr:ReadsInt w .u8 A l.length l):ReadsInt W .u8 A l.length l:=hr.below h.2.2
theorem Pair.three {w W:World} {k l s a' b' y':Int} (h:Pair w W ⟨k,l,s,a',b',y'⟩) (a b y:Int):Pair w (((W.setCell ⟨w.heap.size+1,3,none⟩ (.int .u8 a)).setCell ⟨w.heap.size+1,4,none⟩ (.int .u8 b)).setCell ⟨w.heap.size+1,5,none⟩ (.int .u32 y)) ⟨k,l,s,a,b,y⟩:=
 ⟨k18 (k18 (k18 h.1 (p:=⟨w.heap.size+1,3,none⟩) zz17 _) (p:=⟨w.heap.size+1,4,none⟩) zz17 _) (p:=⟨w.heap.size+1,5,none⟩) zz17 _,by
  have h3:=k05 h.2.1 3 (.int .u8 a);have h4:=k05 h3 4 (.int .u8 b);exact k05 h4 5 (.int .u32 y),k0x (k0x (k0x h.2.2 (Nat.le_succ w.heap.size)) (Nat.le_succ w.heap.size)) (Nat.le_succ w.heap.size)⟩
theorem k7o {w W:World} {ad:Addr} {l:List Int} {x4 x5:Int} {cs:Array Value} (hb:Below w.heap.size w W) (hx:W.heap[w.heap.size+1]? = some (.cells cs 163 (0,0))) (h:ReadsInt w .u8 (some ad) l.length l) (hl:12<=l.length) (e4:l.getD 4 0=x4) (e5:l.getD 5 0=x5):W.cell? ⟨ad.block,ad.off+4,none⟩=some (.int .u8 x4)/\W.cell? ⟨ad.block,ad.off+5,none⟩=some (.int .u8 x5)/\W.frozen? ⟨w.heap.size+1,3,none⟩=false/\W.frozen? ⟨w.heap.size+1,4,none⟩=false/\W.frozen? ⟨w.heap.size+1,5,none⟩=false:=
 ⟨k2p (h.below hb) 3 zz1 e4,k2p (h.below hb) 4 zz1 e5,k02 hx 3,k02 hx 4,k02 hx 5⟩
theorem k3r {w W:World} {ad:Addr} {l:List Int} {x4 x5:Int} {f:Fr} (P:Pair w W f) (h:ReadsInt w .u8 (some ad) l.length l) (hl:12<=l.length) (e4:l.getD 4 0=x4) (e5:l.getD 5 0=x5):W.cell? ⟨ad.block,ad.off+4,none⟩=some (.int .u8 x4)/\W.cell? ⟨ad.block,ad.off+5,none⟩=some (.int .u8 x5)/\W.frozen? ⟨w.heap.size+1,3,none⟩=false/\W.frozen? ⟨w.heap.size+1,4,none⟩=false/\W.frozen? ⟨w.heap.size+1,5,none⟩=false:=
 k7o P.2.2 P.2.1 h hl e4 e5
theorem k9u {w W:World} {ad:Addr} {l:List Int} {x4 x5:Int} {f:Fr} (P:Pair w W f) (h:ReadsInt w .u8 (some ad) l.length l) (hl:12<=l.length) (e4:l.getD 4 0=x4) (e5:l.getD 5 0=x5) (a:Int):(W.setCell ⟨w.heap.size+1,3,none⟩ (.int .u8 a)).cell? ⟨ad.block,ad.off+4,none⟩=some (.int .u8 x4)/\(W.setCell ⟨w.heap.size+1,3,none⟩ (.int .u8 a)).cell? ⟨ad.block,ad.off+5,none⟩=some (.int .u8 x5)/\(W.setCell ⟨w.heap.size+1,3,none⟩ (.int .u8 a)).frozen? ⟨w.heap.size+1,3,none⟩=false/\(W.setCell ⟨w.heap.size+1,3,none⟩ (.int .u8 a)).frozen? ⟨w.heap.size+1,4,none⟩=false/\(W.setCell ⟨w.heap.size+1,3,none⟩ (.int .u8 a)).frozen? ⟨w.heap.size+1,5,none⟩=false:=
 k7o (k0x P.2.2 (Nat.le_succ w.heap.size)) (k05 P.2.1 3 (.int .u8 a)) h hl e4 e5
theorem k8L {w W:World} {ad:Addr} {l:List Int} {x4 x5:Int} {f:Fr} (P:Pair w W f) (h:ReadsInt w .u8 (some ad) l.length l) (hl:12<=l.length) (e4:l.getD 4 0=x4) (e5:l.getD 5 0=x5) (a b:Int):((W.setCell ⟨w.heap.size+1,3,none⟩ (.int .u8 a)).setCell ⟨w.heap.size+1,4,none⟩ (.int .u8 b)).cell? ⟨ad.block,ad.off+4,none⟩=some (.int .u8 x4)/\((W.setCell ⟨w.heap.size+1,3,none⟩ (.int .u8 a)).setCell ⟨w.heap.size+1,4,none⟩ (.int .u8 b)).cell? ⟨ad.block,ad.off+5,none⟩=some (.int .u8 x5)/\((W.setCell ⟨w.heap.size+1,3,none⟩ (.int .u8 a)).setCell ⟨w.heap.size+1,4,none⟩ (.int .u8 b)).frozen? ⟨w.heap.size+1,3,none⟩=false/\((W.setCell ⟨w.heap.size+1,3,none⟩ (.int .u8 a)).setCell ⟨w.heap.size+1,4,none⟩ (.int .u8 b)).frozen? ⟨w.heap.size+1,4,none⟩=false/\((W.setCell ⟨w.heap.size+1,3,none⟩ (.int .u8 a)).setCell ⟨w.heap.size+1,4,none⟩ (.int .u8 b)).frozen? ⟨w.heap.size+1,5,none⟩=false:=
 k7o (k0x (k0x P.2.2 (Nat.le_succ w.heap.size)) (Nat.le_succ w.heap.size)) (k05 (k05 P.2.1 3 (.int .u8 a)) 4 (.int .u8 b)) h hl e4 e5
theorem k90 {w W:World} {ad:Addr} {l:List Int} {x4 x5:Int} {f:Fr} (P:Pair w W f) (h:ReadsInt w .u8 (some ad) l.length l) (hl:12<=l.length) (e4:l.getD 4 0=x4) (e5:l.getD 5 0=x5) (a b y:Int):(((W.setCell ⟨w.heap.size+1,3,none⟩ (.int .u8 a)).setCell ⟨w.heap.size+1,4,none⟩ (.int .u8 b)).setCell ⟨w.heap.size+1,5,none⟩ (.int .u32 y)).cell? ⟨ad.block,ad.off+4,none⟩=some (.int .u8 x4)/\(((W.setCell ⟨w.heap.size+1,3,none⟩ (.int .u8 a)).setCell ⟨w.heap.size+1,4,none⟩ (.int .u8 b)).setCell ⟨w.heap.size+1,5,none⟩ (.int .u32 y)).cell? ⟨ad.block,ad.off+5,none⟩=some (.int .u8 x5)/\(((W.setCell ⟨w.heap.size+1,3,none⟩ (.int .u8 a)).setCell ⟨w.heap.size+1,4,none⟩ (.int .u8 b)).setCell ⟨w.heap.size+1,5,none⟩ (.int .u32 y)).frozen? ⟨w.heap.size+1,3,none⟩=false/\(((W.setCell ⟨w.heap.size+1,3,none⟩ (.int .u8 a)).setCell ⟨w.heap.size+1,4,none⟩ (.int .u8 b)).setCell ⟨w.heap.size+1,5,none⟩ (.int .u32 y)).frozen? ⟨w.heap.size+1,4,none⟩=false/\(((W.setCell ⟨w.heap.size+1,3,none⟩ (.int .u8 a)).setCell ⟨w.heap.size+1,4,none⟩ (.int .u8 b)).setCell ⟨w.heap.size+1,5,none⟩ (.int .u32 y)).frozen? ⟨w.heap.size+1,5,none⟩=false:=
 k7o (k0x (k0x (k0x P.2.2 (Nat.le_succ w.heap.size)) (Nat.le_succ w.heap.size)) (Nat.le_succ w.heap.size)) (k05 (k05 (k05 P.2.1 3 (.int .u8 a)) 4 (.int .u8 b)) 5 (.int .u32 y)) h hl e4 e5
theorem k3I:∃ i,Tryz.prog.info? 5=some i/\i.size=1:=by
 obtain ⟨i,hi,_,hz1,_⟩:=info_parts kbt;exact ⟨i,hi,hz1⟩
theorem k8v (A:Option Addr) (n c:Nat) (w:World) (h6:¬ n=6) (h12:¬ n=12) (hn:n<=9223372036854775807) :
 Calls Tryz.prog 96 #[.slice A n c] w (Back w Fr.zero 30):=by
 have e6:(((n:Int)) != 6)=true:=bne_iff_ne.mpr zz1;have e12:(((n:Int)) != 12)=true:=bne_iff_ne.mpr zz1;go_enter Tryz.func96,Tryz.ntmps96
 go_wp2_with fail
 refine bodyPost_ret (k0J rfl _ _ w.heap.size 163 _ (0,0) _ (by rfl) (k0U (k1D _ _) (k0f (Below.refl _ _) _)) Tryz.underlying163 rfl zz3) rfl ?_;exact ⟨rfl,k0f (k0f (Below.refl _ _) _) _⟩
theorem k9Y (ad:Addr) (c:Nat) (x0 x1 x2 x3 x4 x5:Int) (w:World) (hr:ReadsInt w .u8 (some ad) 6 [x0,x1,x2,x3,x4,x5]) (hc:6<=c) (g0:0<=x0/\x0<=255) (g1:0<=x1/\x1<=255) (g2:0<=x2/\x2<=255) (g3:0<=x3/\x3<=255) (g4:0<=x4/\x4<=255) (g5:0<=x5/\x5<=255) (hs:¬ crcI [x0,x1,x2,x3]=x4*256+x5):Calls Tryz.prog 96 #[.slice (some ad) 6 c] w (Back w Fr.zero 30):=by
 have H0:=Ab (show ReadsInt w .u8 (some ad) ([x0,x1,x2,x3,x4,x5]:List Int).length [x0,x1,x2,x3,x4,x5] from hr);have HO:=Ab (show Oct [x0,x1,x2,x3,x4,x5] from Oct.cons g0.1 g0.2 (Oct.cons g1.1 g1.2 (Oct.cons g2.1 g2.2 (Oct.cons g3.1 g3.2 (Oct.cons g4.1 g4.2 (Oct.cons g5.1 g5.2 (Oct.nil)))))));have HM:=Ab (show Oct [x0,x1,x2,x3] from Oct.cons g0.1 g0.2 (Oct.cons g1.1 g1.2 (Oct.cons g2.1 g2.2 (Oct.cons g3.1 g3.2 (Oct.nil)))));have HC:=Ab hc;have G0:=Ab g4;have G1:=Ab g5;obtain ⟨i5,hi5,hs5⟩:=k3I;have cA:∀ W:World,(Instr.slice 22 (.slice (some ad) 6 c) none (some (.int .i64 4)) (some (.int .i64 4))).run Tryz.prog W = .ok (.slice (some ad) 4 4) W:=fun W=>k25 22 5 .i64 .i64 Tryz.underlying22 hi5 _ _ _ 4 zz1 zz1 W
 have cB:∀ W:World,(Instr.slice 22 (.slice (some ad) 6 c) (some (.int .i64 4)) none none).run Tryz.prog W = .ok (.slice (some (ad.add 4)) 2 (c-4)) W:=fun W=>by
  rw [k12 22 5 .i64 Tryz.underlying22 hi5 1 hs5 (some ad) 6 c 4 zz1 zz1 W,if_neg zz1];rfl
 have ES:(crcI [x0,x1,x2,x3] != x4*256+x5)=true:=bne_iff_ne.mpr hs;clear hs;have W1:IntKind.i64.wrap (((6:Nat):Int)-2)=4:=by decide
 have W2:IntKind.i64.wrap (6-2)=4:=by decide
 have WC:IntKind.u32.wrap (crcI [x0,x1,x2,x3])=crcI [x0,x1,x2,x3]:=by rw [w32];exact Int.emod_eq_of_lt (k0j HM.out).1 zz23
 have W3:IntKind.i64.wrap 4=4:=by decide
 have I1:(4:Int)<=(c:Int):=by omega
 have ER:∀ x y:Int,(((crcI [x0,x1,x2,x3]:Int):Int) != (x4*256+x5))=true\/True:=fun _ _=>.inr trivial
 have CR:=k0j HM.out;clear hc hi5 hs5 hr ER;go_enter Tryz.func96,Tryz.ntmps96
 go_wp2_with fail
 have T0:=Ab (Two.new w);generalize ((w.alloc (.cells #[.int .u8 0,.int .u8 0,.int .u16 0,.int .u8 0,.int .u8 0,.int .u32 0] 163)).alloc (.cells #[.int .u8 0,.int .u8 0,.int .u16 0,.int .u8 0,.int .u8 0,.int .u32 0] 163))=w2 at T0 ⊢
 go_region_held3 (fun W=>Two w W) (first | exact T0.out.drew | exact T0.out | assumption | exact Two.below zz32 hbs)
  (first | (go_at_call 119;refine (k1d (some ad) 4 [x0,x1,x2,x3] _ (k0p (Two.reads zz32 H0.out) 0 4 zz17 rfl) HM.out).mono ?_;rintro e wn ⟨rfl,hbs⟩) | (go_at_call 133;refine (k3S (ad.add 4) (c-4) x4 x5 _ (k0p (Two.reads zz32 H0.out) 4 2 zz17 rfl) zz30 G0.out.1 G0.out.2 G1.out.1 G1.out.2).mono ?_;rintro e wn ⟨rfl,hbs⟩))
 rename_i hHeld
 have T3:=Ab hHeld;clear hHeld;obtain ⟨c0,c1,c2,c3,c4,c5⟩:=T3.out.1.cells;obtain ⟨d0,d1,d2,d3,d4,d5⟩:=T3.out.2.1.cells;have f0:=T3.out.1.free 0;have f1:=T3.out.1.free 1;have f2:=T3.out.1.free 2;have f3:=T3.out.1.free 3;have f4:=T3.out.1.free 4;have f5:=T3.out.1.free 5
 go_wp2_with fail
 refine bodyPost_ret (k0J rfl _ _ w.heap.size 163 _ (0,0) _ (by rfl) (Box.set6 T3.out.1 _ _ _ _ _ _) Tryz.underlying163 rfl zz3) rfl ?_;exact ⟨rfl,k2G T3.out.2.2 (Nat.le_refl _) _ _ _ _ _ _⟩
theorem k94 (ad:Addr) (c:Nat) (x0 x1 x2 x3 x4 x5:Int) (w:World) (hr:ReadsInt w .u8 (some ad) 6 [x0,x1,x2,x3,x4,x5]) (hc:6<=c) (g0:0<=x0/\x0<=255) (g1:0<=x1/\x1<=255) (g2:0<=x2/\x2<=255) (g3:0<=x3/\x3<=255) (g4:0<=x4/\x4<=255) (g5:0<=x5/\x5<=255) (hs:crcI [x0,x1,x2,x3]=x4*256+x5) (hx:x0=1):Calls Tryz.prog 96 #[.slice (some ad) 6 c] w (Back w Fr.zero 30):=by
 have H0:=Ab (show ReadsInt w .u8 (some ad) ([x0,x1,x2,x3,x4,x5]:List Int).length [x0,x1,x2,x3,x4,x5] from hr);have HO:=Ab (show Oct [x0,x1,x2,x3,x4,x5] from Oct.cons g0.1 g0.2 (Oct.cons g1.1 g1.2 (Oct.cons g2.1 g2.2 (Oct.cons g3.1 g3.2 (Oct.cons g4.1 g4.2 (Oct.cons g5.1 g5.2 (Oct.nil)))))));have HM:=Ab (show Oct [x0,x1,x2,x3] from Oct.cons g0.1 g0.2 (Oct.cons g1.1 g1.2 (Oct.cons g2.1 g2.2 (Oct.cons g3.1 g3.2 (Oct.nil)))));have HC:=Ab hc;have G0:=Ab g4;have G1:=Ab g5;obtain ⟨i5,hi5,hs5⟩:=k3I;have cA:∀ W:World,(Instr.slice 22 (.slice (some ad) 6 c) none (some (.int .i64 4)) (some (.int .i64 4))).run Tryz.prog W = .ok (.slice (some ad) 4 4) W:=fun W=>k25 22 5 .i64 .i64 Tryz.underlying22 hi5 _ _ _ 4 zz1 zz1 W
 have cB:∀ W:World,(Instr.slice 22 (.slice (some ad) 6 c) (some (.int .i64 4)) none none).run Tryz.prog W = .ok (.slice (some (ad.add 4)) 2 (c-4)) W:=fun W=>by
  rw [k12 22 5 .i64 Tryz.underlying22 hi5 1 hs5 (some ad) 6 c 4 zz1 zz1 W,if_neg zz1];rfl
 have ES:(crcI [x0,x1,x2,x3] != x4*256+x5)=false:=bne_eq_false_iff_eq.mpr hs;clear hs;have EX:(x0 == 1)=true:=beq_iff_eq.mpr hx;clear hx;have W1:IntKind.i64.wrap (((6:Nat):Int)-2)=4:=by decide
 have W2:IntKind.i64.wrap (6-2)=4:=by decide
 have WC:IntKind.u32.wrap (crcI [x0,x1,x2,x3])=crcI [x0,x1,x2,x3]:=by rw [w32];exact Int.emod_eq_of_lt (k0j HM.out).1 zz23
 have W3:IntKind.i64.wrap 4=4:=by decide
 have I1:(4:Int)<=(c:Int):=by omega
 have ER:∀ x y:Int,(((crcI [x0,x1,x2,x3]:Int):Int) != (x4*256+x5))=true\/True:=fun _ _=>.inr trivial
 have CR:=k0j HM.out;clear hc hi5 hs5 hr ER;go_enter Tryz.func96,Tryz.ntmps96
 go_wp2_with fail
 have T0:=Ab (Two.new w);generalize ((w.alloc (.cells #[.int .u8 0,.int .u8 0,.int .u16 0,.int .u8 0,.int .u8 0,.int .u32 0] 163)).alloc (.cells #[.int .u8 0,.int .u8 0,.int .u16 0,.int .u8 0,.int .u8 0,.int .u32 0] 163))=w2 at T0 ⊢
 go_region_held3 (fun W=>Two w W) (first | exact T0.out.drew | exact T0.out | assumption | exact Two.below zz32 hbs)
  (first | (go_at_call 119;refine (k1d (some ad) 4 [x0,x1,x2,x3] _ (k0p (Two.reads zz32 H0.out) 0 4 zz17 rfl) HM.out).mono ?_;rintro e wn ⟨rfl,hbs⟩) | (go_at_call 133;refine (k3S (ad.add 4) (c-4) x4 x5 _ (k0p (Two.reads zz32 H0.out) 4 2 zz17 rfl) zz30 G0.out.1 G0.out.2 G1.out.1 G1.out.2).mono ?_;rintro e wn ⟨rfl,hbs⟩))
 rename_i hHeld
 have T3:=Ab hHeld;clear hHeld;obtain ⟨c0,c1,c2,c3,c4,c5⟩:=T3.out.1.cells;obtain ⟨d0,d1,d2,d3,d4,d5⟩:=T3.out.2.1.cells;have f0:=T3.out.1.free 0;have f1:=T3.out.1.free 1;have f2:=T3.out.1.free 2;have f3:=T3.out.1.free 3;have f4:=T3.out.1.free 4;have f5:=T3.out.1.free 5;have e0:=k0X (Two.reads T3.out H0.out)
 go_wp2_with fail
 refine bodyPost_ret (k0J rfl _ _ w.heap.size 163 _ (0,0) _ (by rfl) (Box.set6 T3.out.1 _ _ _ _ _ _) Tryz.underlying163 rfl zz3) rfl ?_;exact ⟨rfl,k2G T3.out.2.2 (Nat.le_refl _) _ _ _ _ _ _⟩
theorem k9H (ad:Addr) (c:Nat) (x0 x1 x2 x3 x4 x5 x6 x7 x8 x9 x10 x11:Int) (w:World) (hr:ReadsInt w .u8 (some ad) 12 [x0,x1,x2,x3,x4,x5,x6,x7,x8,x9,x10,x11]) (hc:12<=c) (g0:0<=x0/\x0<=255) (g1:0<=x1/\x1<=255) (g2:0<=x2/\x2<=255) (g3:0<=x3/\x3<=255) (g4:0<=x4/\x4<=255) (g5:0<=x5/\x5<=255) (g6:0<=x6/\x6<=255) (g7:0<=x7/\x7<=255) (g8:0<=x8/\x8<=255) (g9:0<=x9/\x9<=255) (g10:0<=x10/\x10<=255) (g11:0<=x11/\x11<=255) (hs:¬ crcI [x0,x1,x2,x3,x4,x5,x6,x7,x8,x9]=x10*256+x11):Calls Tryz.prog 96 #[.slice (some ad) 12 c] w (Back w Fr.zero 30):=by
 have H0:=Ab (show ReadsInt w .u8 (some ad) ([x0,x1,x2,x3,x4,x5,x6,x7,x8,x9,x10,x11]:List Int).length [x0,x1,x2,x3,x4,x5,x6,x7,x8,x9,x10,x11] from hr);have HO:=Ab (show Oct [x0,x1,x2,x3,x4,x5,x6,x7,x8,x9,x10,x11] from Oct.cons g0.1 g0.2 (Oct.cons g1.1 g1.2 (Oct.cons g2.1 g2.2 (Oct.cons g3.1 g3.2 (Oct.cons g4.1 g4.2 (Oct.cons g5.1 g5.2 (Oct.cons g6.1 g6.2 (Oct.cons g7.1 g7.2 (Oct.cons g8.1 g8.2 (Oct.cons g9.1 g9.2 (Oct.cons g10.1 g10.2 (Oct.cons g11.1 g11.2 (Oct.nil)))))))))))));have HM:=Ab (show Oct [x0,x1,x2,x3,x4,x5,x6,x7,x8,x9] from Oct.cons g0.1 g0.2 (Oct.cons g1.1 g1.2 (Oct.cons g2.1 g2.2 (Oct.cons g3.1 g3.2 (Oct.cons g4.1 g4.2 (Oct.cons g5.1 g5.2 (Oct.cons g6.1 g6.2 (Oct.cons g7.1 g7.2 (Oct.cons g8.1 g8.2 (Oct.cons g9.1 g9.2 (Oct.nil)))))))))));have HC:=Ab hc;have G0:=Ab g10;have G1:=Ab g11;obtain ⟨i5,hi5,hs5⟩:=k3I;have cA:∀ W:World,(Instr.slice 22 (.slice (some ad) 12 c) none (some (.int .i64 10)) (some (.int .i64 10))).run Tryz.prog W = .ok (.slice (some ad) 10 10) W:=fun W=>k25 22 5 .i64 .i64 Tryz.underlying22 hi5 _ _ _ 10 zz1 zz1 W
 have cB:∀ W:World,(Instr.slice 22 (.slice (some ad) 12 c) (some (.int .i64 10)) none none).run Tryz.prog W = .ok (.slice (some (ad.add 10)) 2 (c-10)) W:=fun W=>by
  rw [k12 22 5 .i64 Tryz.underlying22 hi5 1 hs5 (some ad) 12 c 10 zz1 zz1 W,if_neg zz1];rfl
 have ES:(crcI [x0,x1,x2,x3,x4,x5,x6,x7,x8,x9] != x10*256+x11)=true:=bne_iff_ne.mpr hs;clear hs;have W1:IntKind.i64.wrap (((12:Nat):Int)-2)=10:=by decide
 have W2:IntKind.i64.wrap (12-2)=10:=by decide
 have WC:IntKind.u32.wrap (crcI [x0,x1,x2,x3,x4,x5,x6,x7,x8,x9])=crcI [x0,x1,x2,x3,x4,x5,x6,x7,x8,x9]:=by rw [w32];exact Int.emod_eq_of_lt (k0j HM.out).1 zz23
 have W3:IntKind.i64.wrap 10=10:=by decide
 have I1:(10:Int)<=(c:Int):=by omega
 have ER:∀ x y:Int,(((crcI [x0,x1,x2,x3,x4,x5,x6,x7,x8,x9]:Int):Int) != (x10*256+x11))=true\/True:=fun _ _=>.inr trivial
 have CR:=k0j HM.out;clear hc hi5 hs5 hr ER;go_enter Tryz.func96,Tryz.ntmps96
 go_wp2_with fail
 have T0:=Ab (Two.new w);generalize ((w.alloc (.cells #[.int .u8 0,.int .u8 0,.int .u16 0,.int .u8 0,.int .u8 0,.int .u32 0] 163)).alloc (.cells #[.int .u8 0,.int .u8 0,.int .u16 0,.int .u8 0,.int .u8 0,.int .u32 0] 163))=w2 at T0 ⊢
 go_region_held3 (fun W=>Two w W) (first | exact T0.out.drew | exact T0.out | assumption | exact Two.below zz32 hbs)
  (first | (go_at_call 119;refine (k1d (some ad) 10 [x0,x1,x2,x3,x4,x5,x6,x7,x8,x9] _ (k0p (Two.reads zz32 H0.out) 0 10 zz17 rfl) HM.out).mono ?_;rintro e wn ⟨rfl,hbs⟩) | (go_at_call 133;refine (k3S (ad.add 10) (c-10) x10 x11 _ (k0p (Two.reads zz32 H0.out) 10 2 zz17 rfl) zz30 G0.out.1 G0.out.2 G1.out.1 G1.out.2).mono ?_;rintro e wn ⟨rfl,hbs⟩))
 rename_i hHeld
 have T3:=Ab hHeld;clear hHeld;obtain ⟨c0,c1,c2,c3,c4,c5⟩:=T3.out.1.cells;obtain ⟨d0,d1,d2,d3,d4,d5⟩:=T3.out.2.1.cells;have f0:=T3.out.1.free 0;have f1:=T3.out.1.free 1;have f2:=T3.out.1.free 2;have f3:=T3.out.1.free 3;have f4:=T3.out.1.free 4;have f5:=T3.out.1.free 5
 go_wp2_with fail
 refine bodyPost_ret (k0J rfl _ _ w.heap.size 163 _ (0,0) _ (by rfl) (Box.set6 T3.out.1 _ _ _ _ _ _) Tryz.underlying163 rfl zz3) rfl ?_;exact ⟨rfl,k2G T3.out.2.2 (Nat.le_refl _) _ _ _ _ _ _⟩
theorem k7Z (ad:Addr) (c:Nat) (x0 x1 x2 x3 x4 x5 x6 x7 x8 x9 x10 x11:Int) (w:World) (hr:ReadsInt w .u8 (some ad) 12 [x0,x1,x2,x3,x4,x5,x6,x7,x8,x9,x10,x11]) (hc:12<=c) (g0:0<=x0/\x0<=255) (g1:0<=x1/\x1<=255) (g2:0<=x2/\x2<=255) (g3:0<=x3/\x3<=255) (g4:0<=x4/\x4<=255) (g5:0<=x5/\x5<=255) (g6:0<=x6/\x6<=255) (g7:0<=x7/\x7<=255) (g8:0<=x8/\x8<=255) (g9:0<=x9/\x9<=255) (g10:0<=x10/\x10<=255) (g11:0<=x11/\x11<=255) (hs:crcI [x0,x1,x2,x3,x4,x5,x6,x7,x8,x9]=x10*256+x11) (hx:¬ x0=1):Calls Tryz.prog 96 #[.slice (some ad) 12 c] w (Back w Fr.zero 30):=by
 have H0:=Ab (show ReadsInt w .u8 (some ad) ([x0,x1,x2,x3,x4,x5,x6,x7,x8,x9,x10,x11]:List Int).length [x0,x1,x2,x3,x4,x5,x6,x7,x8,x9,x10,x11] from hr);have HO:=Ab (show Oct [x0,x1,x2,x3,x4,x5,x6,x7,x8,x9,x10,x11] from Oct.cons g0.1 g0.2 (Oct.cons g1.1 g1.2 (Oct.cons g2.1 g2.2 (Oct.cons g3.1 g3.2 (Oct.cons g4.1 g4.2 (Oct.cons g5.1 g5.2 (Oct.cons g6.1 g6.2 (Oct.cons g7.1 g7.2 (Oct.cons g8.1 g8.2 (Oct.cons g9.1 g9.2 (Oct.cons g10.1 g10.2 (Oct.cons g11.1 g11.2 (Oct.nil)))))))))))));have HM:=Ab (show Oct [x0,x1,x2,x3,x4,x5,x6,x7,x8,x9] from Oct.cons g0.1 g0.2 (Oct.cons g1.1 g1.2 (Oct.cons g2.1 g2.2 (Oct.cons g3.1 g3.2 (Oct.cons g4.1 g4.2 (Oct.cons g5.1 g5.2 (Oct.cons g6.1 g6.2 (Oct.cons g7.1 g7.2 (Oct.cons g8.1 g8.2 (Oct.cons g9.1 g9.2 (Oct.nil)))))))))));have HC:=Ab hc;have G0:=Ab g10;have G1:=Ab g11;obtain ⟨i5,hi5,hs5⟩:=k3I;have cA:∀ W:World,(Instr.slice 22 (.slice (some ad) 12 c) none (some (.int .i64 10)) (some (.int .i64 10))).run Tryz.prog W = .ok (.slice (some ad) 10 10) W:=fun W=>k25 22 5 .i64 .i64 Tryz.underlying22 hi5 _ _ _ 10 zz1 zz1 W
 have cB:∀ W:World,(Instr.slice 22 (.slice (some ad) 12 c) (some (.int .i64 10)) none none).run Tryz.prog W = .ok (.slice (some (ad.add 10)) 2 (c-10)) W:=fun W=>by
  rw [k12 22 5 .i64 Tryz.underlying22 hi5 1 hs5 (some ad) 12 c 10 zz1 zz1 W,if_neg zz1];rfl
 have ES:(crcI [x0,x1,x2,x3,x4,x5,x6,x7,x8,x9] != x10*256+x11)=false:=bne_eq_false_iff_eq.mpr hs;clear hs;have EX:(x0 == 1)=false:=beq_eq_false_iff_ne.mpr hx;clear hx;have W1:IntKind.i64.wrap (((12:Nat):Int)-2)=10:=by decide
 have W2:IntKind.i64.wrap (12-2)=10:=by decide
 have WC:IntKind.u32.wrap (crcI [x0,x1,x2,x3,x4,x5,x6,x7,x8,x9])=crcI [x0,x1,x2,x3,x4,x5,x6,x7,x8,x9]:=by rw [w32];exact Int.emod_eq_of_lt (k0j HM.out).1 zz23
 have W3:IntKind.i64.wrap 10=10:=by decide
 have I1:(10:Int)<=(c:Int):=by omega
 have ER:∀ x y:Int,(((crcI [x0,x1,x2,x3,x4,x5,x6,x7,x8,x9]:Int):Int) != (x10*256+x11))=true\/True:=fun _ _=>.inr trivial
 have CR:=k0j HM.out;clear hc hi5 hs5 hr ER;go_enter Tryz.func96,Tryz.ntmps96
 go_wp2_with fail
 have T0:=Ab (Two.new w);generalize ((w.alloc (.cells #[.int .u8 0,.int .u8 0,.int .u16 0,.int .u8 0,.int .u8 0,.int .u32 0] 163)).alloc (.cells #[.int .u8 0,.int .u8 0,.int .u16 0,.int .u8 0,.int .u8 0,.int .u32 0] 163))=w2 at T0 ⊢
 go_region_held3 (fun W=>Two w W) (first | exact T0.out.drew | exact T0.out | assumption | exact Two.below zz32 hbs)
  (first | (go_at_call 119;refine (k1d (some ad) 10 [x0,x1,x2,x3,x4,x5,x6,x7,x8,x9] _ (k0p (Two.reads zz32 H0.out) 0 10 zz17 rfl) HM.out).mono ?_;rintro e wn ⟨rfl,hbs⟩) | (go_at_call 133;refine (k3S (ad.add 10) (c-10) x10 x11 _ (k0p (Two.reads zz32 H0.out) 10 2 zz17 rfl) zz30 G0.out.1 G0.out.2 G1.out.1 G1.out.2).mono ?_;rintro e wn ⟨rfl,hbs⟩))
 rename_i hHeld
 have T3:=Ab hHeld;clear hHeld;obtain ⟨c0,c1,c2,c3,c4,c5⟩:=T3.out.1.cells;obtain ⟨d0,d1,d2,d3,d4,d5⟩:=T3.out.2.1.cells;have f0:=T3.out.1.free 0;have f1:=T3.out.1.free 1;have f2:=T3.out.1.free 2;have f3:=T3.out.1.free 3;have f4:=T3.out.1.free 4;have f5:=T3.out.1.free 5;have e0:=k0X (Two.reads T3.out H0.out)
 go_wp2_with fail
 refine bodyPost_ret (k0J rfl _ _ w.heap.size 163 _ (0,0) _ (by rfl) (Box.set6 T3.out.1 _ _ _ _ _ _) Tryz.underlying163 rfl zz3) rfl ?_;exact ⟨rfl,k2G T3.out.2.2 (Nat.le_refl _) _ _ _ _ _ _⟩
theorem kb3 (ad:Addr) (c:Nat) (x0 x1 x2 x3 x4 x5:Int) (w:World) (hr:ReadsInt w .u8 (some ad) 6 [x0,x1,x2,x3,x4,x5]) (hc:6<=c) (g0:0<=x0/\x0<=255) (g1:0<=x1/\x1<=255) (g2:0<=x2/\x2<=255) (g3:0<=x3/\x3<=255) (g4:0<=x4/\x4<=255) (g5:0<=x5/\x5<=255) (hs:crcI [x0,x1,x2,x3]=x4*256+x5) (hx:¬ x0=1) (hf:Wire.sound x0 x1 0 0 0=true):Calls Tryz.prog 96 #[.slice (some ad) 6 c] w (Back w (Fr.mk x0 x1 (x2*256+x3) 0 0 0) 0):=by
 have H0:=Ab (show ReadsInt w .u8 (some ad) ([x0,x1,x2,x3,x4,x5]:List Int).length [x0,x1,x2,x3,x4,x5] from hr);have HO:=Ab (show Oct [x0,x1,x2,x3,x4,x5] from Oct.cons g0.1 g0.2 (Oct.cons g1.1 g1.2 (Oct.cons g2.1 g2.2 (Oct.cons g3.1 g3.2 (Oct.cons g4.1 g4.2 (Oct.cons g5.1 g5.2 (Oct.nil)))))));have HM:=Ab (show Oct [x0,x1,x2,x3] from Oct.cons g0.1 g0.2 (Oct.cons g1.1 g1.2 (Oct.cons g2.1 g2.2 (Oct.cons g3.1 g3.2 (Oct.nil)))));have HC:=Ab hc;have G0:=Ab g4;have G1:=Ab g5;obtain ⟨i5,hi5,hs5⟩:=k3I;have cA:∀ W:World,(Instr.slice 22 (.slice (some ad) 6 c) none (some (.int .i64 4)) (some (.int .i64 4))).run Tryz.prog W = .ok (.slice (some ad) 4 4) W:=fun W=>k25 22 5 .i64 .i64 Tryz.underlying22 hi5 _ _ _ 4 zz1 zz1 W
 have cB:∀ W:World,(Instr.slice 22 (.slice (some ad) 6 c) (some (.int .i64 4)) none none).run Tryz.prog W = .ok (.slice (some (ad.add 4)) 2 (c-4)) W:=fun W=>by
  rw [k12 22 5 .i64 Tryz.underlying22 hi5 1 hs5 (some ad) 6 c 4 zz1 zz1 W,if_neg zz1];rfl
 have ES:(crcI [x0,x1,x2,x3] != x4*256+x5)=false:=bne_eq_false_iff_eq.mpr hs;clear hs;have EX:(x0 == 1)=false:=beq_eq_false_iff_ne.mpr hx;clear hx;have SF:=Ab hf;clear hf;have WS:IntKind.u16.wrap (x2*256+x3)=x2*256+x3:=by rw [w16];omega
 have G2:=Ab g2;have G3:=Ab g3;have cC:∀ W:World,(Instr.slice 22 (.slice (some ad) 6 c) (some (.int .i64 2)) (some (.int .i64 4)) none).run Tryz.prog W = .ok (.slice (some (ad.add 2)) 2 (c-2)) W:=fun W=>by
  rw [k3t 22 5 .i64 .i64 Tryz.underlying22 hi5 1 hs5 (some ad) 6 c 2 4 zz1 zz1 zz1 zz1 W,if_neg zz1];rfl
 have W1:IntKind.i64.wrap (((6:Nat):Int)-2)=4:=by decide
 have W2:IntKind.i64.wrap (6-2)=4:=by decide
 have WC:IntKind.u32.wrap (crcI [x0,x1,x2,x3])=crcI [x0,x1,x2,x3]:=by rw [w32];exact Int.emod_eq_of_lt (k0j HM.out).1 zz23
 have W3:IntKind.i64.wrap 4=4:=by decide
 have I1:(4:Int)<=(c:Int):=by omega
 have ER:∀ x y:Int,(((crcI [x0,x1,x2,x3]:Int):Int) != (x4*256+x5))=true\/True:=fun _ _=>.inr trivial
 have CR:=k0j HM.out;clear hc hi5 hs5 hr ER;go_enter Tryz.func96,Tryz.ntmps96
 go_wp2_with fail
 have T0:=Ab (Two.new w);generalize ((w.alloc (.cells #[.int .u8 0,.int .u8 0,.int .u16 0,.int .u8 0,.int .u8 0,.int .u32 0] 163)).alloc (.cells #[.int .u8 0,.int .u8 0,.int .u16 0,.int .u8 0,.int .u8 0,.int .u32 0] 163))=w2 at T0 ⊢
 go_region_held3 (fun W=>Two w W) (first | exact T0.out.drew | exact T0.out | assumption | exact Two.below zz32 hbs)
  (first | (go_at_call 119;refine (k1d (some ad) 4 [x0,x1,x2,x3] _ (k0p (Two.reads zz32 H0.out) 0 4 zz17 rfl) HM.out).mono ?_;rintro e wn ⟨rfl,hbs⟩) | (go_at_call 133;refine (k3S (ad.add 4) (c-4) x4 x5 _ (k0p (Two.reads zz32 H0.out) 4 2 zz17 rfl) zz30 G0.out.1 G0.out.2 G1.out.1 G1.out.2).mono ?_;rintro e wn ⟨rfl,hbs⟩))
 rename_i hHeld
 have T3:=Ab hHeld;clear hHeld;have e0:=k0X (Two.reads T3.out H0.out)
 go_wp2_with fail
 clear e0
 go_region_held3 (fun W=>W.cell? ad=some (.int .u8 x0)/\W.cell? ⟨ad.block,ad.off+1,none⟩=some (.int .u8 x1)/\W.frozen? ⟨w.heap.size+1,0,none⟩=false/\W.frozen? ⟨w.heap.size+1,1,none⟩=false/\W.frozen? ⟨w.heap.size+1,2,none⟩=false/\W.frozen? ⟨w.heap.size+1,3,none⟩=false/\W.frozen? ⟨w.heap.size+1,4,none⟩=false/\W.frozen? ⟨w.heap.size+1,5,none⟩=false)
  (first | (with_reducible exact ka3 T8.out H0.out _ _ _ _ _ _) | (with_reducible exact (k3O T8.out H0.out).2) | (with_reducible exact (k3O T3.out.drew H0.out).2) | (with_reducible exact (k3O T3.out H0.out).2))
  (first | (go_at_call 133;refine (k3S (ad.add 2) (c-2) x2 x3 _ (k0p (Two.reads T3.out.drew H0.out) 2 2 zz17 rfl) zz30 G2.out.1 G2.out.2 G3.out.1 G3.out.2).mono ?_;rintro e w8 ⟨rfl,hb8⟩;have T8:=Ab (Two.below T3.out.drew hb8);clear hb8;obtain ⟨d0,d1,d2,d3,d4,d5⟩:=T8.out.2.1.cells))
 rename_i hHeld
 clear hHeld d0 d1 d2 d3 d4 d5;have P9:=Ab (Two.six T8.out x0 x1 (x2*256+x3) 0 0 0);generalize ((((((w8.setCell ⟨w.heap.size+1,0,none⟩ (.int .u8 x0)).setCell ⟨w.heap.size+1,1,none⟩ (.int .u8 x1)).setCell ⟨w.heap.size+1,2,none⟩ (.int .u16 (x2*256+x3))).setCell ⟨w.heap.size+1,3,none⟩ (.int .u8 0)).setCell ⟨w.heap.size+1,4,none⟩ (.int .u8 0)).setCell ⟨w.heap.size+1,5,none⟩ (.int .u32 0))=w9 at P9 ⊢;obtain ⟨d0,d1,d2,d3,d4,d5⟩:=P9.out.2.1.cells
 go_wp2_with fail
 refine (k1j _ _ _ _ _ _ _).mono ?_;clear d0 d1 d2 d3 d4 d5;rw [SF.out];rintro e wA ⟨rfl,hb⟩;have PA:=Ab (P9.out.below hb);clear hb;obtain ⟨c0,c1,c2,c3,c4,c5⟩:=PA.out.1.cells;obtain ⟨d0,d1,d2,d3,d4,d5⟩:=PA.out.2.1.cells;have f0:=PA.out.1.free 0;have f1:=PA.out.1.free 1;have f2:=PA.out.1.free 2;have f3:=PA.out.1.free 3;have f4:=PA.out.1.free 4;have f5:=PA.out.1.free 5
 go_wp2_with fail
 refine bodyPost_ret (k0J rfl _ _ w.heap.size 163 _ (0,0) _ (by rfl) (Box.set6 PA.out.1 _ _ _ _ _ _) Tryz.underlying163 rfl zz3) rfl ?_;exact ⟨rfl,k2G PA.out.2.2 (Nat.le_refl _) _ _ _ _ _ _⟩
theorem k9T (ad:Addr) (c:Nat) (x0 x1 x2 x3 x4 x5:Int) (w:World) (hr:ReadsInt w .u8 (some ad) 6 [x0,x1,x2,x3,x4,x5]) (hc:6<=c) (g0:0<=x0/\x0<=255) (g1:0<=x1/\x1<=255) (g2:0<=x2/\x2<=255) (g3:0<=x3/\x3<=255) (g4:0<=x4/\x4<=255) (g5:0<=x5/\x5<=255) (hs:crcI [x0,x1,x2,x3]=x4*256+x5) (hx:¬ x0=1) (hf:Wire.sound x0 x1 0 0 0=false):Calls Tryz.prog 96 #[.slice (some ad) 6 c] w (Back w Fr.zero 30):=by
 have H0:=Ab (show ReadsInt w .u8 (some ad) ([x0,x1,x2,x3,x4,x5]:List Int).length [x0,x1,x2,x3,x4,x5] from hr);have HO:=Ab (show Oct [x0,x1,x2,x3,x4,x5] from Oct.cons g0.1 g0.2 (Oct.cons g1.1 g1.2 (Oct.cons g2.1 g2.2 (Oct.cons g3.1 g3.2 (Oct.cons g4.1 g4.2 (Oct.cons g5.1 g5.2 (Oct.nil)))))));have HM:=Ab (show Oct [x0,x1,x2,x3] from Oct.cons g0.1 g0.2 (Oct.cons g1.1 g1.2 (Oct.cons g2.1 g2.2 (Oct.cons g3.1 g3.2 (Oct.nil)))));have HC:=Ab hc;have G0:=Ab g4;have G1:=Ab g5;obtain ⟨i5,hi5,hs5⟩:=k3I;have cA:∀ W:World,(Instr.slice 22 (.slice (some ad) 6 c) none (some (.int .i64 4)) (some (.int .i64 4))).run Tryz.prog W = .ok (.slice (some ad) 4 4) W:=fun W=>k25 22 5 .i64 .i64 Tryz.underlying22 hi5 _ _ _ 4 zz1 zz1 W
 have cB:∀ W:World,(Instr.slice 22 (.slice (some ad) 6 c) (some (.int .i64 4)) none none).run Tryz.prog W = .ok (.slice (some (ad.add 4)) 2 (c-4)) W:=fun W=>by
  rw [k12 22 5 .i64 Tryz.underlying22 hi5 1 hs5 (some ad) 6 c 4 zz1 zz1 W,if_neg zz1];rfl
 have ES:(crcI [x0,x1,x2,x3] != x4*256+x5)=false:=bne_eq_false_iff_eq.mpr hs;clear hs;have EX:(x0 == 1)=false:=beq_eq_false_iff_ne.mpr hx;clear hx;have SF:=Ab hf;clear hf;have WS:IntKind.u16.wrap (x2*256+x3)=x2*256+x3:=by rw [w16];omega
 have G2:=Ab g2;have G3:=Ab g3;have cC:∀ W:World,(Instr.slice 22 (.slice (some ad) 6 c) (some (.int .i64 2)) (some (.int .i64 4)) none).run Tryz.prog W = .ok (.slice (some (ad.add 2)) 2 (c-2)) W:=fun W=>by
  rw [k3t 22 5 .i64 .i64 Tryz.underlying22 hi5 1 hs5 (some ad) 6 c 2 4 zz1 zz1 zz1 zz1 W,if_neg zz1];rfl
 have W1:IntKind.i64.wrap (((6:Nat):Int)-2)=4:=by decide
 have W2:IntKind.i64.wrap (6-2)=4:=by decide
 have WC:IntKind.u32.wrap (crcI [x0,x1,x2,x3])=crcI [x0,x1,x2,x3]:=by rw [w32];exact Int.emod_eq_of_lt (k0j HM.out).1 zz23
 have W3:IntKind.i64.wrap 4=4:=by decide
 have I1:(4:Int)<=(c:Int):=by omega
 have ER:∀ x y:Int,(((crcI [x0,x1,x2,x3]:Int):Int) != (x4*256+x5))=true\/True:=fun _ _=>.inr trivial
 have CR:=k0j HM.out;clear hc hi5 hs5 hr ER;go_enter Tryz.func96,Tryz.ntmps96
 go_wp2_with fail
 have T0:=Ab (Two.new w);generalize ((w.alloc (.cells #[.int .u8 0,.int .u8 0,.int .u16 0,.int .u8 0,.int .u8 0,.int .u32 0] 163)).alloc (.cells #[.int .u8 0,.int .u8 0,.int .u16 0,.int .u8 0,.int .u8 0,.int .u32 0] 163))=w2 at T0 ⊢
 go_region_held3 (fun W=>Two w W) (first | exact T0.out.drew | exact T0.out | assumption | exact Two.below zz32 hbs)
  (first | (go_at_call 119;refine (k1d (some ad) 4 [x0,x1,x2,x3] _ (k0p (Two.reads zz32 H0.out) 0 4 zz17 rfl) HM.out).mono ?_;rintro e wn ⟨rfl,hbs⟩) | (go_at_call 133;refine (k3S (ad.add 4) (c-4) x4 x5 _ (k0p (Two.reads zz32 H0.out) 4 2 zz17 rfl) zz30 G0.out.1 G0.out.2 G1.out.1 G1.out.2).mono ?_;rintro e wn ⟨rfl,hbs⟩))
 rename_i hHeld
 have T3:=Ab hHeld;clear hHeld;have e0:=k0X (Two.reads T3.out H0.out)
 go_wp2_with fail
 clear e0
 go_region_held3 (fun W=>W.cell? ad=some (.int .u8 x0)/\W.cell? ⟨ad.block,ad.off+1,none⟩=some (.int .u8 x1)/\W.frozen? ⟨w.heap.size+1,0,none⟩=false/\W.frozen? ⟨w.heap.size+1,1,none⟩=false/\W.frozen? ⟨w.heap.size+1,2,none⟩=false/\W.frozen? ⟨w.heap.size+1,3,none⟩=false/\W.frozen? ⟨w.heap.size+1,4,none⟩=false/\W.frozen? ⟨w.heap.size+1,5,none⟩=false)
  (first | (with_reducible exact ka3 T8.out H0.out _ _ _ _ _ _) | (with_reducible exact (k3O T8.out H0.out).2) | (with_reducible exact (k3O T3.out.drew H0.out).2) | (with_reducible exact (k3O T3.out H0.out).2))
  (first | (go_at_call 133;refine (k3S (ad.add 2) (c-2) x2 x3 _ (k0p (Two.reads T3.out.drew H0.out) 2 2 zz17 rfl) zz30 G2.out.1 G2.out.2 G3.out.1 G3.out.2).mono ?_;rintro e w8 ⟨rfl,hb8⟩;have T8:=Ab (Two.below T3.out.drew hb8);clear hb8;obtain ⟨d0,d1,d2,d3,d4,d5⟩:=T8.out.2.1.cells))
 rename_i hHeld
 clear hHeld d0 d1 d2 d3 d4 d5;have P9:=Ab (Two.six T8.out x0 x1 (x2*256+x3) 0 0 0);generalize ((((((w8.setCell ⟨w.heap.size+1,0,none⟩ (.int .u8 x0)).setCell ⟨w.heap.size+1,1,none⟩ (.int .u8 x1)).setCell ⟨w.heap.size+1,2,none⟩ (.int .u16 (x2*256+x3))).setCell ⟨w.heap.size+1,3,none⟩ (.int .u8 0)).setCell ⟨w.heap.size+1,4,none⟩ (.int .u8 0)).setCell ⟨w.heap.size+1,5,none⟩ (.int .u32 0))=w9 at P9 ⊢;obtain ⟨d0,d1,d2,d3,d4,d5⟩:=P9.out.2.1.cells
 go_wp2_with fail
 refine (k1j _ _ _ _ _ _ _).mono ?_;clear d0 d1 d2 d3 d4 d5;rw [SF.out];rintro e wA ⟨rfl,hb⟩;have PA:=Ab (P9.out.below hb);clear hb;obtain ⟨c0,c1,c2,c3,c4,c5⟩:=PA.out.1.cells;obtain ⟨d0,d1,d2,d3,d4,d5⟩:=PA.out.2.1.cells;have f0:=PA.out.1.free 0;have f1:=PA.out.1.free 1;have f2:=PA.out.1.free 2;have f3:=PA.out.1.free 3;have f4:=PA.out.1.free 4;have f5:=PA.out.1.free 5
 go_wp2_with fail
 refine bodyPost_ret (k0J rfl _ _ w.heap.size 163 _ (0,0) _ (by rfl) (Box.set6 PA.out.1 _ _ _ _ _ _) Tryz.underlying163 rfl zz3) rfl ?_;exact ⟨rfl,k2G PA.out.2.2 (Nat.le_refl _) _ _ _ _ _ _⟩
theorem kaF (ad:Addr) (c:Nat) (x0 x1 x2 x3 x4 x5 x6 x7 x8 x9 x10 x11:Int) (w:World) (hr:ReadsInt w .u8 (some ad) 12 [x0,x1,x2,x3,x4,x5,x6,x7,x8,x9,x10,x11]) (hc:12<=c) (g0:0<=x0/\x0<=255) (g1:0<=x1/\x1<=255) (g2:0<=x2/\x2<=255) (g3:0<=x3/\x3<=255) (g4:0<=x4/\x4<=255) (g5:0<=x5/\x5<=255) (g6:0<=x6/\x6<=255) (g7:0<=x7/\x7<=255) (g8:0<=x8/\x8<=255) (g9:0<=x9/\x9<=255) (g10:0<=x10/\x10<=255) (g11:0<=x11/\x11<=255) (hs:crcI [x0,x1,x2,x3,x4,x5,x6,x7,x8,x9]=x10*256+x11) (hx:x0=1) (hf:Wire.sound x0 x1 x4 x5 (x6*16777216+x7*65536+x8*256+x9)=true):Calls Tryz.prog 96 #[.slice (some ad) 12 c] w (Back w (Fr.mk x0 x1 (x2*256+x3) x4 x5 (x6*16777216+x7*65536+x8*256+x9)) 0):=by
 have H0:=Ab (show ReadsInt w .u8 (some ad) ([x0,x1,x2,x3,x4,x5,x6,x7,x8,x9,x10,x11]:List Int).length [x0,x1,x2,x3,x4,x5,x6,x7,x8,x9,x10,x11] from hr);have HO:=Ab (show Oct [x0,x1,x2,x3,x4,x5,x6,x7,x8,x9,x10,x11] from Oct.cons g0.1 g0.2 (Oct.cons g1.1 g1.2 (Oct.cons g2.1 g2.2 (Oct.cons g3.1 g3.2 (Oct.cons g4.1 g4.2 (Oct.cons g5.1 g5.2 (Oct.cons g6.1 g6.2 (Oct.cons g7.1 g7.2 (Oct.cons g8.1 g8.2 (Oct.cons g9.1 g9.2 (Oct.cons g10.1 g10.2 (Oct.cons g11.1 g11.2 (Oct.nil)))))))))))));have HM:=Ab (show Oct [x0,x1,x2,x3,x4,x5,x6,x7,x8,x9] from Oct.cons g0.1 g0.2 (Oct.cons g1.1 g1.2 (Oct.cons g2.1 g2.2 (Oct.cons g3.1 g3.2 (Oct.cons g4.1 g4.2 (Oct.cons g5.1 g5.2 (Oct.cons g6.1 g6.2 (Oct.cons g7.1 g7.2 (Oct.cons g8.1 g8.2 (Oct.cons g9.1 g9.2 (Oct.nil)))))))))));have HC:=Ab hc;have G0:=Ab g10;have G1:=Ab g11;obtain ⟨i5,hi5,hs5⟩:=k3I;have cA:∀ W:World,(Instr.slice 22 (.slice (some ad) 12 c) none (some (.int .i64 10)) (some (.int .i64 10))).run Tryz.prog W = .ok (.slice (some ad) 10 10) W:=fun W=>k25 22 5 .i64 .i64 Tryz.underlying22 hi5 _ _ _ 10 zz1 zz1 W
 have cB:∀ W:World,(Instr.slice 22 (.slice (some ad) 12 c) (some (.int .i64 10)) none none).run Tryz.prog W = .ok (.slice (some (ad.add 10)) 2 (c-10)) W:=fun W=>by
  rw [k12 22 5 .i64 Tryz.underlying22 hi5 1 hs5 (some ad) 12 c 10 zz1 zz1 W,if_neg zz1];rfl
 have ES:(crcI [x0,x1,x2,x3,x4,x5,x6,x7,x8,x9] != x10*256+x11)=false:=bne_eq_false_iff_eq.mpr hs;clear hs;have EX:(x0 == 1)=true:=beq_iff_eq.mpr hx;clear hx;have SF:=Ab hf;clear hf;have WS:IntKind.u16.wrap (x2*256+x3)=x2*256+x3:=by rw [w16];omega
 have G2:=Ab g2;have G3:=Ab g3;have cC:∀ W:World,(Instr.slice 22 (.slice (some ad) 12 c) (some (.int .i64 2)) (some (.int .i64 4)) none).run Tryz.prog W = .ok (.slice (some (ad.add 2)) 2 (c-2)) W:=fun W=>by
  rw [k3t 22 5 .i64 .i64 Tryz.underlying22 hi5 1 hs5 (some ad) 12 c 2 4 zz1 zz1 zz1 zz1 W,if_neg zz1];rfl
 have cD:∀ W:World,(Instr.slice 22 (.slice (some ad) 12 c) (some (.int .i64 6)) (some (.int .i64 10)) none).run Tryz.prog W = .ok (.slice (some (ad.add 6)) 4 (c-6)) W:=fun W=>by
  rw [k3t 22 5 .i64 .i64 Tryz.underlying22 hi5 1 hs5 (some ad) 12 c 6 10 zz1 zz1 zz1 zz1 W,if_neg zz1];rfl
 have HL:=Ab (show 12<=([x0,x1,x2,x3,x4,x5,x6,x7,x8,x9,x10,x11]:List Int).length by simp);have E4:=Ab (show ([x0,x1,x2,x3,x4,x5,x6,x7,x8,x9,x10,x11]:List Int).getD 4 0=x4 from rfl);have E5:=Ab (show ([x0,x1,x2,x3,x4,x5,x6,x7,x8,x9,x10,x11]:List Int).getD 5 0=x5 from rfl);have G6:=Ab g6;have G7:=Ab g7;have G8:=Ab g8;have G9:=Ab g9;have W1:IntKind.i64.wrap (((12:Nat):Int)-2)=10:=by decide
 have W2:IntKind.i64.wrap (12-2)=10:=by decide
 have WC:IntKind.u32.wrap (crcI [x0,x1,x2,x3,x4,x5,x6,x7,x8,x9])=crcI [x0,x1,x2,x3,x4,x5,x6,x7,x8,x9]:=by rw [w32];exact Int.emod_eq_of_lt (k0j HM.out).1 zz23
 have W3:IntKind.i64.wrap 10=10:=by decide
 have I1:(10:Int)<=(c:Int):=by omega
 have ER:∀ x y:Int,(((crcI [x0,x1,x2,x3,x4,x5,x6,x7,x8,x9]:Int):Int) != (x10*256+x11))=true\/True:=fun _ _=>.inr trivial
 have CR:=k0j HM.out;clear hc hi5 hs5 hr ER;go_enter Tryz.func96,Tryz.ntmps96
 go_wp2_with fail
 have T0:=Ab (Two.new w);generalize ((w.alloc (.cells #[.int .u8 0,.int .u8 0,.int .u16 0,.int .u8 0,.int .u8 0,.int .u32 0] 163)).alloc (.cells #[.int .u8 0,.int .u8 0,.int .u16 0,.int .u8 0,.int .u8 0,.int .u32 0] 163))=w2 at T0 ⊢
 go_region_held3 (fun W=>Two w W) (first | exact T0.out.drew | exact T0.out | assumption | exact Two.below zz32 hbs)
  (first | (go_at_call 119;refine (k1d (some ad) 10 [x0,x1,x2,x3,x4,x5,x6,x7,x8,x9] _ (k0p (Two.reads zz32 H0.out) 0 10 zz17 rfl) HM.out).mono ?_;rintro e wn ⟨rfl,hbs⟩) | (go_at_call 133;refine (k3S (ad.add 10) (c-10) x10 x11 _ (k0p (Two.reads zz32 H0.out) 10 2 zz17 rfl) zz30 G0.out.1 G0.out.2 G1.out.1 G1.out.2).mono ?_;rintro e wn ⟨rfl,hbs⟩))
 rename_i hHeld
 have T3:=Ab hHeld;clear hHeld;have e0:=k0X (Two.reads T3.out H0.out)
 go_wp2_with fail
 clear e0
 go_region_held3 (fun W=>W.cell? ad=some (.int .u8 x0)/\W.cell? ⟨ad.block,ad.off+1,none⟩=some (.int .u8 x1)/\W.frozen? ⟨w.heap.size+1,0,none⟩=false/\W.frozen? ⟨w.heap.size+1,1,none⟩=false/\W.frozen? ⟨w.heap.size+1,2,none⟩=false/\W.frozen? ⟨w.heap.size+1,3,none⟩=false/\W.frozen? ⟨w.heap.size+1,4,none⟩=false/\W.frozen? ⟨w.heap.size+1,5,none⟩=false)
  (first | (with_reducible exact ka3 T8.out H0.out _ _ _ _ _ _) | (with_reducible exact (k3O T8.out H0.out).2) | (with_reducible exact (k3O T3.out.drew H0.out).2) | (with_reducible exact (k3O T3.out H0.out).2))
  (first | (go_at_call 133;refine (k3S (ad.add 2) (c-2) x2 x3 _ (k0p (Two.reads T3.out.drew H0.out) 2 2 zz17 rfl) zz30 G2.out.1 G2.out.2 G3.out.1 G3.out.2).mono ?_;rintro e w8 ⟨rfl,hb8⟩;have T8:=Ab (Two.below T3.out.drew hb8);clear hb8;obtain ⟨d0,d1,d2,d3,d4,d5⟩:=T8.out.2.1.cells))
 rename_i hHeld
 clear hHeld d0 d1 d2 d3 d4 d5;have P9:=Ab (Two.six T8.out x0 x1 (x2*256+x3) 0 0 0);generalize ((((((w8.setCell ⟨w.heap.size+1,0,none⟩ (.int .u8 x0)).setCell ⟨w.heap.size+1,1,none⟩ (.int .u8 x1)).setCell ⟨w.heap.size+1,2,none⟩ (.int .u16 (x2*256+x3))).setCell ⟨w.heap.size+1,3,none⟩ (.int .u8 0)).setCell ⟨w.heap.size+1,4,none⟩ (.int .u8 0)).setCell ⟨w.heap.size+1,5,none⟩ (.int .u32 0))=w9 at P9 ⊢
 go_wp2_with fail
 go_region_held3 (fun W=>W.cell? ⟨ad.block,ad.off+4,none⟩=some (.int .u8 x4)/\W.cell? ⟨ad.block,ad.off+5,none⟩=some (.int .u8 x5)/\W.frozen? ⟨w.heap.size+1,3,none⟩=false/\W.frozen? ⟨w.heap.size+1,4,none⟩=false/\W.frozen? ⟨w.heap.size+1,5,none⟩=false)
  (first | (with_reducible exact k90 P10.out H0.out HL.out E4.out E5.out _ _ _) | (with_reducible exact k8L P10.out H0.out HL.out E4.out E5.out _ _) | (with_reducible exact k9u P10.out H0.out HL.out E4.out E5.out _) | (with_reducible exact k3r P10.out H0.out HL.out E4.out E5.out) | (with_reducible exact k3r P9.out.drew H0.out HL.out E4.out E5.out) | (with_reducible exact k3r P9.out H0.out HL.out E4.out E5.out))
  (first | (go_at_call 133;refine (kcA (ad.add 6) (c-6) x6 x7 x8 x9 _ (k0p (Pair.reads P9.out.drew H0.out) 6 4 zz17 rfl) zz30 G6.out.1 G6.out.2 G7.out.1 G7.out.2 G8.out.1 G8.out.2 G9.out.1 G9.out.2).mono ?_;rintro e w10 ⟨rfl,hb8⟩;have P10:=Ab (Pair.below P9.out.drew hb8);clear hb8;obtain ⟨d0,d1,d2,d3,d4,d5⟩:=P10.out.2.1.cells))
 rename_i hHeld
 clear hHeld d0 d1 d2 d3 d4 d5 P9;have P9:=Ab (Pair.three P10.out x4 x5 (x6*16777216+x7*65536+x8*256+x9));generalize (((w10.setCell ⟨w.heap.size+1,3,none⟩ (.int .u8 x4)).setCell ⟨w.heap.size+1,4,none⟩ (.int .u8 x5)).setCell ⟨w.heap.size+1,5,none⟩ (.int .u32 (x6*16777216+x7*65536+x8*256+x9)))=w9 at P9 ⊢;obtain ⟨d0,d1,d2,d3,d4,d5⟩:=P9.out.2.1.cells
 go_wp2_with fail
 refine (k1j _ _ _ _ _ _ _).mono ?_;clear d0 d1 d2 d3 d4 d5;rw [SF.out];rintro e wA ⟨rfl,hb⟩;have PA:=Ab (P9.out.below hb);clear hb;obtain ⟨c0,c1,c2,c3,c4,c5⟩:=PA.out.1.cells;obtain ⟨d0,d1,d2,d3,d4,d5⟩:=PA.out.2.1.cells;have f0:=PA.out.1.free 0;have f1:=PA.out.1.free 1;have f2:=PA.out.1.free 2;have f3:=PA.out.1.free 3;have f4:=PA.out.1.free 4;have f5:=PA.out.1.free 5
 go_wp2_with fail
 refine bodyPost_ret (k0J rfl _ _ w.heap.size 163 _ (0,0) _ (by rfl) (Box.set6 PA.out.1 _ _ _ _ _ _) Tryz.underlying163 rfl zz3) rfl ?_;exact ⟨rfl,k2G PA.out.2.2 (Nat.le_refl _) _ _ _ _ _ _⟩
theorem k9o (ad:Addr) (c:Nat) (x0 x1 x2 x3 x4 x5 x6 x7 x8 x9 x10 x11:Int) (w:World) (hr:ReadsInt w .u8 (some ad) 12 [x0,x1,x2,x3,x4,x5,x6,x7,x8,x9,x10,x11]) (hc:12<=c) (g0:0<=x0/\x0<=255) (g1:0<=x1/\x1<=255) (g2:0<=x2/\x2<=255) (g3:0<=x3/\x3<=255) (g4:0<=x4/\x4<=255) (g5:0<=x5/\x5<=255) (g6:0<=x6/\x6<=255) (g7:0<=x7/\x7<=255) (g8:0<=x8/\x8<=255) (g9:0<=x9/\x9<=255) (g10:0<=x10/\x10<=255) (g11:0<=x11/\x11<=255) (hs:crcI [x0,x1,x2,x3,x4,x5,x6,x7,x8,x9]=x10*256+x11) (hx:x0=1) (hf:Wire.sound x0 x1 x4 x5 (x6*16777216+x7*65536+x8*256+x9)=false):Calls Tryz.prog 96 #[.slice (some ad) 12 c] w (Back w Fr.zero 30):=by
 have H0:=Ab (show ReadsInt w .u8 (some ad) ([x0,x1,x2,x3,x4,x5,x6,x7,x8,x9,x10,x11]:List Int).length [x0,x1,x2,x3,x4,x5,x6,x7,x8,x9,x10,x11] from hr);have HO:=Ab (show Oct [x0,x1,x2,x3,x4,x5,x6,x7,x8,x9,x10,x11] from Oct.cons g0.1 g0.2 (Oct.cons g1.1 g1.2 (Oct.cons g2.1 g2.2 (Oct.cons g3.1 g3.2 (Oct.cons g4.1 g4.2 (Oct.cons g5.1 g5.2 (Oct.cons g6.1 g6.2 (Oct.cons g7.1 g7.2 (Oct.cons g8.1 g8.2 (Oct.cons g9.1 g9.2 (Oct.cons g10.1 g10.2 (Oct.cons g11.1 g11.2 (Oct.nil)))))))))))));have HM:=Ab (show Oct [x0,x1,x2,x3,x4,x5,x6,x7,x8,x9] from Oct.cons g0.1 g0.2 (Oct.cons g1.1 g1.2 (Oct.cons g2.1 g2.2 (Oct.cons g3.1 g3.2 (Oct.cons g4.1 g4.2 (Oct.cons g5.1 g5.2 (Oct.cons g6.1 g6.2 (Oct.cons g7.1 g7.2 (Oct.cons g8.1 g8.2 (Oct.cons g9.1 g9.2 (Oct.nil)))))))))));have HC:=Ab hc;have G0:=Ab g10;have G1:=Ab g11;obtain ⟨i5,hi5,hs5⟩:=k3I;have cA:∀ W:World,(Instr.slice 22 (.slice (some ad) 12 c) none (some (.int .i64 10)) (some (.int .i64 10))).run Tryz.prog W = .ok (.slice (some ad) 10 10) W:=fun W=>k25 22 5 .i64 .i64 Tryz.underlying22 hi5 _ _ _ 10 zz1 zz1 W
 have cB:∀ W:World,(Instr.slice 22 (.slice (some ad) 12 c) (some (.int .i64 10)) none none).run Tryz.prog W = .ok (.slice (some (ad.add 10)) 2 (c-10)) W:=fun W=>by
  rw [k12 22 5 .i64 Tryz.underlying22 hi5 1 hs5 (some ad) 12 c 10 zz1 zz1 W,if_neg zz1];rfl
 have ES:(crcI [x0,x1,x2,x3,x4,x5,x6,x7,x8,x9] != x10*256+x11)=false:=bne_eq_false_iff_eq.mpr hs;clear hs;have EX:(x0 == 1)=true:=beq_iff_eq.mpr hx;clear hx;have SF:=Ab hf;clear hf;have WS:IntKind.u16.wrap (x2*256+x3)=x2*256+x3:=by rw [w16];omega
 have G2:=Ab g2;have G3:=Ab g3;have cC:∀ W:World,(Instr.slice 22 (.slice (some ad) 12 c) (some (.int .i64 2)) (some (.int .i64 4)) none).run Tryz.prog W = .ok (.slice (some (ad.add 2)) 2 (c-2)) W:=fun W=>by
  rw [k3t 22 5 .i64 .i64 Tryz.underlying22 hi5 1 hs5 (some ad) 12 c 2 4 zz1 zz1 zz1 zz1 W,if_neg zz1];rfl
 have cD:∀ W:World,(Instr.slice 22 (.slice (some ad) 12 c) (some (.int .i64 6)) (some (.int .i64 10)) none).run Tryz.prog W = .ok (.slice (some (ad.add 6)) 4 (c-6)) W:=fun W=>by
  rw [k3t 22 5 .i64 .i64 Tryz.underlying22 hi5 1 hs5 (some ad) 12 c 6 10 zz1 zz1 zz1 zz1 W,if_neg zz1];rfl
 have HL:=Ab (show 12<=([x0,x1,x2,x3,x4,x5,x6,x7,x8,x9,x10,x11]:List Int).length by simp);have E4:=Ab (show ([x0,x1,x2,x3,x4,x5,x6,x7,x8,x9,x10,x11]:List Int).getD 4 0=x4 from rfl);have E5:=Ab (show ([x0,x1,x2,x3,x4,x5,x6,x7,x8,x9,x10,x11]:List Int).getD 5 0=x5 from rfl);have G6:=Ab g6;have G7:=Ab g7;have G8:=Ab g8;have G9:=Ab g9;have W1:IntKind.i64.wrap (((12:Nat):Int)-2)=10:=by decide
 have W2:IntKind.i64.wrap (12-2)=10:=by decide
 have WC:IntKind.u32.wrap (crcI [x0,x1,x2,x3,x4,x5,x6,x7,x8,x9])=crcI [x0,x1,x2,x3,x4,x5,x6,x7,x8,x9]:=by rw [w32];exact Int.emod_eq_of_lt (k0j HM.out).1 zz23
 have W3:IntKind.i64.wrap 10=10:=by decide
 have I1:(10:Int)<=(c:Int):=by omega
 have ER:∀ x y:Int,(((crcI [x0,x1,x2,x3,x4,x5,x6,x7,x8,x9]:Int):Int) != (x10*256+x11))=true\/True:=fun _ _=>.inr trivial
 have CR:=k0j HM.out;clear hc hi5 hs5 hr ER;go_enter Tryz.func96,Tryz.ntmps96
 go_wp2_with fail
 have T0:=Ab (Two.new w);generalize ((w.alloc (.cells #[.int .u8 0,.int .u8 0,.int .u16 0,.int .u8 0,.int .u8 0,.int .u32 0] 163)).alloc (.cells #[.int .u8 0,.int .u8 0,.int .u16 0,.int .u8 0,.int .u8 0,.int .u32 0] 163))=w2 at T0 ⊢
 go_region_held3 (fun W=>Two w W) (first | exact T0.out.drew | exact T0.out | assumption | exact Two.below zz32 hbs)
  (first | (go_at_call 119;refine (k1d (some ad) 10 [x0,x1,x2,x3,x4,x5,x6,x7,x8,x9] _ (k0p (Two.reads zz32 H0.out) 0 10 zz17 rfl) HM.out).mono ?_;rintro e wn ⟨rfl,hbs⟩) | (go_at_call 133;refine (k3S (ad.add 10) (c-10) x10 x11 _ (k0p (Two.reads zz32 H0.out) 10 2 zz17 rfl) zz30 G0.out.1 G0.out.2 G1.out.1 G1.out.2).mono ?_;rintro e wn ⟨rfl,hbs⟩))
 rename_i hHeld
 have T3:=Ab hHeld;clear hHeld;have e0:=k0X (Two.reads T3.out H0.out)
 go_wp2_with fail
 clear e0
 go_region_held3 (fun W=>W.cell? ad=some (.int .u8 x0)/\W.cell? ⟨ad.block,ad.off+1,none⟩=some (.int .u8 x1)/\W.frozen? ⟨w.heap.size+1,0,none⟩=false/\W.frozen? ⟨w.heap.size+1,1,none⟩=false/\W.frozen? ⟨w.heap.size+1,2,none⟩=false/\W.frozen? ⟨w.heap.size+1,3,none⟩=false/\W.frozen? ⟨w.heap.size+1,4,none⟩=false/\W.frozen? ⟨w.heap.size+1,5,none⟩=false)
  (first | (with_reducible exact ka3 T8.out H0.out _ _ _ _ _ _) | (with_reducible exact (k3O T8.out H0.out).2) | (with_reducible exact (k3O T3.out.drew H0.out).2) | (with_reducible exact (k3O T3.out H0.out).2))
  (first | (go_at_call 133;refine (k3S (ad.add 2) (c-2) x2 x3 _ (k0p (Two.reads T3.out.drew H0.out) 2 2 zz17 rfl) zz30 G2.out.1 G2.out.2 G3.out.1 G3.out.2).mono ?_;rintro e w8 ⟨rfl,hb8⟩;have T8:=Ab (Two.below T3.out.drew hb8);clear hb8;obtain ⟨d0,d1,d2,d3,d4,d5⟩:=T8.out.2.1.cells))
 rename_i hHeld
 clear hHeld d0 d1 d2 d3 d4 d5;have P9:=Ab (Two.six T8.out x0 x1 (x2*256+x3) 0 0 0);generalize ((((((w8.setCell ⟨w.heap.size+1,0,none⟩ (.int .u8 x0)).setCell ⟨w.heap.size+1,1,none⟩ (.int .u8 x1)).setCell ⟨w.heap.size+1,2,none⟩ (.int .u16 (x2*256+x3))).setCell ⟨w.heap.size+1,3,none⟩ (.int .u8 0)).setCell ⟨w.heap.size+1,4,none⟩ (.int .u8 0)).setCell ⟨w.heap.size+1,5,none⟩ (.int .u32 0))=w9 at P9 ⊢
 go_wp2_with fail
 go_region_held3 (fun W=>W.cell? ⟨ad.block,ad.off+4,none⟩=some (.int .u8 x4)/\W.cell? ⟨ad.block,ad.off+5,none⟩=some (.int .u8 x5)/\W.frozen? ⟨w.heap.size+1,3,none⟩=false/\W.frozen? ⟨w.heap.size+1,4,none⟩=false/\W.frozen? ⟨w.heap.size+1,5,none⟩=false)
  (first | (with_reducible exact k90 P10.out H0.out HL.out E4.out E5.out _ _ _) | (with_reducible exact k8L P10.out H0.out HL.out E4.out E5.out _ _) | (with_reducible exact k9u P10.out H0.out HL.out E4.out E5.out _) | (with_reducible exact k3r P10.out H0.out HL.out E4.out E5.out) | (with_reducible exact k3r P9.out.drew H0.out HL.out E4.out E5.out) | (with_reducible exact k3r P9.out H0.out HL.out E4.out E5.out))
  (first | (go_at_call 133;refine (kcA (ad.add 6) (c-6) x6 x7 x8 x9 _ (k0p (Pair.reads P9.out.drew H0.out) 6 4 zz17 rfl) zz30 G6.out.1 G6.out.2 G7.out.1 G7.out.2 G8.out.1 G8.out.2 G9.out.1 G9.out.2).mono ?_;rintro e w10 ⟨rfl,hb8⟩;have P10:=Ab (Pair.below P9.out.drew hb8);clear hb8;obtain ⟨d0,d1,d2,d3,d4,d5⟩:=P10.out.2.1.cells))
 rename_i hHeld
 clear hHeld d0 d1 d2 d3 d4 d5 P9;have P9:=Ab (Pair.three P10.out x4 x5 (x6*16777216+x7*65536+x8*256+x9));generalize (((w10.setCell ⟨w.heap.size+1,3,none⟩ (.int .u8 x4)).setCell ⟨w.heap.size+1,4,none⟩ (.int .u8 x5)).setCell ⟨w.heap.size+1,5,none⟩ (.int .u32 (x6*16777216+x7*65536+x8*256+x9)))=w9 at P9 ⊢;obtain ⟨d0,d1,d2,d3,d4,d5⟩:=P9.out.2.1.cells
 go_wp2_with fail
 refine (k1j _ _ _ _ _ _ _).mono ?_;clear d0 d1 d2 d3 d4 d5;rw [SF.out];rintro e wA ⟨rfl,hb⟩;have PA:=Ab (P9.out.below hb);clear hb;obtain ⟨c0,c1,c2,c3,c4,c5⟩:=PA.out.1.cells;obtain ⟨d0,d1,d2,d3,d4,d5⟩:=PA.out.2.1.cells;have f0:=PA.out.1.free 0;have f1:=PA.out.1.free 1;have f2:=PA.out.1.free 2;have f3:=PA.out.1.free 3;have f4:=PA.out.1.free 4;have f5:=PA.out.1.free 5
 go_wp2_with fail
 refine bodyPost_ret (k0J rfl _ _ w.heap.size 163 _ (0,0) _ (by rfl) (Box.set6 PA.out.1 _ _ _ _ _ _) Tryz.underlying163 rfl zz3) rfl ?_;exact ⟨rfl,k2G PA.out.2.2 (Nat.le_refl _) _ _ _ _ _ _⟩
end Go.Proofs.YtdopmlopafgonaaGreatDoor.Wire
