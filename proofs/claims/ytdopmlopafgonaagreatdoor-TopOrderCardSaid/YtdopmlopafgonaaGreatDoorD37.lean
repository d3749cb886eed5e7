/- TopOrder: of each flow what came is some of what was injected, in its order (a part of the walks and of the plain laws). -/
import Derived.Test.YtdopmlopafgonaaGreatDoorD0
import Derived.Test.YtdopmlopafgonaaGreatDoorD36
set_option linter.unusedVariables false
set_option linter.unusedSimpArgs false
set_option maxHeartbeats 4000000
set_option maxRecDepth 100000
namespace Go.Proofs.YtdopmlopafgonaaGreatDoor.Own
open Go.RowKit Go.Proofs.YtdopmlopafgonaaGreatDoorW.PrintWords Go.Proofs.YtdopmlopafgonaaGreatDoorW.PrintLast Go.Proofs.YtdopmlopafgonaaGreatDoorW.PrintMore Go.Proofs.YtdopmlopafgonaaGreatDoor.PTopQuick
theorem k2C{a n:Int}(a0:0<=a)(a1:a<=2000000)(n0:0<=n)(h1:n<a+32768)(h2:a-32768<=n):k0p a (n % 65536)=n:=by
 unfold k0p;have e:(n % 65536-(a-32768)) % 65536=n-a+32768:=by omega
 rw[e];exact zz1
abbrev Lg:=Nat×Nat->Nat->List Pk
def addL(L:Lg)(a:Nat×Nat)(k:Nat)(x:Pk):Lg:=fun b j=>if b=a/\j=k then L b j++[x] else L b j
theorem k2h(L:Lg)(a:Nat×Nat)(k:Nat)(x:Pk):addL L a k x a k=L a k++[x]:=by simp[addL]
theorem k2E(L:Lg){a b:Nat×Nat}{k j:Nat}(x:Pk)(h:¬(b=a/\j=k)):addL L a k x b j=L b j:=by simp only[addL,if_neg h]
theorem k84(L:Lg)(a:Nat×Nat)(k:Nat)(x:Pk)(b:Nat×Nat)(j:Nat):L b j <+: addL L a k x b j:=by
 by_cases h:b=a/\j=k
 ·obtain⟨rfl,rfl⟩:=h;rw[k2h];exact List.prefix_append _ _
 ·rw[k2E L x h];exact List.prefix_refl _
def rcvN(D:PlanD)(nd:Nat->NSt)(a:Nat×Nat)(k:Nat):Nat:=(((nd a.2).rcv (k08 D a.2 a.1) k).1-D.start).toNat
def cont(D:PlanD)(nd:Nat->NSt)(L:Lg):Pl->List Pk
 |.came v=>(nd v).waits 3
 |.q v i j k=>(nd v).q (i,j,k)
 |.fly x y k=>(L (x,y) k).drop (rcvN D nd (x,y) k)
 |.wait v k=>if k<3 then(nd v).waits k else[]
theorem k2j{D:PlanD}{nd nd':Nat->NSt}{L L':Lg}{r:Pl}
 (hc:∀u,r=.came u->(nd' u).waits 3=(nd u).waits 3)
 (hq:∀u i j k,r=.q u i j k->(nd' u).q (i,j,k)=(nd u).q (i,j,k))
 (hf:∀x y k,r=.fly x y k->(L' (x,y) k).drop (rcvN D nd' (x,y) k)=(L (x,y) k).drop (rcvN D nd (x,y) k))
 (hw:∀u k,r=.wait u k->k<3->(nd' u).waits k=(nd u).waits k):cont D nd' L' r=cont D nd L r:=by
 cases r with
 |came u=>exact hc u rfl
 |q u i j k=>exact hq u i j k rfl
 |fly x y k=>exact hf x y k rfl
 |wait u k=>
  by_cases h:k<3
  ·simp only[cont,if_pos h];exact hw u k rfl h
  ·simp only[cont,if_neg h]
def FrOk(D:PlanD)(L:Lg)(a:Nat×Nat)(F:Wire.Fr):Prop:=
 F.k=2\/(∃(k i:Nat)(x:Pk),k<D.lanes/\(L a k)[i]? = some x/\F=k2H k ((D.start:Int)+i) x)\/∃(k n:Nat),k<D.lanes/\n<=(L a k).length/\F=ctlF 3 k ((D.start:Int)+n)
def RowOk(D:PlanD)(L:Lg)(a:Nat×Nat)(r:List Int):Prop:=∃(F:Wire.Fr)(b:Int),F.wf/\F.sound=true/\FrOk D L a F/\0<=b/\b<=255/\r=F.bytes.set 0 b
theorem k4h(F:Wire.Fr):0<F.bytes.length:=by rw[Wire.bytes_len];split<;>omega
theorem kaL{a b:Int}(a0:0<=a)(a1:a<=255)(b0:0<=b)(b1:b<=255):bits .xor .u8 a (bits .xor .u8 a b)=b:=by
 have hr:=Wire.xor8_range a0 a1 b0 b1;rw[u8_xor a _ a0 zz1 hr.1 zz1,u8_xor a b a0 zz1 b0 zz1,Int.toNat_natCast,<- Nat.xor_assoc,Nat.xor_self,Nat.zero_xor];exact zz1
theorem RowOk.of_fr{D:PlanD}{L:Lg}{a:Nat×Nat}{F:Wire.Fr}(hw:F.wf)(hs:F.sound=true)(h:FrOk D L a F):RowOk D L a F.bytes:=by
 have hb:=(Wire.oct_bytes hw).getD 0;refine⟨F,F.bytes.getD 0 0,hw,hs,h,hb.1,hb.2,?_⟩;rw[List.getD_eq_getElem?_getD,List.getElem?_eq_getElem (k4h F),Option.getD_some,List.set_getElem_self]
theorem RowOk.dec{D:PlanD}{L:Lg}{a:Nat×Nat}{r:List Int}(h:RowOk D L a r):Wire.dec r=none\/∃F,Wire.dec r=some F/\F.wf/\F.sound=true/\FrOk D L a F:=by
 obtain⟨F,b,hw,hs,hf,b0,b1,rfl⟩:=h;have hb:=(Wire.oct_bytes hw).getD 0;have e:=kaL hb.1 hb.2 b0 b1;have hr:=Wire.xor8_range hb.1 hb.2 b0 b1;rw[<- e];by_cases h0:bits .xor .u8 (F.bytes.getD 0 0) b=0
 ·right
  rw[h0];exact⟨F,Wire.bends_same hw hs 0 (k4h F),hw,hs,hf⟩
 ·left
  exact Wire.bends_none hw 0 (k4h F) _ hr.1 hr.2 h0
theorem RowOk.bend{D:PlanD}{L:Lg}{a:Nat×Nat}{r:List Int}(h:RowOk D L a r){y:Int}(y0:0<=y)(y1:y<=255):RowOk D L a (r.set 0 y):=by
 obtain⟨F,b,hw,hs,hf,b0,b1,rfl⟩:=h;exact⟨F,y,hw,hs,hf,y0,y1,by rw[List.set_set]⟩
theorem RowOk.oct{D:PlanD}{L:Lg}{a:Nat×Nat}{r:List Int}(h:RowOk D L a r):Wire.Oct r:=by
 obtain⟨F,b,hw,hs,hf,b0,b1,rfl⟩:=h;exact(Wire.oct_bytes hw).set 0 b b0 b1
theorem RowOk.mono{D:PlanD}{L L':Lg}{a:Nat×Nat}{r:List Int}(h:RowOk D L a r)(hp:∀a k,L a k <+: L' a k):RowOk D L' a r:=by
 obtain⟨F,b,hw,hs,hf,b0,b1,rfl⟩:=h;refine⟨F,b,hw,hs,?_,b0,b1,rfl⟩;rcases hf with h|⟨k,i,x,h1,h2,h3⟩|⟨k,n,h1,h2,h3⟩
 ·exact .inl h
 ·obtain⟨t,e⟩:=hp a k
  exact .inr (.inl ⟨k,i,x,h1,by rw[<- e,List.getElem?_append_left (List.getElem?_eq_some_iff.1 h2).1];exact h2,h3⟩)
 ·exact .inr (.inr ⟨k,n,h1,Nat.le_trans h2 (hp a k).length_le,h3⟩)
structure GInv(D:PlanD)(P:Nat->Nat->List Nat)(S:List Pk)(nd:Nat->NSt)(L:Lg):Prop where
 p:PInv D P (cont D nd L) S
 snd:∀a∈D.hops,∀k,k<D.lanes->((nd a.1).snd (k08 D a.1 a.2) k).1=D.start+(L a k).length
 rcv:∀a∈D.hops,∀k,k<D.lanes->∃j:Nat,j<=(L a k).length/\((nd a.2).rcv (k08 D a.2 a.1) k).1=D.start+j
 pk:∀a∈D.hops,∀k,k<D.lanes->∀x∈L a k,PkIn D k x
theorem GInv.rcvn{D:PlanD}{P:Nat->Nat->List Nat}{S:List Pk}{nd:Nat->NSt}{L:Lg}(h:GInv D P S nd L){a:Nat×Nat}(ha:a∈D.hops){k:Nat}(hk:k<D.lanes):rcvN D nd a k<=(L a k).length/\((nd a.2).rcv (k08 D a.2 a.1) k).1=D.start+(rcvN D nd a k:Nat):=by
 obtain⟨j,h1,h2⟩:=h.rcv a ha k hk;have:rcvN D nd a k=j:=by unfold rcvN;rw[h2];omega
 rw[this];exact⟨h1,h2⟩
theorem k1y{α : Type}(r:Nat -> α)(i:Nat):upd r i (r i)=r:=by
 funext j;by_cases e:j=i
 ·subst e;rw[k04]
 ·exact zz28
theorem k6g{α : Type}(r:Nat -> α)(i:Nat)(x y : α):upd (upd r i x) i y=upd r i y:=by
 funext j;by_cases e:j=i
 ·subst e;rw[k04,k04]
 ·rw[k06 _ _ e,k06 _ _ e,k06 _ _ e]
section
variable{D:PlanD}{P:Nat->Nat->List Nat}{S:List Pk}{nd:Nat->NSt}{L:Lg}{v:Nat}{s':NSt}
theorem k1F(hr:∀i k,(s'.rcv i k).1=((nd v).rcv i k).1)(a:Nat×Nat)(k:Nat):rcvN D (upd nd v s') a k=rcvN D nd a k:=by
 unfold rcvN;by_cases e:a.2=v
 ·rw[e,k04,hr]
 ·exact zz28
theorem GInv.keep(h:GInv D P S nd L)(hs:∀i k,(s'.snd i k).1=((nd v).snd i k).1)(hr:∀i k,(s'.rcv i k).1=((nd v).rcv i k).1)(hp:PInv D P (cont D (upd nd v s') L) S):GInv D P S (upd nd v s') L:=by
 refine⟨hp,fun a ha k hk=>?_,fun a ha k hk=>?_,h.pk⟩
 ·rw[<- h.snd a ha k hk]
  by_cases e:a.1=v
  ·rw[e,k04,hs]
  ·exact zz28
 ·obtain⟨j,h1,h2⟩:=h.rcv a ha k hk
  refine⟨j,h1,?_⟩;rw[<- h2];by_cases e:a.2=v
  ·rw[e,k04,hr]
  ·exact zz28
theorem GInv.quiet(h:GInv D P S nd L)(hs:∀i k,(s'.snd i k).1=((nd v).snd i k).1)(hr:∀i k,(s'.rcv i k).1=((nd v).rcv i k).1)(hw:s'.waits=(nd v).waits)(hq:s'.q=(nd v).q):GInv D P S (upd nd v s') L:=by
 refine h.keep hs hr (h.p.same fun r=>k2j (fun u _=>?_) (fun u i j k _=>?_) (fun x y k _=>by rw[k1F hr]) (fun u k _ _=>?_))
 ·by_cases e:u=v
  ·subst e;rw[k04,hw]
  ·exact zz28
 ·by_cases e:u=v
  ·subst e;rw[k04,hq]
  ·exact zz28
 ·by_cases e:u=v
  ·subst e;rw[k04,hw]
  ·exact zz28
theorem GInv.feed(G:Good D)(W:Ways D P)(h:GInv D P S nd L){k:Nat}(hk:k<D.lanes)(f:k86 D v k (nd v) s'):GInv D P S (upd nd v s') L:=by
 have hl:=G.l1;have hk3:k<3:=zz1
 rcases f with⟨_,rfl⟩|⟨_,_,rfl⟩|⟨x,r,_,hx,q',rfl,hq⟩
 ·rw[k1y];exact h
 ·rw[k1y];exact h
 ·refine h.keep (fun _ _=>rfl) (fun _ _=>rfl) (h.p.op W (p:=.wait v k) (pre:=[x]) (rest:=r) ⟨?_,?_,?_⟩)
  ·simp only[cont,if_pos hk3,hx];rfl
  ·simp only[cont,if_pos hk3,k04]
  ·rcases hq with rfl|⟨rfl,_⟩
   ·right
    refine⟨x,zz6,zz6,?_,fun r2 h1 h2=>k2j (fun u _=>?_) (fun u i j m e=>?_) (fun a b m _=>congrArg (fun n=>(L (a,b) m).drop n) (k1F (by exact fun _ _=>rfl) (a,b) m)) (fun u m e hm=>?_)⟩
    ·show(upd nd v _ v).q (0,tw D v x.dst.toNat,k)=(nd v).q (0,tw D v x.dst.toNat,k)++[x]
     rw[k04];show updw _ _ _ _=_;rw[show dstN x=x.dst.toNat from rfl,k0m]
    ·by_cases e:u=v
     ·subst e;rw[k04];exact k06 _ _ zz1
     ·exact zz28
    ·by_cases e2:u=v
     ·subst e2;rw[k04]
      refine k0i _ _ (fun e3=>h2 ?_);exact zz67
     ·exact zz44
    ·by_cases e2:u=v
     ·subst e2;rw[k04]
      exact k06 _ _ (fun e3=>h1 (by rw[e,e3]))
     ·exact zz44
   ·left
    refine fun r2 h1=>k2j (fun u _=>?_) (fun u i j m e=>?_) (fun a b m _=>congrArg (fun n=>(L (a,b) m).drop n) (k1F (by exact fun _ _=>rfl) (a,b) m)) (fun u m e hm=>?_)
    ·by_cases e:u=v
     ·subst e;rw[k04];exact k06 _ _ zz1
     ·exact zz28
    ·by_cases e2:u=v
     ·subst e2;rw[k04]
     ·exact zz44
    ·by_cases e2:u=v
     ·subst e2;rw[k04]
      exact k06 _ _ (fun e3=>h1 (by rw[e,e3]))
     ·exact zz44
theorem GInv.fed(G:Good D)(W:Ways D P)(h:GInv D P S nd L):∀{n:Nat}{s':NSt},n<=D.lanes->FedTo D v (nd v) n s'->GInv D P S (upd nd v s') L
 |0,s',_,f=>by
  obtain rfl:s'=nd v:=f;rw[k1y];exact h
 |n+1,s',hn,f=>by
  obtain⟨s,f1,f2⟩:=f;have h1:=GInv.fed G W h (n:=n) zz1 f1;have h2:=h1.feed G W (v:=v) (k:=n) (s':=s') zz1 (by rw[k04];exact f2);rw[k6g]at h2;exact h2
theorem k5X(st:NSt)(i k:Nat):(k0F st i k).q=st.q:=by unfold k0F;split<;>rfl
theorem k3k(st:NSt)(i k:Nat):(k0F st i k).snd=st.snd:=by unfold k0F;split<;>rfl
theorem k26(st:NSt)(i k:Nat):(k0F st i k).waits=st.waits:=by unfold k0F;split<;>rfl
theorem k6M(st:NSt)(i k a b:Nat):((k0F st i k).rcv a b).1=(st.rcv a b).1:=by
 unfold k0F;split
 ·rfl
 ·by_cases e:a=i/\b=k
  ·obtain⟨rfl,rfl⟩:=e
   show(upd2 (α:=Int×Int) _ _ _ _ _ _).1=_;rw[k0l]
  ·show(upd2 (α:=Int×Int) _ _ _ _ _ _).1=_
   rw[k0h _ _ _ _ e]
theorem k3y{i:Nat}(hi:1<=i)(hn:i<np D v):k08 D v (k0G D v i)=i/\k0G D v i∈D.bs v:=by
 obtain⟨j,rfl⟩:∃j,i=j+1:=⟨i-1,zz1⟩;have hj:j<(D.bs v).length:=by unfold np at hn;omega
 have e:k0G D v (j+1)=(D.bs v)[j]:=by
  unfold k0G;rw[List.getD_eq_getElem?_getD,List.getElem?_cons_succ,List.getElem?_eq_getElem hj];rfl
 rw[e];refine⟨?_,List.getElem_mem _⟩;unfold k08;rw[(k48 D v).idxOf_getElem j hj]
theorem GInv.move(G:Good D)(W:Ways D P)(h:GInv D P S nd L)(hv:v<D.nodes)(Q:QOk D v (nd v)){i tt:Nat}(hi:i<np D v)(ht:tt<np D v){os:List OutP}(m:MoveRel D v i tt (nd v) s' os) :
 ∃L',GInv D P S (upd nd v s') L'/\(∀a k,L a k <+: L' a k)/\∀p∈os,p.1∈D.bs v/\RowOk D L' (v,p.1) p.2:=by
 rcases m with⟨_,rfl,rfl⟩|⟨k,x,r,hk,_,hq,⟨rfl,rfl,rfl⟩|⟨h0,rfl,rfl⟩⟩
 ·rw[k1y]
  exact⟨L,h,fun _ _=>List.prefix_refl _,fun p hp=>by cases hp⟩
 ·have hr:∀a b,((k21 (k0F (k0N (nd v) i 0 k r) i k) x).rcv a b).1=((nd v).rcv a b).1:=fun a b=>k6M _ _ _ _ _
  have eq:(k21 (k0F (k0N (nd v) i 0 k r) i k) x).q=updw (nd v).q (i,0,k) r:=k5X _ _ _;have ew:(k21 (k0F (k0N (nd v) i 0 k r) i k) x).waits=upd (nd v).waits 3 ((nd v).waits 3++[x]):=by
   show upd (k0F _ _ _).waits 3 ((k0F _ _ _).waits 3++[x])=_;rw[k26];rfl
  have ed:dn D x.dst.toNat (.q v i 0 k)=.came v:=by simp[dn]
  refine⟨L,h.keep (fun a b=>?_) hr (h.p.op W (p:=.q v i 0 k) (pre:=[x]) (rest:=r) ⟨?_,?_,?_⟩),fun _ _=>List.prefix_refl _,fun p hp=>by cases hp⟩
  ·show((k0F _ _ _).snd a b).1=_
   rw[k3k];rfl
  ·exact hq
  ·simp only[cont,k04];rw[eq,k0m]
  ·right
   refine⟨x,zz6,zz6,?_,fun r2 h1 h2=>k2j (fun u e=>?_) (fun u i2 j m e=>?_) (fun a b m _=>by rw[k1F hr]) (fun u m e hm=>?_)⟩
   ·rw[ed]
    show(upd nd v _ v).waits 3=_;rw[k04,ew,k04];rfl
   ·by_cases e2:u=v
    ·subst e2;exact absurd e (by rw[<- ed];exact h2)
    ·exact zz44
   ·by_cases e2:u=v
    ·subst e2;rw[k04,eq]
     refine k0i _ _ (fun e3=>h1 ?_);exact zz67
    ·exact zz44
   ·by_cases e2:u=v
    ·subst e2;rw[k04,ew];exact k06 _ _ zz1
    ·exact zz44
 ·obtain⟨p1,p2⟩:=k3y (D:=D) (v:=v) (i:=tt) zz1 ht
  have hx:=Q i tt k hi ht hk x (by rw[hq];simp);have hhop:(v,k0G D v tt)∈D.hops:=k0r.2 ⟨hv,p2⟩;have hr:∀a b,((k3n (k0F (k0N (nd v) i tt k r) i k) tt k).rcv a b).1=((nd v).rcv a b).1:=fun a b=>k6M _ _ _ _ _
  have eq:(k3n (k0F (k0N (nd v) i tt k r) i k) tt k).q=updw (nd v).q (i,tt,k) r:=k5X _ _ _;have ew:(k3n (k0F (k0N (nd v) i tt k r) i k) tt k).waits=(nd v).waits:=k26 _ _ _;have es:(k3n (k0F (k0N (nd v) i tt k r) i k) tt k).snd=upd2 (nd v).snd tt k (((nd v).snd tt k).1+1,((nd v).snd tt k).2):=by
   show upd2 (k0F _ _ _).snd tt k (((k0F _ _ _).snd tt k).1+1,((k0F _ _ _).snd tt k).2)=_;rw[k3k];rfl
  have hsn:=h.snd _ hhop k hk;have hsn2:((nd v).snd tt k).1=D.start+(L (v,k0G D v tt) k).length:=by rw[<- hsn];show _=((nd v).snd (k08 D v (k0G D v tt)) k).1;rw[p1]
  refine⟨addL L (v,k0G D v tt) k x,⟨h.p.op W (p:=.q v i tt k) (pre:=[x]) (rest:=r) ⟨hq,?_,.inr ⟨x,zz6,zz6,?_,fun r2 h1 h2=>k2j (fun u e=>?_) (fun u i2 j m e=>?_) (fun a b m e=>?_) (fun u m e hm=>?_)⟩⟩,fun a ha j hj=>?_,fun a ha j hj=>?_,fun a ha j hj y hy=>?_⟩,k84 _ _ _ _,fun p hp=>?_⟩
  ·simp only[cont,k04];rw[eq,k0m]
  ·simp only[dn,if_neg h0]
   show(addL L _ _ _ (v,k0G D v tt) k).drop (rcvN D _ (v,k0G D v tt) k)=(L (v,k0G D v tt) k).drop (rcvN D nd (v,k0G D v tt) k)++[x];rw[k2h,k1F hr];exact List.drop_append_of_le_length (h.rcvn hhop hk).1
  ·by_cases e2:u=v
   ·subst e2;rw[k04,ew]
   ·exact zz44
  ·by_cases e2:u=v
   ·subst e2;rw[k04,eq]
    refine k0i _ _ (fun e3=>h1 ?_);exact zz67
   ·exact zz44
  ·rw[k1F hr,k2E]
   rintro⟨e3,rfl⟩;refine h2 ?_;rw[e];simp only[dn,if_neg h0];simp only[Prod.mk.injEq]at e3;rw[e3.1,e3.2]
  ·by_cases e2:u=v
   ·subst e2;rw[k04,ew]
   ·exact zz44
  ·by_cases e2:a=(v,k0G D v tt)/\j=k
   ·obtain⟨rfl,rfl⟩:=e2
    rw[k2h];show((upd nd v _ v).snd (k08 D v (k0G D v tt)) j).1=_;rw[k04,es,p1,k0l,hsn2];simp only[List.length_append,List.length_singleton];exact zz1
   ·rw[k2E _ _ e2,<- h.snd a ha j hj]
    by_cases e3:a.1=v
    ·rw[e3,k04,es,k0h]
     rintro⟨e4,rfl⟩;refine e2 ⟨?_,rfl⟩;have h3:a.2∈D.bs v:=by rw[<- e3];exact(k0r.1 ha).2
     have:=k1z h3;rw[e4]at this;obtain⟨a1,a2⟩:=a;simp only at e3 this;rw[e3,this]
    ·rw[k06 _ _ e3]
  ·obtain⟨n,h1,h2⟩:=h.rcv a ha j hj
   refine⟨n,Nat.le_trans h1 (k84 _ _ _ _ _ _).length_le,?_⟩;rw[<- h2];by_cases e:a.2=v
   ·rw[e,k04,hr]
   ·exact zz28
  ·by_cases e2:a=(v,k0G D v tt)/\j=k
   ·obtain⟨rfl,rfl⟩:=e2
    rw[k2h]at hy;rcases List.mem_append.1 hy with hy|hy
    ·exact h.pk _ ha j hj y hy
    ·obtain rfl:=List.mem_singleton.1 hy
     exact hx
   ·rw[k2E _ _ e2]at hy;exact h.pk a ha j hj y hy
  ·obtain rfl:=List.mem_singleton.1 hp
   refine⟨p2,?_⟩;obtain⟨f1,f2⟩:=k3o G hk hx ((nd v).snd tt k).1;refine RowOk.of_fr f1 f2 (.inr (.inl ⟨k,(L (v,k0G D v tt) k).length,x,hk,?_,?_⟩))
   ·rw[k2h];simp
   ·rw[hsn2]
theorem GInv.moves(G:Good D)(W:Ways D P)(h:GInv D P S nd L)(hv:v<D.nodes){ms:Nat->Int}{rs:List Nat}(hm:k2W rs (np D v) ms){M:Int}{C:Nat}(K:NodeOk D v M C (nd v)):∀{n:Nat}{s':NSt}{os:List OutP},n<=np D v->M+n<=1000000->MovesTo D v ms n (nd v) s' os ->
 ∃L',GInv D P S (upd nd v s') L'/\(∀a k,L a k <+: L' a k)/\∀p∈os,p.1∈D.bs v/\RowOk D L' (v,p.1) p.2
 |0,s',os,_,_,hh=>by
  obtain⟨rfl,rfl⟩:=hh;rw[k1y];exact⟨L,h,fun _ _=>List.prefix_refl _,fun p hp=>by cases hp⟩
 |n+1,s',os,hn,hM,hh=>by
  obtain⟨s1,o1,o2,h1,h2,rfl⟩:=hh;obtain⟨L1,g1,pr1,r1⟩:=GInv.moves G W h hv hm K (n:=n) zz1 zz1 h1;have ok:=(MovesTo.ok G hm K (n:=n) zz1 zz1 h1).1;rcases h2 with⟨h0,hr⟩|⟨_,rfl,rfl⟩
  ·have htn:(ms n).toNat<np D v:=by
    rcases hm n zz1 with e|⟨k2,h3,e,_⟩
    ·exact zz1
    ·exact zz1
   obtain⟨L2,g2,pr2,r2⟩:=g1.move G W (v:=v) (s':=s') hv (by rw[k04];exact ok.q) (i:=n) (tt:=(ms n).toNat) zz1 htn (os:=o2) (by rw[k04];exact hr);rw[k6g]at g2;refine⟨L2,g2,fun a k=>(pr1 a k).trans (pr2 a k),fun p hp=>?_⟩;rcases List.mem_append.1 hp with hp|hp
   ·exact⟨(r1 p hp).1,(r1 p hp).2.mono pr2⟩
   ·exact r2 p hp
  ·exact⟨L1,g1,pr1,fun p hp=>r1 p (by simpa using hp)⟩
theorem GInv.tick(G:Good D)(W:Ways D P)(h:GInv D P S nd L)(hv:v<D.nodes){M:Int}{C:Nat}(K:NodeOk D v M C (nd v))(hM:M+6<=1000000){os:List OutP}(t:TickRel D v (nd v) s' os) :
 ∃L',GInv D P S (upd nd v s') L'/\(∀a k,L a k <+: L' a k)/\(∀p∈os,p.1∈D.bs v/\RowOk D L' (v,p.1) p.2)/\NodeOk D v (M+6) (C+6) s':=by
 obtain⟨s1,ms,s2,o2,hf,hm,_,hmv,rfl,rfl⟩:=t;have hnp:=k2t G hv;have g1:=h.fed G W (v:=v) (Nat.le_refl _) hf;have k1:=hf.ok G K;obtain⟨L2,g2,pr2,r2⟩:=g1.moves G W hv hm (M:=M) (C:=C) (by rw[k04];exact k1) (n:=np D v) (s':=s2) (os:=o2) (Nat.le_refl _) zz1 (by rw[k04];exact hmv);rw[k6g]at g2;have k2:=(MovesTo.ok G hm k1 (n:=np D v) (Nat.le_refl _) zz1 hmv).1;have g3:=g2.quiet (v:=v) (s':={ s2 with ticks:=s2.ticks+1 }) (by rw[k04];exact fun _ _=>rfl) (by rw[k04];exact fun _ _=>rfl) (by rw[k04]) (by rw[k04]);rw[k6g]at g3;refine⟨L2,g3,pr2,fun p hp=>?_,(k2.mono zz1 zz1).tick _⟩;rcases List.mem_append.1 hp with hp|hp
 ·exact r2 p hp
 ·split at hp
  ·obtain⟨i,hi,hp⟩:=List.mem_flatMap.1 hp
   have hi:=List.mem_range.1 hi;split at hp
   ·cases hp
   ·obtain⟨k,hk,hp⟩:=List.mem_flatMap.1 hp
    have hk:=List.mem_range.1 hk;have hl:=G.l1;obtain⟨p1,p2⟩:=k3y (D:=D) (v:=v) (i:=i) zz1 hi;have hhop:(v,k0G D v i)∈D.hops:=k0r.2 ⟨hv,p2⟩;simp only[List.mem_cons,List.not_mem_nil,or_false]at hp;rcases hp with rfl|rfl
    ·refine⟨p2,?_⟩
     have hsn:=g2.snd _ hhop k hk;have e:(s2.snd i k).1=D.start+(L2 (v,k0G D v i) k).length:=by
      rw[<- hsn];show _=((upd nd v s2 v).snd (k08 D v (k0G D v i)) k).1;rw[k04,p1]
     obtain⟨f1,f2⟩:=k1O (.inr rfl) (show k<3 by omega) (s2.snd i k).1;exact RowOk.of_fr f1 f2 (.inr (.inr ⟨k,_,hk,Nat.le_refl _,by rw[e]⟩))
    ·refine⟨p2,?_⟩
     obtain⟨f1,f2⟩:=k1O (.inl rfl) (show k<3 by omega) ((s2.rcv i k).1+(D.room-(s2.rcv i k).2));exact RowOk.of_fr f1 f2 (.inl rfl)
  ·cases hp
end
end Go.Proofs.YtdopmlopafgonaaGreatDoor.Own
namespace Go.Proofs.YtdopmlopafgonaaGreatDoor.Own
section
variable{D:PlanD}{P:Nat->Nat->List Nat}{S:List Pk}{nd:Nat->NSt}{L:Lg}{v:Nat}{s':NSt}
theorem k2D{v u w:Nat}(hu:u∈D.bs v)(e:k08 D v w=k08 D v u):w=u:=by
 have hl:(D.bs v).idxOf u<(D.bs v).length:=List.idxOf_lt_length_of_mem hu;have e2:(D.bs v).idxOf w=(D.bs v).idxOf u:=by unfold k08 at e;omega
 have hw:w∈D.bs v:=List.idxOf_lt_length_iff.1 (by rw[e2];exact hl);have h1:=k1z hu;have h2:=k1z hw;rw[e]at h2;rw[<- h1,<- h2]
theorem GInv.come(W:Ways D P)(h:GInv D P S nd L){a:Nat×Nat}(ha:a∈D.hops){k m:Nat}(hk:k<D.lanes)(hm:rcvN D nd a k<=m)(hl:m<=(L a k).length){q':Way->List Pk}{hh:Int}
 (hq:q'=(nd a.2).q\/∃x,x∈((L a k).drop (rcvN D nd a k)).take (m-rcvN D nd a k)/\q'=updw (nd a.2).q (k08 D a.2 a.1,tw D a.2 x.dst.toNat,k) ((nd a.2).q (k08 D a.2 a.1,tw D a.2 x.dst.toNat,k)++[x])) :
 GInv D P S (upd nd a.2 { nd a.2 with rcv:=upd2 (nd a.2).rcv (k08 D a.2 a.1) k ((D.start:Int)+m,hh),q:=q' }) L:=by
 obtain⟨s',hs'⟩:∃s':NSt,s' = { nd a.2 with rcv:=upd2 (nd a.2).rcv (k08 D a.2 a.1) k ((D.start:Int)+m,hh),q:=q' }:=⟨_,rfl⟩;have sw:s'.waits=(nd a.2).waits:=by rw[hs']
 have sq:s'.q=q':=by rw[hs']
 have ss:s'.snd=(nd a.2).snd:=by rw[hs']
 have sr:s'.rcv=upd2 (nd a.2).rcv (k08 D a.2 a.1) k ((D.start:Int)+m,hh):=by rw[hs']
 rw[<- hs'];have hab:=k2X (k0r.1 ha).2 (k0r.1 ha).1;have hne:∀(b:Nat×Nat)(j:Nat),¬(b=a/\j=k)->((upd nd a.2 s' b.2).rcv (k08 D b.2 b.1) j).1=((nd b.2).rcv (k08 D b.2 b.1) j).1:=fun b j hbj=>by
  by_cases e:b.2=a.2
  ·rw[e,k04,sr,k0h]
   rintro⟨e3,rfl⟩;exact hbj ⟨Prod.ext (k2D hab e3) e,rfl⟩
  ·exact zz28
 have hne2:∀(b:Nat×Nat)(j:Nat),¬(b=a/\j=k)->rcvN D (upd nd a.2 s') b j=rcvN D nd b j:=fun b j hbj=>by
  unfold rcvN;rw[hne b j hbj]
 have hsame:((upd nd a.2 s' a.2).rcv (k08 D a.2 a.1) k).1=D.start+(m:Int):=by
  rw[k04,sr,k0l]
 have hsame2:rcvN D (upd nd a.2 s') a k=m:=by
  unfold rcvN;rw[hsame];exact zz1
 refine⟨h.p.op W (p:=.fly a.1 a.2 k) (pre:=((L a k).drop (rcvN D nd a k)).take (m-rcvN D nd a k)) (rest:=(L a k).drop m) ⟨?_,?_,?_⟩,fun b hb j hj=>?_,fun b hb j hj=>?_,h.pk⟩
 ·show(L a k).drop (rcvN D nd a k)=_
  rw[show(L a k).drop m=((L a k).drop (rcvN D nd a k)).drop (m-rcvN D nd a k) by rw[List.drop_drop];congr 1;omega];exact(List.take_append_drop _ _).symm
 ·show(L a k).drop (rcvN D _ a k)=_
  rw[hsame2]
 ·have wq:∀u j,(upd nd a.2 s' u).waits j=(nd u).waits j:=fun u j=>by
   by_cases e:u=a.2
   ·subst e;rw[k04,sw]
   ·exact zz28
  have flq:∀r,r≠Pl.fly a.1 a.2 k->∀x y j,r=.fly x y j->(L (x,y) j).drop (rcvN D (upd nd a.2 s') (x,y) j)=(L (x,y) j).drop (rcvN D nd (x,y) j):=fun r hr x y j e=>by
   rw[hne2];rintro⟨e2,e3⟩;exact hr (by rw[e,<- e2,e3])
  rcases hq with e|⟨x,hx,e⟩
  ·left
   refine fun r hr=>k2j (fun u _=>wq u 3) (fun u i j m e2=>?_) (flq r hr) (fun u m _ _=>wq u m)
   by_cases e3:u=a.2
   ·subst e3;rw[k04,sq,e]
   ·rw[k06 _ _ e3]
  ·right
   refine⟨x,hx,zz6,?_,fun r hr hr2=>k2j (fun u _=>wq u 3) (fun u i j m e2=>?_) (flq r hr) (fun u m _ _=>wq u m)⟩
   ·show(upd nd a.2 s' a.2).q (k08 D a.2 a.1,tw D a.2 x.dst.toNat,k)=(nd a.2).q (k08 D a.2 a.1,tw D a.2 x.dst.toNat,k)++[x]
    rw[k04,sq,e,k0m]
   ·by_cases e3:u=a.2
    ·subst e3;rw[k04,sq,e]
     refine k0i _ _ (fun e4=>hr2 ?_);rw[e2];simp only[Prod.mk.injEq]at e4;obtain⟨rfl,rfl,rfl⟩:=e4;rfl
    ·rw[k06 _ _ e3]
 ·rw[<- h.snd b hb j hj]
  by_cases e:b.1=a.2
  ·rw[e,k04,ss]
  ·exact zz28
 ·by_cases e:b=a/\j=k
  ·obtain⟨rfl,rfl⟩:=e
   exact⟨m,hl,hsame⟩
  ·rw[hne b j e]
   exact h.rcv b hb j hj
theorem GInv.take(G:Good D)(W:Ways D P)(h:GInv D P S nd L){M:Int}{C:Nat}(K:∀v,v<D.nodes->NodeOk D v M C (nd v))(hM:M<=D.start+30000){a:Nat×Nat}(ha:a∈D.hops){r:List Int}(hr:RowOk D L a r)(t:TakeRel D a.2 (k08 D a.2 a.1) (nd a.2) r s') :
 GInv D P S (upd nd a.2 s') L/\NodeOk D a.2 M C s':=by
 have hy:a.2<D.nodes:=(k0O ha).2;have hx:a.1<D.nodes:=(k0O ha).1;have hab:=k2X (k0r.1 ha).2 (k0r.1 ha).1;have hp1:1<=k08 D a.2 a.1:=zz92
 have hpn:=k0Q hab;have hq1:1<=k08 D a.1 a.2:=zz92
 have hqn:=k0Q (k0r.1 ha).2;have ky:=K _ hy;have hs1:=G.s1;have hrm:=G.r1;have hlen:∀k,k<D.lanes->((L a k).length:Int)<=30000:=fun k hk=>by
  have h1:=h.snd a ha k hk;have h2:=((K _ hx).lt _ k hq1 hqn hk).1;exact zz1
 have same:GInv D P S (upd nd a.2 (nd a.2)) L/\NodeOk D a.2 M C (nd a.2):=⟨by rw[k1y];exact h,ky⟩;unfold TakeRel at t;rcases hr.dec with e|⟨F,e,hw,hs,hf⟩
 ·rw[e]at t
  obtain rfl:s'=nd a.2:=t;exact same
 ·rw[e]at t
  have hl:=hw.2.1;rcases t with⟨_,rfl⟩|⟨hFl,t⟩
  ·exact same
  ·obtain⟨k,hk⟩:∃k:Nat,F.l=k:=⟨F.l.toNat,zz1⟩
   have hkl:k<D.lanes:=zz1
   rw[hk,Int.toNat_natCast]at t;have n0:=ky.num.r0 _ k hp1 hpn hkl;have n1:=ky.num.r1 _ k hp1 hpn hkl;have n2:=ky.num.r2 _ k hp1 hpn hkl;have n3:=ky.num.r3 _ k hp1 hpn hkl;obtain⟨hj,hrv⟩:=h.rcvn ha hkl;rcases t with⟨_,rfl⟩|⟨hk3,rfl⟩|⟨hk1,t⟩
   ·
    refine⟨h.quiet (fun i j=>?_) (fun _ _=>rfl) rfl rfl,?_⟩
    ·show(upd2 (α:=Int×Int) _ _ _ _ _ _).1=_
     by_cases e2:i=k08 D a.2 a.1/\j=k
     ·obtain⟨rfl,rfl⟩:=e2;rw[k0l]
     ·rw[k0h _ _ _ _ e2]
    ·have key:∀i j,1<=i->i<np D a.2->j<D.lanes->(upd2 (nd a.2).snd (k08 D a.2 a.1) k (((nd a.2).snd (k08 D a.2 a.1) k).1,k4Q ((nd a.2).snd (k08 D a.2 a.1) k).1 ((nd a.2).snd (k08 D a.2 a.1) k).2 F.s) i j).1=((nd a.2).snd i j).1/\((nd a.2).snd i j).1<=(upd2 (nd a.2).snd (k08 D a.2 a.1) k (((nd a.2).snd (k08 D a.2 a.1) k).1,k4Q ((nd a.2).snd (k08 D a.2 a.1) k).1 ((nd a.2).snd (k08 D a.2 a.1) k).2 F.s) i j).2/\(upd2 (nd a.2).snd (k08 D a.2 a.1) k (((nd a.2).snd (k08 D a.2 a.1) k).1,k4Q ((nd a.2).snd (k08 D a.2 a.1) k).1 ((nd a.2).snd (k08 D a.2 a.1) k).2 F.s) i j).2<=((nd a.2).snd i j).1+8:=fun i j h1 h2 h3=>by
      have a1:=ky.num.s1 i j h1 h2 h3;have a2:=ky.num.s2 i j h1 h2 h3;by_cases e2:i=k08 D a.2 a.1/\j=k
      ·obtain⟨rfl,rfl⟩:=e2
       rw[k0l];refine⟨rfl,?_,?_⟩<;>dsimp only<;>unfold k4Q<;>split<;>omega
      ·rw[k0h _ _ _ _ e2];exact⟨rfl,a1,a2⟩
     refine⟨⟨fun i j h1 h2 h3=>?_,fun i j h1 h2 h3=>?_,fun i j h1 h2 h3=>?_,fun i j h1 h2 h3=>?_,ky.num.r0,ky.num.r1,ky.num.r2,ky.num.r3⟩,fun i j h1 h2 h3=>⟨?_,(ky.lt i j h1 h2 h3).2⟩,ky.q,ky.w,ky.came,ky.wl⟩
     ·show 0<=(upd2 (α:=Int×Int) _ _ _ _ _ _).1
      rw[(key i j h1 h2 h3).1];exact ky.num.s0 i j h1 h2 h3
     ·show(upd2 (α:=Int×Int) _ _ _ _ _ _).1<=(upd2 (α:=Int×Int) _ _ _ _ _ _).2
      rw[(key i j h1 h2 h3).1];exact(key i j h1 h2 h3).2.1
     ·show(upd2 (α:=Int×Int) _ _ _ _ _ _).2<=(upd2 (α:=Int×Int) _ _ _ _ _ _).1+8
      rw[(key i j h1 h2 h3).1];exact(key i j h1 h2 h3).2.2
     ·show(upd2 (α:=Int×Int) _ _ _ _ _ _).1<=_
      rw[(key i j h1 h2 h3).1];exact ky.num.s3 i j h1 h2 h3
     ·show(upd2 (α:=Int×Int) _ _ _ _ _ _).1<=_
      rw[(key i j h1 h2 h3).1];exact(ky.lt i j h1 h2 h3).1
   ·
    rcases hf with hf|⟨k2,i,x,_,_,hf⟩|⟨k2,n,hk2,hn,hf⟩
    ·rw[hf]at hk3;omega
    ·rw[hf]at hk3;exact absurd hk3 (by show ¬(1:Int)=3;omega)
    ·have e1:(k2:Int)=(k:Int):=by rw[<- hk,hf];rfl
     obtain rfl:k2=k:=by omega
     have e2:F.s=((D.start:Int)+n) % 65536:=by rw[hf];rfl
     have hlk:=hlen _ hkl;have hwd:k0p ((nd a.2).rcv (k08 D a.2 a.1) k2).1 F.s=(D.start:Int)+n:=by
      rw[e2];exact k2C n0 zz1 zz1 zz1 zz1
     unfold k4z;rw[hwd];by_cases hc:(D.start:Int)+n<=((nd a.2).rcv (k08 D a.2 a.1) k2).1\/((nd a.2).rcv (k08 D a.2 a.1) k2).1+(D.room-((nd a.2).rcv (k08 D a.2 a.1) k2).2)<(D.start:Int)+n
     ·rw[if_pos hc]
      have e3:upd2 (nd a.2).rcv (k08 D a.2 a.1) k2 (((nd a.2).rcv (k08 D a.2 a.1) k2).1,((nd a.2).rcv (k08 D a.2 a.1) k2).2)=(nd a.2).rcv:=by
       funext i j;by_cases e4:i=k08 D a.2 a.1/\j=k2
       ·obtain⟨rfl,rfl⟩:=e4;rw[k0l]
       ·rw[k0h _ _ _ _ e4]
      rw[e3];exact same
     ·rw[if_neg hc]
      refine⟨h.come W ha hkl zz1 hn (.inl rfl),?_⟩;refine⟨⟨ky.num.s0,ky.num.s1,ky.num.s2,ky.num.s3,fun i j h1 h2 h3=>?_,fun i j h1 h2 h3=>?_,fun i j h1 h2 h3=>?_,fun i j h1 h2 h3=>?_⟩,fun i j h1 h2 h3=>⟨(ky.lt i j h1 h2 h3).1,?_⟩,ky.q,ky.w,ky.came,ky.wl⟩
      ·show 0<=(upd2 (α:=Int×Int) _ _ _ _ _ _).1
       by_cases e4:i=k08 D a.2 a.1/\j=k2
       ·obtain⟨rfl,rfl⟩:=e4;rw[k0l];show(0:Int)<=D.start+n;omega
       ·rw[k0h _ _ _ _ e4];exact ky.num.r0 i j h1 h2 h3
      ·show(upd2 (α:=Int×Int) _ _ _ _ _ _).1<=_
       by_cases e4:i=k08 D a.2 a.1/\j=k2
       ·obtain⟨rfl,rfl⟩:=e4;rw[k0l];show(D.start:Int)+n<=_;omega
       ·rw[k0h _ _ _ _ e4];exact ky.num.r1 i j h1 h2 h3
      ·show 0<=(upd2 (α:=Int×Int) _ _ _ _ _ _).2
       by_cases e4:i=k08 D a.2 a.1/\j=k2
       ·obtain⟨rfl,rfl⟩:=e4;rw[k0l];exact n2
       ·rw[k0h _ _ _ _ e4];exact ky.num.r2 i j h1 h2 h3
      ·show(upd2 (α:=Int×Int) _ _ _ _ _ _).2<=_
       by_cases e4:i=k08 D a.2 a.1/\j=k2
       ·obtain⟨rfl,rfl⟩:=e4;rw[k0l];exact n3
       ·rw[k0h _ _ _ _ e4];exact ky.num.r3 i j h1 h2 h3
      ·show(upd2 (α:=Int×Int) _ _ _ _ _ _).1<=_
       by_cases e4:i=k08 D a.2 a.1/\j=k2
       ·obtain⟨rfl,rfl⟩:=e4
        rw[k0l];have h5:=h.snd a ha _ hkl;have h6:=((K _ hx).lt _ _ hq1 hqn hkl).1;show(D.start:Int)+n<=M;exact zz1
       ·rw[k0h _ _ _ _ e4];exact(ky.lt i j h1 h2 h3).2
   ·
    rcases hf with hf|⟨k2,i,x,hk2,hi,hf⟩|⟨k2,n,hk2,hn,hf⟩
    ·rw[hf]at hk1;omega
    ·have e1:(k2:Int)=(k:Int):=by rw[<- hk,hf];rfl
     obtain rfl:k2=k:=by omega
     have e2:F.s=((D.start:Int)+i) % 65536:=by rw[hf];rfl
     have hlk:=hlen _ hkl;have hil:=(List.getElem?_eq_some_iff.1 hi).1;have hwd:k0p ((nd a.2).rcv (k08 D a.2 a.1) k2).1 F.s=(D.start:Int)+i:=by
      rw[e2];exact k2C n0 zz1 zz1 zz1 zz1
     unfold DataRel at t;rw[hk,Int.toNat_natCast,hwd]at t;rcases t with⟨_,rfl⟩|⟨_,t⟩
     ·exact same
     rcases t with⟨_,rfl⟩|⟨⟨t1,t2⟩,q',rfl,hq⟩
     ·exact same
     have hpk:=h.pk a ha _ hkl x (List.mem_of_getElem? hi);have hxF:pkOf F=x:=by
      obtain⟨s,d,h1,h2,_,_,_,h3,_⟩:=hpk;rw[hf];show Pk.mk x.src x.dst (k2:Int) x.body=x;rw[<- h3]
     have hdst:F.b=x.dst:=by rw[hf];rfl
     rw[hxF,hdst]at hq;have e5:(D.start:Int)+i+1=D.start+((i+1:Nat):Int):=by push_cast;omega
     rw[e5];have hmem:x∈((L a k2).drop (rcvN D nd a k2)).take (i+1-rcvN D nd a k2):=by
      rw[List.mem_iff_getElem?];refine⟨i-rcvN D nd a k2,?_⟩;rw[List.getElem?_take,if_pos zz1,List.getElem?_drop,show rcvN D nd a k2+(i-rcvN D nd a k2)=i by omega];exact hi
     refine⟨h.come W ha hkl zz1 zz1 ?_,?_⟩
     ·rcases hq with hq|⟨hq,_⟩
      ·exact .inr ⟨x,hmem,hq⟩
      ·exact .inl hq
     ·refine⟨⟨ky.num.s0,ky.num.s1,ky.num.s2,ky.num.s3,fun i2 j h1 h2 h3=>?_,fun i2 j h1 h2 h3=>?_,fun i2 j h1 h2 h3=>?_,fun i2 j h1 h2 h3=>?_⟩,fun i2 j h1 h2 h3=>⟨(ky.lt i2 j h1 h2 h3).1,?_⟩,?_,ky.w,ky.came,ky.wl⟩
      ·show 0<=(upd2 (α:=Int×Int) _ _ _ _ _ _).1
       by_cases e4:i2=k08 D a.2 a.1/\j=k2
       ·obtain⟨rfl,rfl⟩:=e4;rw[k0l];show(0:Int)<=D.start+((i+1:Nat):Int);omega
       ·rw[k0h _ _ _ _ e4];exact ky.num.r0 i2 j h1 h2 h3
      ·show(upd2 (α:=Int×Int) _ _ _ _ _ _).1<=_
       by_cases e4:i2=k08 D a.2 a.1/\j=k2
       ·obtain⟨rfl,rfl⟩:=e4;rw[k0l];show(D.start:Int)+((i+1:Nat):Int)<=_;omega
       ·rw[k0h _ _ _ _ e4];exact ky.num.r1 i2 j h1 h2 h3
      ·show 0<=(upd2 (α:=Int×Int) _ _ _ _ _ _).2
       by_cases e4:i2=k08 D a.2 a.1/\j=k2
       ·obtain⟨rfl,rfl⟩:=e4;rw[k0l];dsimp only;omega
       ·rw[k0h _ _ _ _ e4];exact ky.num.r2 i2 j h1 h2 h3
      ·show(upd2 (α:=Int×Int) _ _ _ _ _ _).2<=_
       by_cases e4:i2=k08 D a.2 a.1/\j=k2
       ·obtain⟨rfl,rfl⟩:=e4;rw[k0l];dsimp only;omega
       ·rw[k0h _ _ _ _ e4];exact ky.num.r3 i2 j h1 h2 h3
      ·show(upd2 (α:=Int×Int) _ _ _ _ _ _).1<=_
       by_cases e4:i2=k08 D a.2 a.1/\j=k2
       ·obtain⟨rfl,rfl⟩:=e4
        rw[k0l];have h5:=h.snd a ha _ hkl;have h6:=((K _ hx).lt _ _ hq1 hqn hkl).1;show(D.start:Int)+((i+1:Nat):Int)<=M;exact zz1
       ·rw[k0h _ _ _ _ e4];exact(ky.lt i2 j h1 h2 h3).2
      ·show QOk D a.2 { nd a.2 with rcv:=_,q:=q' }
       rcases hq with rfl|⟨rfl,_⟩
       ·exact QOk.push ky.q hpk
       ·exact ky.q
    ·rw[hf]at hk1;exact absurd hk1 (by show ¬(3:Int)=1;omega)
end
section
variable{D:PlanD}{P:Nat->Nat->List Nat}{S:List Pk}{M:Int}{C:Nat}{st st':FSt}
def k1g(D:PlanD)(nd:Nat->NSt):Nat->NSt:=fun u=>if u<D.nodes then nd u else nst0 D
theorem k0Y{nd:Nat->NSt}{u:Nat}(h:u<D.nodes):k1g D nd u=nd u:=by unfold k1g;rw[if_pos h]
theorem k6X{nd:Nat->NSt}{v:Nat}(hv:v<D.nodes)(s:NSt):k1g D (upd nd v s)=upd (k1g D nd) v s:=by
 funext u;by_cases e:u=v
 ·subst e;rw[k0Y hv,k04,k04]
 ·rw[k06 _ _ e];unfold k1g;rw[k06 _ _ e]
def kcQ(D:PlanD)(L:Lg)(lk:Nat×Nat->List (List Int)):Prop:=∀a∈D.hops,∀r∈lk a,RowOk D L a r
def TkOk(D:PlanD)(C:Nat)(st:FSt):Prop:=(∀v,v<D.nodes->(st.node v).ticks<=C)/\st.ticks<=C
def Holds(D:PlanD)(P:Nat->Nat->List Nat)(S:List Pk)(M:Int)(C:Nat)(st:FSt):Prop:=∃L,GInv D P S (k1g D st.node) L/\kcQ D L st.link/\FOk D M C st/\TkOk D C st
theorem DataRel.ticks{v i:Nat}{s s':NSt}{F:Wire.Fr}(h:DataRel D v i s F s'):s'.ticks=s.ticks:=by
 rcases h with⟨_,rfl⟩|⟨_,⟨_,rfl⟩|⟨_,q',rfl,_⟩⟩<;>rfl
theorem TakeRel.ticks{v i:Nat}{s s':NSt}{row:List Int}(h:TakeRel D v i s row s'):s'.ticks=s.ticks:=by
 unfold TakeRel at h;split at h
 ·rw[h]
 ·rcases h with⟨_,rfl⟩|⟨_,⟨_,rfl⟩|⟨_,rfl⟩|⟨_,h⟩⟩
  ·rfl
  ·rfl
  ·rfl
  ·exact h.ticks
theorem TickRel.ticks(G:Good D){v:Nat}(hv:v<D.nodes){s s':NSt}{os:List OutP}(K:NodeOk D v M C s)(hM:M+6<=1000000)(t:TickRel D v s s' os):s'.ticks=s.ticks+1:=by
 obtain⟨s1,ms,s2,o2,hf,hm,_,hmv,rfl,rfl⟩:=t;have hnp:=k2t G hv;have h1:=hf.same.2.2;have h2:=(MovesTo.ok G hm (hf.ok G K) (n:=np D v) (Nat.le_refl _) zz1 hmv).2.2;show s2.ticks+1=_;rw[h2,h1]
theorem k74{v:Nat}{a:Nat×Nat}{r:List Int}:∀{os:List OutP}{lk:Nat×Nat->List (List Int)},r∈k2p D v lk os a->r∈lk a\/∃p∈os,a=(v,p.1)/\r=p.2
 |[],lk,h=>.inl h
 |p :: os,lk,h=>by
  have h2:r∈k2p D v (updl lk (v,p.1) (put1 D (lk (v,p.1)) p.2)) os a:=h;rcases k74 h2 with h3|⟨p2,h3,h4⟩
  ·unfold updl at h3
   split at h3
   ·rename_i e
    unfold put1 at h3;split at h3
    ·rcases List.mem_append.1 h3 with h3|h3
     ·left;rw[e];exact h3
     ·right;exact⟨p,zz6,e,List.mem_singleton.1 h3⟩
    ·left;rw[e];exact h3
   ·exact .inl h3
  ·exact .inr ⟨p2,List.mem_cons_of_mem _ h3,h4⟩
theorem k4f{outs:Nat->List OutP}{lk:Nat×Nat->List (List Int)}{a:Nat×Nat}{r:List Int}:∀{k:Nat},r∈k1D D outs lk k a->r∈lk a\/∃v,v<k/\∃p∈outs v,a=(v,p.1)/\r=p.2
 |0,h=>.inl h
 |k+1,h=>by
  rcases k74 (show r∈k2p D k (k1D D outs lk k) (outs k) a from h) with h|⟨p,h1,h2⟩
  ·rcases k4f h with h|⟨v,h1,h2⟩
   ·exact .inl h
   ·exact .inr ⟨v,zz1,h2⟩
  ·exact .inr ⟨k,zz1,p,h1,h2⟩
theorem GInv.ticks(G:Good D)(W:Ways D P){nd nd':Nat->NSt}{L:Lg}(h:GInv D P S nd L)(K:∀v,v<D.nodes->NodeOk D v M C (nd v))(hM:M+6<=1000000){outs:Nat->List OutP}(t:∀v,v<D.nodes->TickRel D v (nd v) (nd' v) (outs v)):∀k,k<=D.nodes ->
 ∃L',GInv D P S (fun u=>if u<k then nd' u else nd u) L'/\(∀a k,L a k <+: L' a k)/\(∀v,v<k->∀p∈outs v,p.1∈D.bs v/\RowOk D L' (v,p.1) p.2)/\∀v,v<k->NodeOk D v (M+6) (C+6) (nd' v)
 |0,_=>⟨L,h.p.casesOn (fun _ _ _=>by simpa using h),fun _ _=>List.prefix_refl _,fun v hv=>by omega,fun v hv=>by omega⟩
 |k+1,hk=>by
  obtain⟨L1,g1,p1,r1,k1⟩:=GInv.ticks G W h K hM t k zz1;obtain⟨L2,g2,p2,r2,k2⟩:=g1.tick G W (v:=k) (s':=nd' k) zz1 (M:=M) (C:=C) (by rw[if_neg (Nat.lt_irrefl k)];exact K k zz1) hM (os:=outs k) (by rw[if_neg (Nat.lt_irrefl k)];exact t k zz1);have e1:(upd (fun u=>if u<k then nd' u else nd u) k (nd' k))=fun u=>if u<k+1 then nd' u else nd u:=by
   funext u;by_cases e:u=k
   ·subst e;rw[k04,if_pos zz1]
   ·rw[k06 _ _ e]
    by_cases h2:u<k
    ·rw[if_pos h2,if_pos zz1]
    ·rw[if_neg h2,if_neg zz1]
  rw[e1]at g2;refine⟨L2,g2,fun a j=>(p1 a j).trans (p2 a j),fun v hv p hp=>?_,fun v hv=>?_⟩
  ·by_cases e:v=k
   ·subst e;exact r2 p hp
   ·exact⟨(r1 v zz1 p hp).1,(r1 v zz1 p hp).2.mono p2⟩
  ·by_cases e:v=k
   ·subst e;exact k2
   ·exact k1 v zz1
theorem Holds.tick(G:Good D)(W:Ways D P)(h:Holds D P S M C st)(hM:M+6<=1000000)(t:k8U D st st'):Holds D P S (M+6) (C+6) st':=by
 obtain⟨L,g,r,k,tk⟩:=h;obtain⟨outs,t1,t2,t3⟩:=t;obtain⟨L2,g2,p2,r2,k2⟩:=GInv.ticks (nd':=k1g D st'.node) G W g (M:=M) (C:=C) (fun v hv=>by rw[k0Y hv];exact k v hv) hM (outs:=outs) (fun v hv=>by rw[k0Y hv,k0Y hv];exact t1 v hv) D.nodes (Nat.le_refl _);have e:(fun u=>if u<D.nodes then k1g D st'.node u else k1g D st.node u)=k1g D st'.node:=by
  funext u;by_cases h:u<D.nodes
  ·rw[if_pos h]
  ·rw[if_neg h];unfold k1g;rw[if_neg h,if_neg h]
 rw[e]at g2;refine⟨L2,g2,fun a ha x hx=>?_,fun v hv=>by have:=k2 v hv;rwa [k0Y hv]at this,fun v hv=>by have:=(t1 v hv).ticks G hv (k v hv) hM;have:=tk.1 v hv;omega,by have:=tk.2;omega⟩;rw[t2]at hx;rcases k4f hx with hx|⟨v,hv,p,hp,rfl,rfl⟩
 ·exact(r a ha x hx).mono p2
 ·exact(r2 v hv p hp).2
theorem Holds.del(G:Good D)(W:Ways D P)(h:Holds D P S M C st)(hM:M<=D.start+30000){a:Nat×Nat}(ha:a∈D.hops){m:Nat}(t:k1I D a m st st'):Holds D P S M C st':=by
 obtain⟨L,g,r,k,tk⟩:=h;obtain⟨row,s',h1,h2,rfl⟩:=t;have hy:=(k0O ha).2;obtain⟨g2,k2⟩:=g.take G W (M:=M) (C:=C) (s':=s') (fun v hv=>by rw[k0Y hv];exact k v hv) hM ha (r a ha row (List.mem_of_getElem? h1)) (by rw[k0Y hy];exact h2);refine⟨L,by rw[k6X hy];exact g2,fun b hb x hx=>?_,fun v hv=>?_,fun v hv=>?_,tk.2⟩
 ·have hx:x∈updl st.link a ((st.link a).eraseIdx m) b:=hx
  unfold updl at hx;split at hx
  ·rename_i e;subst e;exact r b hb x (List.mem_of_mem_eraseIdx hx)
  ·exact r b hb x hx
 ·show NodeOk D v M C (upd st.node a.2 s' v)
  by_cases e:v=a.2
  ·subst e;rw[k04];exact k2
  ·rw[k06 _ _ e];exact k v hv
 ·show(upd st.node a.2 s' v).ticks<=C
  by_cases e:v=a.2
  ·subst e;rw[k04,h2.ticks];exact tk.1 _ hv
  ·rw[k06 _ _ e];exact tk.1 v hv
theorem Holds.links(h:Holds D P S M C st){lk:Nat×Nat->List (List Int)}(hl:∀a∈D.hops,∀r∈lk a,r∈st.link a\/∃r0∈st.link a,∃y:Int,0<=y/\y<=255/\r=r0.set 0 y):Holds D P S M C { st with link:=lk }:=by
 obtain⟨L,g,r,k,tk⟩:=h;refine⟨L,g,fun a ha x hx=>?_,k,tk⟩;rcases hl a ha x hx with h|⟨r0,h,y,y0,y1,rfl⟩
 ·exact r a ha x h
 ·exact(r a ha r0 h).bend y0 y1
theorem Holds.inject(G:Good D)(W:Ways D P)(h:Holds D P S M C st){v d k:Nat}{y c:Int}(hv:v<D.nodes)(hd:d<D.nodes)(hk:k<D.lanes)(y0:0<=y)(y1:y<=4294967295){s':NSt}(t:k6p D v d k y (st.node v) c s') :
 Holds D P (if c=0 then S++[⟨v,d,k,y⟩] else S) M C { st with node:=upd st.node v s' }:=by
 obtain⟨L,g,r,K,tk⟩:=h;rcases t with⟨_,rfl,rfl⟩|⟨_,_,rfl,rfl⟩|⟨hne,hlt,rfl,rfl⟩
 ·rw[if_neg zz7,k1y];exact⟨L,g,r,K,tk⟩
 ·rw[if_neg zz7,k1y];exact⟨L,g,r,K,tk⟩
 ·rw[if_pos rfl]
  have hl:=G.l1;have hk3:k<3:=zz1
  have kv:=K v hv;have hpk:PkIn D k ⟨v,d,k,y⟩:=⟨v,d,rfl,rfl,hv,hd,fun e=>hne e.symm,rfl,y0,y1⟩;refine⟨L,?_,r,fun u hu=>?_,fun u hu=>?_,tk.2⟩
  ·show GInv D P _ (k1g D (upd st.node v _)) L
   rw[k6X hv];obtain⟨s',hs'⟩:∃s':NSt,s' = { st.node v with waits:=upd (st.node v).waits k ((st.node v).waits k++[⟨v,d,k,y⟩]) }:=⟨_,rfl⟩;rw[<- hs'];have es:s'.snd=(k1g D st.node v).snd:=by rw[k0Y hv,hs']
   have er:s'.rcv=(k1g D st.node v).rcv:=by rw[k0Y hv,hs']
   have eq:s'.q=(k1g D st.node v).q:=by rw[k0Y hv,hs']
   have ew:s'.waits=upd (k1g D st.node v).waits k ((k1g D st.node v).waits k++[⟨v,d,k,y⟩]):=by rw[k0Y hv,hs']
   have base:PInv D P (cont D (upd (k1g D st.node) v s') L) (S++[⟨v,d,k,y⟩]):=by
    refine g.p.inject W ⟨v,d,k,y⟩ ⟨hv,hd,fun e=>hne e.symm,hk⟩ ⟨by show(0:Int)<=(v:Int);omega,by show(0:Int)<=(d:Int);omega,by show(0:Int)<=(k:Int);omega⟩ ?_ (fun r2 h1=>k2j (fun u _=>?_) (fun u i j m _=>?_) (fun a b m _=>by rw[k1F (fun i k=>by rw[er])]) (fun u m e hm=>?_))
    ·show cont D _ L (.wait v k)=cont D _ L (.wait v k)++_
     simp only[cont,if_pos hk3];rw[k04,ew,k04]
    ·by_cases e:u=v
     ·subst e;rw[k04,ew];exact k06 _ _ zz1
     ·exact zz28
    ·by_cases e:u=v
     ·subst e;rw[k04,eq]
     ·exact zz28
    ·by_cases e2:u=v
     ·subst e2;rw[k04,ew]
      exact k06 _ _ (fun e3=>h1 (by rw[e,e3];rfl))
     ·exact zz44
   refine⟨base,fun a ha j hj=>?_,fun a ha j hj=>?_,g.pk⟩
   ·rw[<- g.snd a ha j hj]
    by_cases e:a.1=v
    ·rw[e,k04,es]
    ·exact zz28
   ·obtain⟨n,h1,h2⟩:=g.rcv a ha j hj
    refine⟨n,h1,?_⟩;rw[<- h2];by_cases e:a.2=v
    ·rw[e,k04,er]
    ·exact zz28
  ·show NodeOk D u M C (upd st.node v _ u)
   by_cases e:u=v
   ·subst e
    rw[k04];refine⟨⟨kv.num.s0,kv.num.s1,kv.num.s2,kv.num.s3,kv.num.r0,kv.num.r1,kv.num.r2,kv.num.r3⟩,kv.lt,kv.q,fun j hj x hx=>?_,?_,fun j hj=>?_⟩
    ·have hx:x∈upd (st.node u).waits k ((st.node u).waits k++[⟨u,d,k,y⟩]) j:=hx
     by_cases e:j=k
     ·subst e
      rw[k04]at hx;rcases List.mem_append.1 hx with hx|hx
      ·exact kv.w j hj x hx
      ·obtain rfl:=List.mem_singleton.1 hx;exact hpk
     ·rw[k06 _ _ e]at hx;exact kv.w j hj x hx
    ·show(upd (st.node u).waits k _ 3).length<=C
     rw[k06 _ _ zz1];exact kv.came
    ·show(upd (st.node u).waits k _ j).length<=D.queue
     by_cases e:j=k
     ·subst e;rw[k04];simp;omega
     ·rw[k06 _ _ e];exact kv.wl j hj
   ·rw[k06 _ _ e];exact K u hu
  ·show(upd st.node v _ u).ticks<=C
   by_cases e:u=v
   ·subst e;rw[k04];exact tk.1 u hu
   ·rw[k06 _ _ e];exact tk.1 u hu
theorem kcd(G:Good D)(v:Nat):NodeOk D v (D.start:Int) 0 (nst0 D):=by
 have:=G.r0;have:=G.r1;have:=G.s1;refine⟨⟨fun _ _ _ _ _=>?_,fun _ _ _ _ _=>?_,fun _ _ _ _ _=>?_,fun _ _ _ _ _=>?_,fun _ _ _ _ _=>?_,fun _ _ _ _ _=>?_,fun _ _ _ _ _=>?_,fun _ _ _ _ _=>?_⟩,fun _ _ _ _ _=>⟨?_,?_⟩,fun _ _ _ _ _ _ x hx=>?_,fun _ _ x hx=>?_,?_,fun _ _=>?_⟩
 all_goals first
  |(show(_:Int)<=_;simp only[nst0];omega)
  |(simp[nst0]at hx)
  |simp[nst0]
theorem Holds.new(G:Good D)(W:Ways D P)(hn:∀v,v<D.nodes->st.node v=nst0 D)(hl:∀a∈D.hops,st.link a=[])(ht:st.ticks=0):Holds D P [] (D.start:Int) 0 st:=by
 have e:∀v,k1g D st.node v=nst0 D:=fun v=>by
  by_cases h:v<D.nodes
  ·rw[k0Y h,hn v h]
  ·unfold k1g;rw[if_neg h]
 have ec:∀p,cont D (k1g D st.node) (fun _ _=>[]) p=[]:=fun p=>by
  cases p with
  |came v=>show(k1g D st.node v).waits 3=[];rw[e];rfl
  |q v i j k=>show(k1g D st.node v).q (i,j,k)=[];rw[e];rfl
  |fly x y k=>exact List.drop_nil
  |wait v k=>simp only[cont,e];split<;>rfl
 refine⟨fun _ _=>[],⟨⟨fun p x hx=>by rw[ec]at hx;(cases hx),fun p x hx=>by rw[ec]at hx;(cases hx),fun f=>?_⟩,fun a _ k _=>by rw[e];simp[nst0],fun a _ k _=>⟨0,Nat.le_refl _,by rw[e];simp[nst0]⟩,fun a _ k _ x hx=>by cases hx⟩,fun a ha r hr=>by rw[hl a ha]at hr;(cases hr),fun v hv=>by rw[hn v hv];exact kcd G v,fun v hv=>by rw[hn v hv];exact Nat.le_refl _,zz1⟩;have:pipe f (cont D (k1g D st.node) fun _ _=>[]) (PPf D P f)=[]:=by
  unfold pipe;rw[List.flatMap_eq_nil_iff];intro p _;rw[ec];rfl
 rw[this];exact List.nil_sublist _
theorem Holds.came(W:Ways D P)(h:Holds D P S M C st){v:Nat}(hv:v<D.nodes):(∀x∈(st.node v).waits 3,x.dst=v/\Nn x)/\∀f,k4w D f->f.2.1=v->List.Sublist (fl f ((st.node v).waits 3)) (fl f S):=by
 obtain⟨L,g,_,_,_⟩:=h;have e:cont D (k1g D st.node) L (.came v)=(st.node v).waits 3:=by show(k1g D st.node v).waits 3=_;rw[k0Y hv]
 refine⟨fun x hx=>?_,fun f hf hfv=>?_⟩
 ·rw[<- e]at hx
  have h1:=g.p.placed _ x hx;have h2:=g.p.nn _ x hx;have h3:v=x.dst.toNat:=PPf.came W h1;exact⟨by have:=h2.2.1;omega,h2⟩
 ·have h1:=g.p.sub f
  have h2:=PPf.has_came W hf;rw[hfv]at h2;have h3:=k3P (f:=f) (c:=cont D (k1g D st.node) L) h2;rw[e]at h3;exact h3.trans h1
theorem Holds.flo(W:Ways D P)(h:Holds D P S M C st){v:Nat}(hv:v<D.nodes){x:Pk}(hx:x∈(st.node v).waits 3):k4w D (k19 x):=by
 obtain⟨L,g,_,_,_⟩:=h;have e:cont D (k1g D st.node) L (.came v)=(st.node v).waits 3:=by show(k1g D st.node v).waits 3=_;rw[k0Y hv]
 rw[<- e]at hx;exact PPf.ok (g.p.placed _ x hx)
theorem Holds.mono(h:Holds D P S M C st){M':Int}{C':Nat}(h1:M<=M')(h2:C<=C'):Holds D P S M' C' st:=by
 obtain⟨L,g,r,k,tk⟩:=h;exact⟨L,g,r,fun v hv=>(k v hv).mono h1 h2,fun v hv=>Nat.le_trans (tk.1 v hv) h2,Nat.le_trans tk.2 h2⟩
theorem Holds.fok(h:Holds D P S M C st):FOk D M C st:=by obtain⟨_,_,_,k,_⟩:=h;exact k
theorem Holds.tk(h:Holds D P S M C st):TkOk D C st:=by obtain⟨_,_,_,_,k⟩:=h;exact k
theorem Holds.lok(h:Holds D P S M C st):LOk D st:=by
 obtain⟨_,_,r,_,_⟩:=h;exact fun a ha x hx=>(r a ha x hx).oct
end
end Go.Proofs.YtdopmlopafgonaaGreatDoor.Own
namespace Go.Proofs.YtdopmlopafgonaaGreatDoor.Own
open Go.RowKit Go.Proofs.YtdopmlopafgonaaGreatDoorW.PrintWords Go.Proofs.YtdopmlopafgonaaGreatDoorW.PrintLast Go.Proofs.YtdopmlopafgonaaGreatDoorW.PrintMore
def k4I(o o':Nat->Col):Prop:=∀b c,c≠.junk->o b=c->o' b=c
theorem PlanV.mono{w:World}{B B':Nat->Prop}{v:Value}{D:PlanD}(h:PlanV w B v D)(k:∀b,B b->B' b):PlanV w B' v D:=by
 obtain⟨ev,wv,nv,rows,ge,gw,gn,gs,hv,r1,r2,r3,r4,b1,b2,b3⟩:=h;exact⟨ev,wv,nv,rows,ge,gw,gn,gs,hv,r1,r2,r3,fun i r hr=>by obtain⟨u,a,b,c⟩:=r4 i r hr;exact⟨u,a,b,fun x e=>k x (c x e)⟩,fun b e=>k b (b1 b e),fun b e=>k b (b2 b e),fun b e=>k b (b3 b e)⟩
theorem PlanV.inside{w:World}{B:Nat->Prop}{v:Value}{D:PlanD}(h:PlanV w B v D):PlanV w (fun b=>B b/\b<w.heap.size) v D:=by
 obtain⟨ev,wv,nv,rows,ge,gw,gn,gs,hv,r1,r2,r3,r4,b1,b2,b3⟩:=h;exact⟨ev,wv,nv,rows,ge,gw,gn,gs,hv,r1,r2,r3,fun i r hr=>by obtain⟨u,a,b,c⟩:=r4 i r hr;exact⟨u,a,b,fun x e=>⟨c x e,b.lt e⟩⟩,fun b e=>⟨b1 b e,r1.lt e⟩,fun b e=>⟨b2 b e,r2.lt e⟩,fun b e=>⟨b3 b e,r3.lt e⟩⟩
theorem PlanV.inCells{w:World}{B:Nat->Prop}{v:Value}{D:PlanD}(h:PlanV w B v D):PlanV w (fun b=>B b/\b<w.heap.size/\∃cp Ty fr,w.heap[b]? = some (.cells cp Ty fr)) v D:=by
 obtain⟨ev,wv,nv,rows,ge,gw,gn,gs,hv,r1,r2,r3,r4,b1,b2,b3⟩:=h;refine⟨ev,wv,nv,rows,ge,gw,gn,gs,hv,r1,r2,r3,fun i r hr=>?_,fun b e=>?_,fun b e=>?_,fun b e=>?_⟩
 ·obtain⟨u,a,b,c⟩:=r4 i r hr
  refine⟨u,a,b,fun x e=>?_⟩;rw[e]at b;obtain⟨cp,hcp⟩:=b.blk_ty;exact⟨c x e,b.lt rfl,cp,_,_,hcp⟩
 ·subst e;obtain⟨cp,hcp⟩:=r1.blk_ty;exact⟨b1 b rfl,r1.lt rfl,cp,_,_,hcp⟩
 ·subst e;obtain⟨cp,hcp⟩:=r2.blk_ty;exact⟨b2 b rfl,r2.lt rfl,cp,_,_,hcp⟩
 ·subst e;obtain⟨cp,hcp⟩:=r3.blk_ty;exact⟨b3 b rfl,r3.lt rfl,cp,_,_,hcp⟩
section
variable{w:World}{o o':Nat->Col}
theorem HostAt.recol{c:Col}{g:Nat}{l q:Int}{r:Nat->List Pk}(h:HostAt w o c g l q r)(k:k4I o o')(hc:c≠.junk):HostAt w o' c g l q r:=by
 obtain⟨hg,vs,gs,hh,hr,hgs,hn⟩:=h;exact⟨k _ _ hc hg,vs,gs,hh,hr,fun i b hi e=>k _ _ hc (hgs i b hi e),hn⟩
theorem PoolAt.recol{c:Col}{g n:Nat}{f:Nat->Option Pk}{l:List Nat}(h:PoolAt w o c g n f l)(k:k4I o o')(hc:c≠.junk):PoolAt w o' c g n f l:=by
 obtain⟨hg,gs,bx,cur,hgs,hh,hs,hz,hn,h1,h2,h3⟩:=h;exact⟨k _ _ hc hg,gs,bx,cur,k _ _ hc hgs,hh,hs,hz,hn,h1,fun i x hi hx=>⟨k _ _ hc (h2 i x hi hx).1,(h2 i x hi hx).2⟩,h3⟩
theorem RingsIn.ok.recol{c:Col}{n:Nat}{q:Way->List Pk}{X:RingsIn}(h:X.ok w o c n q)(k:k4I o o')(hc:c≠.junk):X.ok w o' c n q:=
 { h with
   om:=k _ _ hc h.om
   og:=fun a ha=>k _ _ hc (h.og a ha) }
theorem RingsAt.recol{c d:Col}{g:Nat}{p k2:Int}{n:Nat}{q:Way->List Pk}(h:RingsAt w o c d g p k2 n q)(k:k4I o o')(hc:c≠.junk)(hd:d≠.junk):RingsAt w o' c d g p k2 n q:=by
 obtain⟨hg,X,hh,hp,hX,hpk⟩:=h;exact⟨k _ _ hc hg,X,hh,hp.recol k hd,hX.recol k hc,hpk⟩
theorem ArbAt.recol{c:Col}{g n:Nat}(h:ArbAt w o c g n)(k:k4I o o')(hc:c≠.junk):ArbAt w o' c g n:=by
 obtain⟨hg,ga,gb,f1,f2,hh,hne,oa,ob,r⟩:=h;exact⟨k _ _ hc hg,ga,gb,f1,f2,hh,hne,k _ _ hc oa,k _ _ hc ob,r⟩
theorem WheelAt.recol{c:Col}{g n:Nat}(h:WheelAt w o c g n)(k:k4I o o')(hc:c≠.junk):WheelAt w o' c g n:=by
 obtain⟨hg,va,vb,ga,gb,ws,ls,fr,hh,r1,r2,hne,oa,ob,r⟩:=h;exact⟨k _ _ hc hg,va,vb,ga,gb,ws,ls,fr,hh,r1,r2,hne,k _ _ hc oa,k _ _ hc ob,r⟩
theorem LnkAt.recol{c:Col}{g:Nat}{rows:List (List Int)}{room:Int}(h:LnkAt w o c g rows room)(k:k4I o o')(hc:c≠.junk):LnkAt w o' c g rows room:=by
 obtain⟨hg,v,gr,es,hh,hr,hgr,hrows,hnd,hes,hlen,hroom⟩:=h;exact⟨k _ _ hc hg,v,gr,es,hh,hr,fun b e=>k _ _ hc (hgr b e),hrows,hnd,fun e he=>⟨k _ _ hc (hes e he).1,(hes e he).2⟩,hlen,hroom⟩
theorem NodeAt.recol{v:Nat}{D:PlanD}{T:NTab}{st:NSt}(h:NodeAt w o v D T st)(k:k4I o o'):NodeAt w o' v D T st where
 og:=k _ _ zz6 h.og
 blk:=h.blk
 plan:=h.plan.mono fun b hb=>k _ _ zz6 hb
 ports:=h.ports
 op:=k _ _ zz6 h.op
 lanes:=fun i h1 h2=>⟨(h.lanes i h1 h2).1,k _ _ zz6 (h.lanes i h1 h2).2⟩
 arb:=h.arb.recol k zz6
 host:=h.host.recol k zz6
 rings:=h.rings.recol k zz6 zz6
 whl:=fun i hi=>(h.whl i hi).recol k zz6
 snd:=fun i j h1 h2 h3=>⟨k _ _ zz6 (h.snd i j h1 h2 h3).1,(h.snd i j h1 h2 h3).2⟩
 rcv:=fun i j h1 h2 h3=>⟨k _ _ zz6 (h.rcv i j h1 h2 h3).1,(h.rcv i j h1 h2 h3).2⟩
end
structure NewF(w:World)(o:Nat->Col)(D:PlanD)(pb:Obj)(E1:Option Addr)(k1:Nat)(E2:Option Addr)(k2:Nat)(E3:Option Addr)(k3:Nat)(hb ho hc mb g:Nat)(W:World)(oc:Nat->Col)(nv:Value)(gv:Option Nat)(T:Nat->NTab)(lk:Nat×Nat->Nat)(k j:Nat):Prop where
 new:NewB w.heap.size o w oc W
 og:oc g=.fab
 gn:w.heap.size<g
 blk:W.heap[g]? = some (.cells #[.int .i64 D.nodes,.slice E1 D.edges.length k1,.int .i64 D.lanes,.int .i64 D.room,.int .i64 D.queue,.int .i64 D.rounds,.int .i64 D.every,.int .i64 D.bag,.slice E2 D.weights.length k2,.int .u16 D.start,.slice E3 D.next.length k3,.slice (some ⟨hb,ho,none⟩) D.hops.length hc,nv,.map (some mb),.int .i64 0] 87 (0,0))
 plan:PlanV W (fun b=>oc b=.fix) (pagg D E1 k1 E2 k2 E3 k3) D
 hops:Row W (.slice (some ⟨hb,ho,none⟩) D.hops.length hc) 90 2 D.hops.length (k0d D.hops) (some hb)
 oh:oc hb=.fix
 map:MapAt mapL W mb (fun a=>if a∈D.hops.take j then some (.pointer (some ⟨lk a,0,none⟩)) else none)
 om:oc mb=.junk
 mn:w.heap.size<mb
 nodes:Row W nv 58 1 k ((List.range k).map fun v=>Value.pointer (some ⟨(T v).g,0,none⟩)) gv
 on:∀b,gv=some b->oc b=.junk/\w.heap.size<b
 node:∀v,v<k->NodeAt W oc v D (T v) (nst0 D)
 link:∀a,a∈D.hops.take j->LnkAt W oc (.lnk (lc a)) (lk a) [] D.bag
 box:W.heap[w.heap.size]? = some pb
 ob:oc w.heap.size=.fix
section
variable{w:World}{o:Nat->Col}{D:PlanD}{pb:Obj}{E1 E2 E3:Option Addr}{k1 k2 k3 hb ho hc mb g:Nat}{W W':World}{oc oc':Nat->Col}{nv:Value}{gv:Option Nat}{T:Nat->NTab}{lk:Nat×Nat->Nat}{k j:Nat}
theorem NewF.tr(h:NewF w o D pb E1 k1 E2 k2 E3 k3 hb ho hc mb g W oc nv gv T lk k j){S:Col->Prop}(t:Tr S oc W oc' W')(hS:∀c,S c->c=.junk\/c=.fab) :
 oc' g=.fab/\PlanV W' (fun b=>oc' b=.fix) (pagg D E1 k1 E2 k2 E3 k3) D/\Row W' (.slice (some ⟨hb,ho,none⟩) D.hops.length hc) 90 2 D.hops.length (k0d D.hops) (some hb)/\oc' hb=.fix/\oc' mb=.junk /\
 (∀v,v<k->NodeAt W' oc' v D (T v) (nst0 D))/\(∀a,a∈D.hops.take j->LnkAt W' oc' (.lnk (lc a)) (lk a) [] D.bag)/\W'.heap[w.heap.size]? = some pb/\oc' w.heap.size=.fix/\(∀b,gv=some b->oc' b=.junk/\w.heap.size<b)/\w.heap.size<=W.heap.size:=by
 have hfix:¬S .fix:=fun e=>by rcases hS _ e with e|e<;>cases e
 refine⟨(t.own _ (k03 h.blk)).trans h.og,h.plan.tr t hfix,h.hops.only t.only (fun b e=>by cases e;rw[h.oh];exact hfix),(t.own _ (h.hops.lt rfl)).trans h.oh,(t.own _ h.map.lt).trans h.om,fun v hv=>(h.node v hv).tr t hfix (fun c hc hs=>?_),fun a ha=>(h.link a ha).tr t (fun hs=>?_),t.blk h.box (by rw[h.ob];exact hfix),(t.own _ (k03 h.box)).trans h.ob,fun b e=>⟨(t.own _ (h.nodes.lt e)).trans (h.on b e).1,(h.on b e).2⟩,h.new.below.size⟩
 ·rcases hS _ hs with e|e<;>subst e<;>cases hc
 ·rcases hS _ hs with e|e<;>cases e
theorem NewF.blw(h:NewF w o D pb E1 k1 E2 k2 E3 k3 hb ho hc mb g W oc nv gv T lk k j)(b:Below W.heap.size W W'):NewF w o D pb E1 k1 E2 k2 E3 k3 hb ho hc mb g W' oc nv gv T lk k j:=by
 obtain⟨a1,a2,a3,a4,a5,a6,a7,a8,a9,a10,a11⟩:=h.tr (Tr.below (S:=fun _=>False) h.new.fresh b) (fun _ x=>x.elim);exact⟨h.new.blw b a11,a1,h.gn,(b.block _ (k03 h.blk)).trans h.blk,a2,a3,a4,h.map.of_blk (b.block _ h.map.lt),a5,h.mn,h.nodes.below b,a10,a6,a7,a8,a9⟩
theorem NewF.hop(h:NewF w o D pb E1 k1 E2 k2 E3 k3 hb ho hc mb g W oc nv gv T lk k j)(i:Nat)(a:Nat×Nat)(ha:D.hops[i]? = some a):W.cell? ⟨hb,ho+i*2,none⟩=some (.int .i64 a.1)/\W.cell? ⟨hb,ho+i*2+1,none⟩=some (.int .i64 a.2):=by
 have hi:=(List.getElem?_eq_some_iff.1 ha).1;exact zz65
theorem NewF.addNode(h:NewF w o D pb E1 k1 E2 k2 E3 k3 hb ho hc mb g W oc nv gv T lk k j){wa wd:World}{oa:Nat->Col}{T':NTab}{vd:Value}{gd:Option Nat}(N:NewB W.heap.size oc W oa wa)(H:NodeAt wa oa k D T' (nst0 D))
 (O:Only (fun b=>gv=some b) wa wd) (R:Row wd vd 58 1 (k+1) (((List.range k).map fun v=>Value.pointer (some ⟨(T v).g,0,none⟩))++[.pointer (some ⟨T'.g,0,none⟩)]) gd) (Gd:gd=gv\/∃b,gd=some b/\wa.heap.size<=b) :
 NewF w o D pb E1 k1 E2 k2 E3 k3 hb ho hc mb g (wd.setCell ⟨g,12,none⟩ vd) oa vd gd (upd T k T') lk (k+1) j:=by
 have hg:=k03 h.blk;have hm:=h.map.lt;have t1:Tr (fun c=>c=.junk\/c=.fab) oc W oa wa:=N.toTr.mono (fun _ x=>x.elim);have hgv:∀b,gv=some b->oa b=.junk/\w.heap.size<b/\b<W.heap.size:=fun b e=>⟨(t1.own _ (h.nodes.lt e)).trans (h.on b e).1,(h.on b e).2,h.nodes.lt e⟩
 have t2:Tr (fun c=>c=.junk\/c=.fab) oa wa oa wd:=⟨O.mono (fun b _ e=>.inl (hgv b e).1),fun _ _=>rfl,fun b hb=>N.fresh b (Nat.le_trans O.size hb)⟩;have oga:oa g=.fab:=(t1.own _ hg).trans h.og;have t3:Tr (fun c=>c=.junk\/c=.fab) oa wd oa (wd.setCell ⟨g,12,none⟩ vd):=Tr.same t2.fresh ((k0j _ _ _ _).mono (fun b _ e=>by rw[e];exact .inr oga));have t:=(t1.trans t2).trans t3;obtain⟨a1,a2,a3,a4,a5,a6,a7,a8,a9,a10,a11⟩:=h.tr t (fun _ x=>x);have ws:=t1.only.size;have ds:=O.size;have ngv:∀b,gv=some b->b≠g:=fun b e e2=>by have:=(hgv b e).1;rw[e2,oga]at this;cases this
 have kg:wd.heap[g]? = W.heap[g]?:=(O.keep g zz1 (fun e=>ngv _ e rfl)).trans (N.below.block g hg);have mg:mb≠g:=fun e=>by have:=h.om;rw[e,h.og]at this;cases this
 refine⟨⟨⟨?_,?_,?_,?_,fun b hb=>?_⟩,fun b hb=>?_,t.fresh⟩,a1,h.gn,?_,a2,a3,a4,?_,a5,h.mn,?_,?_,fun v hv=>?_,a7,a8,a9⟩
 ·exact t.only.os.trans h.new.below.os
 ·exact t.only.tape.trans h.new.below.tape
 ·exact t.only.output.trans h.new.below.output
 ·exact Nat.le_trans a11 t.only.size
 ·have hg2:=h.gn
  refine(Below.heap_setCell _ _ _ _ (by show b≠g;omega)).trans ((O.keep b zz1 (fun e=>?_)).trans ((N.below.block b zz1).trans (h.new.below.block b hb)));have:=(hgv b e).2.1;exact zz1
 ·rw[N.own b zz1];exact h.new.own b hb
 ·have Z:=kg.trans h.blk
  exact k05 Z 12 vd
 ·refine(h.map.of_blk ?_).of_blk (Below.heap_setCell _ _ _ _ mg)
  by_cases e:gv=some mb
  ·exfalso
   obtain⟨cp,hcp⟩:=(show Row W nv 58 1 k _ (some mb) from e▸h.nodes).blk_ty;obtain⟨es,clock,hh,_⟩:=h.map;rw[hcp]at hh;cases hh
  ·exact(O.keep mb zz1 e).trans (N.below.block mb hm)
 ·have e:((List.range (k+1)).map fun v=>Value.pointer (some ⟨(upd T k T' v).g,0,none⟩))=((List.range k).map fun v=>Value.pointer (some ⟨(T v).g,0,none⟩))++[.pointer (some ⟨T'.g,0,none⟩)]:=by
   rw[List.range_succ,List.map_append];congr 1
   ·refine List.map_congr_left fun v hv=>?_
    have:=List.mem_range.1 hv;rw[k06 _ _ zz1]
   ·simp[k04]
  rw[e];refine R.only (k0j wd g 12 vd) (fun b e1 e2=>?_);rcases Gd with e3|⟨b2,e3,hb2⟩
  ·exact ngv b (by rw[<- e3];exact e1) e2
  ·rw[e1]at e3;cases e3;omega
 ·intro b e
  rcases Gd with e3|⟨b2,e3,hb2⟩
  ·exact⟨(hgv b (e3▸e)).1,(hgv b (e3▸e)).2.1⟩
  ·rw[e]at e3;cases e3
   exact⟨N.fresh b hb2,by have:=h.gn;omega⟩
 ·by_cases e:v=k
  ·subst e;rw[k04]
   refine(H.tr (t2.trans t3) (fun e=>by rcases e with e|e<;>cases e) (fun c hc hs=>?_));rcases hs with e|e<;>subst e<;>cases hc
  ·rw[k06 _ _ e];exact a6 v zz1
theorem NewF.addLink(G:Good D)(h:NewF w o D pb E1 k1 E2 k2 E3 k3 hb ho hc mb g W oc nv gv T lk k j){wa wd:World}{a:Nat×Nat}(ha:D.hops[j]? = some a)(Ba:Below W.heap.size W wa)
 (M:MapAt mapL wd mb (fun x=>if x=a then some (.pointer (some ⟨wa.heap.size,0,none⟩)) else if x∈D.hops.take j then some (.pointer (some ⟨lk x,0,none⟩)) else none))
 (O:Only (fun x=>x=mb) (wa.alloc (.cells #[.slice none 0 0,.int .i64 D.bag] 119)) wd) :
 NewF w o D pb E1 k1 E2 k2 E3 k3 hb ho hc mb g wd (paint oc wa.heap.size (wa.alloc (.cells #[.slice none 0 0,.int .i64 D.bag] 119)).heap.size (.lnk (lc a))) nv gv T (fun x=>if x=a then wa.heap.size else lk x) k (j+1):=by
 have hbag:(1:Int)<=D.bag/\(D.bag:Int)<=64:=by have:=G.b0;omega
 have hg:=k03 h.blk;have hm:=h.map.lt;have t1:Tr (fun c=>c=.junk\/c=.fab) oc W oc wa:=Tr.below h.new.fresh Ba;have t2:Tr (fun c=>c=.junk\/c=.fab) oc wa (paint oc wa.heap.size (wa.alloc (.cells #[.slice none 0 0,.int .i64 D.bag] 119)).heap.size (.lnk (lc a))) (wa.alloc (.cells #[.slice none 0 0,.int .i64 D.bag] 119)):=Tr.paint _ (Only.of_below ((Below.refl _ wa).alloc (Nat.le_refl _) _));have Lk:=LnkAt.new oc (.lnk (lc a)) (D.bag:Int) wa hbag.1 hbag.2;obtain⟨o2,ho2⟩:∃o2,o2=paint oc wa.heap.size (wa.alloc (.cells #[.slice none 0 0,.int .i64 D.bag] 119)).heap.size (.lnk (lc a)):=⟨_,rfl⟩;obtain⟨wb,hwb⟩:∃wb,wb=wa.alloc (.cells #[.slice none 0 0,.int .i64 D.bag] 119):=⟨_,rfl⟩;rw[<- ho2]at t2 Lk ⊢;rw[<- hwb]at t2 Lk O;have t12:=t1.trans t2;have om2:o2 mb=.junk:=(t12.own _ hm).trans h.om;have t3:Tr (fun c=>c=.junk\/c=.fab) o2 wb o2 wd:=Tr.same t2.fresh (O.mono (fun b _ e=>by rw[e];exact .inl om2));have t:=t12.trans t3;obtain⟨a1,a2,a3,a4,a5,a6,a7,a8,a9,a10,a11⟩:=h.tr t (fun _ x=>x);have mg:g≠mb:=fun e=>by have:=h.om;rw[<- e,h.og]at this;cases this
 have hmem:∀x,x∈D.hops.take (j+1) ↔ x=a\/x∈D.hops.take j:=fun x=>by
  rw[List.take_add_one,ha];simp[or_comm]
 have hab:∀b,b<wa.heap.size->wb.heap[b]? = wa.heap[b]?:=fun b hb=>by rw[hwb];exact((Below.refl _ wa).alloc (Nat.le_refl _) _).block b hb
 have keep:∀b,b<W.heap.size->b≠mb->wd.heap[b]? = W.heap[b]?:=fun b hb hne=>(O.keep b (Nat.lt_of_lt_of_le hb t12.only.size) hne).trans ((hab b (Nat.lt_of_lt_of_le hb t1.only.size)).trans (Ba.block b hb))
 refine⟨⟨⟨?_,?_,?_,?_,fun b hb=>?_⟩,fun b hb=>?_,t.fresh⟩,a1,h.gn,?_,a2,a3,a4,?_,a5,h.mn,?_,a10,a6,fun x hx=>?_,a8,a9⟩
 ·exact t.only.os.trans h.new.below.os
 ·exact t.only.tape.trans h.new.below.tape
 ·exact t.only.output.trans h.new.below.output
 ·exact Nat.le_trans a11 t.only.size
 ·have:=h.mn
  exact(keep b zz1 zz1).trans (h.new.below.block b hb)
 ·rw[t.own b zz1];exact h.new.own b hb
 ·exact(keep g hg mg).trans h.blk
 ·have e:(fun x=>if x∈D.hops.take (j+1) then some (Value.pointer (some ⟨if x=a then wa.heap.size else lk x,0,none⟩)) else none)=(fun x=>if x=a then some (.pointer (some ⟨wa.heap.size,0,none⟩)) else if x∈D.hops.take j then some (.pointer (some ⟨lk x,0,none⟩)) else none):=by
   funext x;by_cases e:x=a
   ·rw[if_pos ((hmem x).2 (.inl e)),if_pos e,if_pos e]
   ·by_cases e2:x∈D.hops.take j
    ·rw[if_pos ((hmem x).2 (.inr e2)),if_neg e,if_neg e,if_pos e2]
    ·rw[if_neg (fun e3=>by rcases(hmem x).1 e3 with e4|e4;exact e e4;exact e2 e4),if_neg e,if_neg e2]
  exact e▸M
 ·by_cases hk:gv=none
  ·rw[hk];exact(h.nodes.only (P:=fun b=>b=mb\/W.heap.size<=b) ⟨t.only.os,t.only.tape,t.only.output,t.only.size,fun b hb hne=>keep b hb (fun e=>hne (.inl e))⟩ (fun b e=>by rw[hk]at e;cases e)) |> fun r=>by rw[hk]at r;exact r
  ·refine h.nodes.only (P:=fun b=>b=mb\/W.heap.size<=b) ⟨t.only.os,t.only.tape,t.only.output,t.only.size,fun b hb hne=>keep b hb (fun e=>hne (.inl e))⟩ (fun b e e2=>?_)
   rcases e2 with e2|e2
   ·subst e2
    obtain⟨cp,hcp⟩:=(show Row W nv 58 1 k _ (some b) from e▸h.nodes).blk_ty;obtain⟨es,clock,hh,_⟩:=h.map;rw[hcp]at hh;cases hh
   ·have:=h.nodes.lt e;omega
 ·rcases(hmem x).1 hx with e|hx'
  ·subst e
   rw[if_pos rfl];exact Lk.tr t3 (fun e=>by rcases e with e|e<;>cases e)
  ·by_cases e:x=a
   ·subst e;rw[if_pos rfl];exact Lk.tr t3 (fun e=>by rcases e with e|e<;>cases e)
   ·rw[if_neg e];exact a7 x hx'
def fst0(D:PlanD):FSt:=⟨fun _=>nst0 D,fun _=>[],0⟩
theorem NewF.done(G:Good D)(h:NewF w o D pb E1 k1 E2 k2 E3 k3 hb ho hc mb g W oc nv gv T lk D.nodes D.hops.length):∃F o',FabAt W o' D F (fst0 D)/\NewB w.heap.size o w o' W/\F.g=g:=by
 have hn:=G.n0;obtain⟨vb,vo,vc,hgv,hA,_,_,_⟩:=h.nodes.open zz1;subst hgv;subst hA;have hmem:∀a,a∈D.hops->a∈D.hops.take D.hops.length:=fun a ha=>by rw[List.take_length];exact ha
 obtain⟨o',ho'⟩:∃o':Nat->Col,o'=fun b=>if b=mb\/b=vb then .fix else oc b:=⟨_,rfl⟩
 have hov:=h.on vb rfl;have om':o' mb=.fix:=by rw[ho'];simp
 have ov':o' vb=.fix:=by rw[ho'];simp
 have rc:k4I oc o':=fun b c hc e=>by
  rw[ho'];show(if b=mb\/b=vb then Col.fix else oc b)=c;rw[if_neg];exact e;rintro(e2|e2)
  ·rw[e2,h.om]at e;exact hc e.symm
  ·rw[e2,hov.1]at e;exact hc e.symm
 refine⟨⟨g,mb,vb,vo,vc,hb,ho,hc,E1,k1,E2,k2,E3,k3,T,lk⟩,o',⟨rc _ _ zz6 h.og,h.blk,h.plan.mono (fun b hb=>rc _ _ zz6 hb),h.hops,rc _ _ zz6 h.oh,h.nodes,ov',?_,om',fun v hv=>(h.node v hv).recol rc,fun a ha=>(h.link a (hmem a ha)).recol rc zz6⟩,⟨h.new.below,fun b hb=>?_,fun b hb=>?_⟩,rfl⟩
 ·have:=h.map
  rw[List.take_length]at this;exact this
 ·have:=h.mn
  rw[ho'];show(if b=mb\/b=vb then Col.fix else oc b)=o b;rw[if_neg zz1];exact h.new.own b hb
 ·have h1:=h.map.lt
  have h2:=h.nodes.lt rfl;rw[ho'];show(if b=mb\/b=vb then Col.fix else oc b)=_;rw[if_neg zz1];exact h.new.fresh b hb
end
section
variable{w:World}{o:Nat->Col}{D:PlanD}{F:FTab}{st:FSt}
theorem k4Y(i:Nat)(m:Int)(a:Nat×Nat)(H:FabAt w o D F st)(G:Good D)(hf:Fresh o w)(ha:D.hops[i]? = some a)(hm:m<0\/((st.link a).length:Int)<=m) :
 Calls Tryz.prog 27 #[.pointer (some ⟨F.g,0,none⟩),.int .i64 i,.int .i64 m] w fun e w'=>e=.returned (.int .u16 1)/\Below w.heap.size w w':=by
 have cl:=k24 H G i a ha;have HA:=Ac (_/\_) (⟨H,hf⟩);have HM:=Ac (_/\_) (⟨List.mem_of_getElem? ha,hm⟩);clear H G hf ha hm;go_enter Tryz.func27,Tryz.ntmps27
 go_wp2_with(first
  |(go_at_call 30;refine(k3W m ((HA.1.1.blw HA.1.2 LB.1).link _ HM.1.1) HM.1.2).mono ?_;rintro e w2 ⟨rfl,hb2⟩;have LB2:=Ab (LB.1.trans (hb2.mono LB.1.size));clear hb2)
  |(go_at_call 17;refine cl.mono ?_;rintro e w1 ⟨rfl,hb⟩;have LB:=Ab hb;clear hb))
 go_ret;exact⟨rfl,LB2.1⟩
theorem set11{W:World}{b:Nat}{D:PlanD}{E1 E2 E3:Option Addr}{k1 k2 k3:Nat}{cur:Array Value}(h:W.heap[b]? = some (.cells cur 32 (0,0)))(hs:cur.size=11) :
 ((((((((((((W.setCell ⟨b,0,none⟩ (.int .i64 D.nodes)).setCell ⟨b,1,none⟩ (.slice E1 D.edges.length k1)).setCell ⟨b,2,none⟩ (.int .i64 D.lanes)).setCell ⟨b,3,none⟩ (.int .i64 D.room)).setCell ⟨b,4,none⟩ (.int .i64 D.queue)).setCell ⟨b,5,none⟩ (.int .i64 D.rounds)).setCell ⟨b,6,none⟩ (.int .i64 D.every)).setCell ⟨b,7,none⟩ (.int .i64 D.bag)).setCell ⟨b,8,none⟩ (.slice E2 D.weights.length k2)).setCell ⟨b,9,none⟩ (.int .u16 D.start)).setCell ⟨b,10,none⟩ (.slice E3 D.next.length k3))).heap[b]? = some (.cells #[.int .i64 D.nodes,.slice E1 D.edges.length k1,.int .i64 D.lanes,.int .i64 D.room,.int .i64 D.queue,.int .i64 D.rounds,.int .i64 D.every,.int .i64 D.bag,.slice E2 D.weights.length k2,.int .u16 D.start,.slice E3 D.next.length k3] 32 (0,0))/\Only (fun x=>x=b) W (((((((((((W.setCell ⟨b,0,none⟩ (.int .i64 D.nodes)).setCell ⟨b,1,none⟩ (.slice E1 D.edges.length k1)).setCell ⟨b,2,none⟩ (.int .i64 D.lanes)).setCell ⟨b,3,none⟩ (.int .i64 D.room)).setCell ⟨b,4,none⟩ (.int .i64 D.queue)).setCell ⟨b,5,none⟩ (.int .i64 D.rounds)).setCell ⟨b,6,none⟩ (.int .i64 D.every)).setCell ⟨b,7,none⟩ (.int .i64 D.bag)).setCell ⟨b,8,none⟩ (.slice E2 D.weights.length k2)).setCell ⟨b,9,none⟩ (.int .u16 D.start)).setCell ⟨b,10,none⟩ (.slice E3 D.next.length k3)):=by
 obtain⟨l⟩:=cur;obtain⟨x0,x1,x2,x3,x4,x5,x6,x7,x8,x9,x10,rfl⟩:∃x0 x1 x2 x3 x4 x5 x6 x7 x8 x9 x10,l=[x0,x1,x2,x3,x4,x5,x6,x7,x8,x9,x10]:=by
  match l,hs with
  |[x0,x1,x2,x3,x4,x5,x6,x7,x8,x9,x10],_=>exact⟨x0,x1,x2,x3,x4,x5,x6,x7,x8,x9,x10,rfl⟩
 have Z0:=h;have Z1:=k05 Z0 0 (.int .i64 D.nodes);simp only[List.setIfInBounds_toArray,List.set_cons_zero,List.set_cons_succ]at Z1;have Z2:=k05 Z1 1 (.slice E1 D.edges.length k1);simp only[List.setIfInBounds_toArray,List.set_cons_zero,List.set_cons_succ]at Z2;have Z3:=k05 Z2 2 (.int .i64 D.lanes);simp only[List.setIfInBounds_toArray,List.set_cons_zero,List.set_cons_succ]at Z3;have Z4:=k05 Z3 3 (.int .i64 D.room);simp only[List.setIfInBounds_toArray,List.set_cons_zero,List.set_cons_succ]at Z4;have Z5:=k05 Z4 4 (.int .i64 D.queue);simp only[List.setIfInBounds_toArray,List.set_cons_zero,List.set_cons_succ]at Z5;have Z6:=k05 Z5 5 (.int .i64 D.rounds);simp only[List.setIfInBounds_toArray,List.set_cons_zero,List.set_cons_succ]at Z6;have Z7:=k05 Z6 6 (.int .i64 D.every);simp only[List.setIfInBounds_toArray,List.set_cons_zero,List.set_cons_succ]at Z7;have Z8:=k05 Z7 7 (.int .i64 D.bag);simp only[List.setIfInBounds_toArray,List.set_cons_zero,List.set_cons_succ]at Z8;have Z9:=k05 Z8 8 (.slice E2 D.weights.length k2);simp only[List.setIfInBounds_toArray,List.set_cons_zero,List.set_cons_succ]at Z9;have Z10:=k05 Z9 9 (.int .u16 D.start);simp only[List.setIfInBounds_toArray,List.set_cons_zero,List.set_cons_succ]at Z10;have Z11:=k05 Z10 10 (.slice E3 D.next.length k3);simp only[List.setIfInBounds_toArray,List.set_cons_zero,List.set_cons_succ]at Z11;refine⟨Z11,?_⟩;have o0:Only (fun x=>x=b) W W:=Only.refl _ _;have o1:=o0.set (p:=⟨b,0,none⟩) (fun _=>rfl) (.int .i64 D.nodes);have o2:=o1.set (p:=⟨b,1,none⟩) (fun _=>rfl) (.slice E1 D.edges.length k1);have o3:=o2.set (p:=⟨b,2,none⟩) (fun _=>rfl) (.int .i64 D.lanes);have o4:=o3.set (p:=⟨b,3,none⟩) (fun _=>rfl) (.int .i64 D.room);have o5:=o4.set (p:=⟨b,4,none⟩) (fun _=>rfl) (.int .i64 D.queue);have o6:=o5.set (p:=⟨b,5,none⟩) (fun _=>rfl) (.int .i64 D.rounds);have o7:=o6.set (p:=⟨b,6,none⟩) (fun _=>rfl) (.int .i64 D.every);have o8:=o7.set (p:=⟨b,7,none⟩) (fun _=>rfl) (.int .i64 D.bag);have o9:=o8.set (p:=⟨b,8,none⟩) (fun _=>rfl) (.slice E2 D.weights.length k2);have o10:=o9.set (p:=⟨b,9,none⟩) (fun _=>rfl) (.int .u16 D.start);have o11:=o10.set (p:=⟨b,10,none⟩) (fun _=>rfl) (.slice E3 D.next.length k3);exact o11
theorem k3m(H:FabAt w o D F st)(G:Good D)(hf:Fresh o w) :
 Calls Tryz.prog 44 #[.pointer (some ⟨F.g,0,none⟩)] w fun e w'=>∃E1 k1 E2 k2 E3 k3,e=.returned (pagg D E1 k1 E2 k2 E3 k3)/\PlanV w' (fun b=>w.heap.size<=b) (pagg D E1 k1 E2 k2 E3 k3) D/\Below w.heap.size w w':=by
 have L1:=Ab ((Below.refl w.heap.size w).alloc (Nat.le_refl _) (.cells #[.int .i64 0,.slice none 0 0,.int .i64 0,.int .i64 0,.int .i64 0,.int .i64 0,.int .i64 0,.int .i64 0,.slice none 0 0,.int .u16 0,.slice none 0 0] 32));have Z1:=Ab (heap_alloc_new w (.cells #[.int .i64 0,.slice none 0 0,.int .i64 0,.int .i64 0,.int .i64 0,.int .i64 0,.int .i64 0,.int .i64 0,.slice none 0 0,.int .u16 0,.slice none 0 0] 32));have H1:=Ab (H.blw hf L1.1);have b0:=fun j=>k00 H1.1.blk j
 have HG:=Ab G;have hne:F.g<w.heap.size:=k03 H.blk;have HF:=Ab H.plan;clear H G hf;go_enter Tryz.func44,Tryz.ntmps44
 go_wp2_with(go_at_call 36;refine(k2Z _ _ D _ (HF.1.below L1.1) HG.1).mono ?_;rintro e wC ⟨vC,rfl,hpC,hbC⟩;obtain⟨E1,k1,E2,k2,E3,k3,rfl⟩:=hpC.shape;have BC:=Ac (Below w.heap.size w wC) (L1.1.trans (hbC.mono L1.1.size));have PC:=Ab (hpC.mono (fun b hb=>show w.heap.size+1<=b from(by simpa using hb)));have ZC:=Ab ((hbC.block _ zz6).trans Z1.1);have c6:=fun j=>k00 ZC.1 j;have f6:=fun j=>k02 ZC.1 j;clear hpC hbC)
 obtain⟨ZF,oF⟩:=set11 (D:=D) (E1:=E1) (E2:=E2) (E3:=E3) (k1:=k1) (k2:=k2) (k3:=k3) ZC.1 rfl;obtain⟨wf,hwf⟩:∃wf,wf=(((((((((((wC.setCell ⟨w.heap.size,0,none⟩ (.int .i64 D.nodes)).setCell ⟨w.heap.size,1,none⟩ (.slice E1 D.edges.length k1)).setCell ⟨w.heap.size,2,none⟩ (.int .i64 D.lanes)).setCell ⟨w.heap.size,3,none⟩ (.int .i64 D.room)).setCell ⟨w.heap.size,4,none⟩ (.int .i64 D.queue)).setCell ⟨w.heap.size,5,none⟩ (.int .i64 D.rounds)).setCell ⟨w.heap.size,6,none⟩ (.int .i64 D.every)).setCell ⟨w.heap.size,7,none⟩ (.int .i64 D.bag)).setCell ⟨w.heap.size,8,none⟩ (.slice E2 D.weights.length k2)).setCell ⟨w.heap.size,9,none⟩ (.int .u16 D.start)).setCell ⟨w.heap.size,10,none⟩ (.slice E3 D.next.length k3)):=⟨_,rfl⟩;rw[<- hwf]at ZF oF ⊢;refine bodyPost_ret (results_cell_row rfl _ _ w.heap.size 32 _ (0,0) _ rfl ZF Tryz.underlying32 rfl zz2) rfl ?_;refine⟨E1,k1,E2,k2,E3,k3,rfl,(PC.1.keep (fun b hb hb2=>oF.keep b hb zz1)).mono (fun b hb=>by omega),?_⟩;refine⟨oF.os.trans BC.1.os,oF.tape.trans BC.1.tape,oF.output.trans BC.1.output,Nat.le_trans BC.1.size oF.size,fun b hb=>(oF.keep b (Nat.lt_of_lt_of_le hb BC.1.size) zz1).trans (BC.1.block b hb)⟩
end
structure PTab where
 g:Nat
 A1:Option Addr
 c1:Nat
 A2:Option Addr
 c2:Nat
 A3:Option Addr
 c3:Nat
abbrev k69(D:PlanD)(F:FTab)(Y:PTab)(sv:Value)(ov:Int):Obj:=.cells #[.int .i64 D.nodes,.slice Y.A1 D.edges.length Y.c1,.int .i64 D.lanes,.int .i64 D.room,.int .i64 D.queue,.int .i64 D.rounds,.int .i64 D.every,.int .i64 D.bag,.slice Y.A2 D.weights.length Y.c2,.int .u16 D.start,.slice Y.A3 D.next.length Y.c3,.pointer (some ⟨F.g,0,none⟩),sv,.int .i64 ov] 36 (0,0)
structure PlayAt(w:World)(o:Nat->Col)(D:PlanD)(F:FTab)(Y:PTab)(st:FSt)(S:List Pk)(sv:Value)(gs:Option Nat)(ov:Int):Prop where
 og:o Y.g=.junk
 blk:w.heap[Y.g]? = some (k69 D F Y sv ov)
 plan:PlanV w (fun b=>o b=.fix) (pagg D Y.A1 Y.c1 Y.A2 Y.c2 Y.A3 Y.c3) D
 sent:Row w sv 40 4 S.length (k0J S) gs
 os:∀b,gs=some b->o b=.junk
 fab:FabAt w o D F st
 fresh:Fresh o w
 tab:Tab w
 o0:o 0=.fix
section
variable{w w':World}{o o':Nat->Col}{D:PlanD}{F:FTab}{Y:PTab}{st st':FSt}{S:List Pk}{sv:Value}{gs:Option Nat}{ov:Int}
theorem PlayAt.fabTo{T:Col->Prop}(h:PlayAt w o D F Y st S sv gs ov)(t:Tr T o w o' w')(hf:¬T .fix)(hj:¬T .junk)(k:FabAt w' o' D F st'):PlayAt w' o' D F Y st' S sv gs ov where
 og:=(t.own _ (k03 h.blk)).trans h.og
 blk:=t.blk h.blk (by rw[h.og];exact hj)
 plan:=h.plan.tr t hf
 sent:=h.sent.only t.only (fun b e=>by rw[h.os b e];exact hj)
 os:=fun b e=>(t.own _ (h.sent.lt e)).trans (h.os b e)
 fab:=k
 fresh:=t.fresh
 tab:=h.tab.tr t (by rw[h.o0];exact hf)
 o0:=(t.own _ h.tab.lt).trans h.o0
theorem PlayAt.blw(h:PlayAt w o D F Y st S sv gs ov)(b:Below w.heap.size w w'):PlayAt w' o D F Y st S sv gs ov:=
 h.fabTo (Tr.below (S:=fun _=>False) h.fresh b) (fun x=>x) (fun x=>x) (h.fab.blw h.fresh b)
theorem PlayAt.junkTo(h:PlayAt w o D F Y st S sv gs ov)(t:Tr (fun c=>c=.junk) o w o w'):FabAt w' o D F st/\PlanV w' (fun b=>o b=.fix) (pagg D Y.A1 Y.c1 Y.A2 Y.c2 Y.A3 Y.c3) D/\Fresh o w'/\Tab w':=
 ⟨h.fab.tr t zz6 zz6 (fun v c hc e=>by rw[e]at hc;cases hc) zz6,h.plan.tr t zz6,t.fresh,h.tab.tr t (by rw[h.o0];simp)⟩
theorem PlayAt.sent_ne(h:PlayAt w o D F Y st S sv gs ov):∀b,gs=some b->b≠Y.g:=fun b e=>by
 subst e;obtain⟨cp,hcp⟩:=h.sent.blk_ty;exact k0u hcp h.blk zz7
theorem PlayAt.overTo(h:PlayAt w o D F Y st S sv gs ov)(x:Int):PlayAt (w.setCell ⟨Y.g,13,none⟩ (.int .i64 x)) o D F Y st S sv gs x:=by
 have t:Tr (fun c=>c=.junk) o w o (w.setCell ⟨Y.g,13,none⟩ (.int .i64 x)):=Tr.same h.fresh ((k0j _ _ _ _).mono (fun b _ e=>by rw[e];exact h.og));obtain⟨a,b,c,d⟩:=h.junkTo t;exact⟨h.og,k05 h.blk 13 _,b,h.sent.only (k0j w Y.g 13 _) (fun b e e2=>h.sent_ne b e e2),h.os,a,c,d,h.o0⟩
theorem PlayAt.overTr(h:PlayAt w o D F Y st S sv gs ov)(x:Int):Tr (fun c=>c=.junk) o w o (w.setCell ⟨Y.g,13,none⟩ (.int .i64 x)):=Tr.same h.fresh ((k0j _ _ _ _).mono (fun b _ e=>by rw[e];exact h.og))
theorem PlayAt.sentTo(h:PlayAt w o D F Y st S sv gs ov){w1:World}{u:Value}{g1:Option Nat}{x:Pk}(O:Only (fun b=>gs=some b) w w1)(R:Row w1 u 40 4 (S.length+1) (k0J S++x.enc) g1)(Gd:g1=gs\/∃b,g1=some b/\w.heap.size<=b):PlayAt (w1.setCell ⟨Y.g,12,none⟩ u) o D F Y st (S++[x]) u g1 ov/\Tr (fun c=>c=.junk) o w o (w1.setCell ⟨Y.g,12,none⟩ u):=by
 have t1:Tr (fun c=>c=.junk) o w o w1:=Tr.same h.fresh (O.mono (fun b _ e=>h.os b e));have t2:Tr (fun c=>c=.junk) o w1 o (w1.setCell ⟨Y.g,12,none⟩ u):=Tr.same t1.fresh ((k0j _ _ _ _).mono (fun b _ e=>by rw[e];exact h.og));have t:=t1.trans t2;obtain⟨a,b,c,d⟩:=h.junkTo t;have Z:=(O.keep Y.g (k03 h.blk) (fun e=>h.sent_ne _ e rfl)).trans h.blk;refine⟨⟨h.og,k05 Z 12 u,b,?_,fun b e=>?_,a,c,d,h.o0⟩,t⟩
 ·have e:k0J (S++[x])=k0J S++x.enc:=by simp[k0J]
  rw[e,List.length_append];refine R.only (k0j w1 Y.g 12 u) (fun b e e2=>?_);rcases Gd with e3|⟨b2,e3,hb⟩
  ·exact h.sent_ne b (by rw[<- e3];exact e) e2
  ·rw[e]at e3;cases e3;have:=k03 h.blk;omega
 ·rcases Gd with e3|⟨b2,e3,hb⟩
  ·exact h.os b (by rw[<- e3];exact e)
  ·rw[e]at e3;cases e3;exact h.fresh b hb
def k2m(c:Col):Prop:=k0W c\/c=.junk
theorem k0R:¬k0W .fix:=by
 rintro(⟨v,h⟩|⟨n,h⟩|h)
 ·exact zz52
 ·exact zz52
 ·exact zz52
theorem k0T:¬k0W .junk:=by
 rintro(⟨v,h⟩|⟨n,h⟩|h)
 ·exact zz52
 ·exact zz52
 ·exact zz52
theorem k78:¬k2m .fix:=by
 rintro(h|h)
 ·exact k0R h
 ·exact zz52
def kdt(R:FSt->Prop)(w:World)(o:Nat->Col)(D:PlanD)(F:FTab)(Y:PTab)(S:List Pk)(sv:Value)(gs:Option Nat)(e:Ending)(w':World):Prop:=
 e=.returned (.tuple #[])/\∃o' st' ov',R st'/\PlayAt w' o' D F Y st' S sv gs ov'/\Tr k2m o w o' w'
theorem k8i{Sh:List Pk}(P:Nat->Nat->List Nat)(M:Int)(C:Nat)(H:PlayAt w o D F Y st S sv gs ov)(G:Good D)(W:Ways D P)(K:Holds D P Sh M C st)(hM:M+6<=D.start+30000)(hC:C+6<=9000) :
 Calls Tryz.prog 9 #[.pointer (some ⟨Y.g,0,none⟩)] w (kdt (fun st'=>k8b D st st'/\Holds D P Sh (M+6) (C+6) st') w o D F Y S sv gs):=by
 have hs1:=G.s1;have htk:=K.tk;have ct:=k5F M C H.fab G H.fresh K.fok K.lok H.tab H.o0 zz1 hC (fun v hv=>by have:=htk.1 v hv;omega) (by have:=htk.2;omega);have HA:=Ac (_/\_/\_/\_) (⟨H,G,W,K⟩);have HM:=Ac (M+6<=1000000/\M+6<=D.start+30000) (⟨zz1,hM⟩);have hn6:D.hops.length<=30:=zz17
 obtain⟨n,hn⟩:∃n,n=D.hops.length:=⟨_,rfl⟩;rw[<- hn]at hn6;have HN:=Ab hn;have b0:=fun j=>k00 H.blk j
 clear hn H G W K hs1 htk hM hC;go_enter Tryz.func9,Tryz.ntmps9
 go_wp2_with(go_at_call 24;refine ct.mono ?_;rintro e w1 ⟨o1,s1,rfl,hr,hfa,hok,htr⟩;have K1:=Ac (k8U D st s1/\Holds D P Sh (M+6) (C+6) s1/\PlayAt w1 o1 D F Y s1 S sv gs ov/\Tr k2m o w o1 w1) (⟨hr,HA.1.2.2.2.tick HA.1.2.1 HA.1.2.2.1 HM.1.1 hr,HA.1.1.fabTo htr k0R k0T hfa,htr.mono (fun c h=>.inl h)⟩);clear hr hfa hok htr ct b0)
 go_loopw [2] (fun s2 wr=>∃(i:Nat)(oc:Nat->Col)(s:FSt)(ov':Int),i<=n/\s2=.int .i64 i/\k07 (DelHops D i s1 s/\Holds D P Sh (M+6) (C+6) s/\PlayAt wr oc D F Y s S sv gs ov'/\Tr k2m o w oc wr)) (fun s2 _=>n-ixOf s2)
 case atStart=>exact⟨0,o1,s1,ov,zz1,rfl,⟨rfl,K1.1.2.1,K1.1.2.2.1,K1.1.2.2.2⟩⟩
 case round=>
  obtain⟨i,oc,s,ov',hi,rfl,R⟩:=hrel;have b0:=fun j=>k00 R.1.2.2.1.blk j
  have ch:=k4a R.1.2.2.1.fab HA.1.2.1;by_cases hlt:i<n
  ·have e1:(i:Int)<(n:Int):=by omega
   obtain⟨a,ha⟩:∃a,D.hops[i]? = some a:=⟨_,List.getElem?_eq_getElem zz32⟩;have HH:=Ab ha;clear ha
   go_wp2_with(first
    |(go_at_call 26;refine(k5T (L3.1.2.fab.link a (List.mem_of_getElem? HH.1))).mono ?_;rintro e w4 ⟨A4,k4,rfl,_,hb4⟩;have L4:=Ac (Below wr.heap.size wr w4/\PlayAt w4 oc D F Y s S sv gs ov') (⟨L3.1.1.trans (hb4.mono L3.1.1.size),L3.1.2.blw hb4⟩);clear hb4)
    |(go_at_call 17;refine(k24 L2.1.2.fab HA.1.2.1 i a HH.1).mono ?_;rintro e w3 ⟨rfl,hb3⟩;have L3:=Ac (Below wr.heap.size wr w3/\PlayAt w3 oc D F Y s S sv gs ov') (⟨L2.1.1.trans (hb3.mono L2.1.1.size),L2.1.2.blw hb3⟩);clear hb3)
    |(go_at_call 25;refine ch.mono ?_;rintro e w2 ⟨v2,g2,rfl,hr2,hb2,_⟩;rw[<- HN.1]at hr2;obtain⟨A2,k2,rfl,_⟩:=hr2.size;have L2:=Ac (Below wr.heap.size wr w2/\PlayAt w2 oc D F Y s S sv gs ov') (⟨hb2,R.1.2.2.1.blw hb2⟩);have b2:=fun j=>k00 L2.1.2.blk j;clear hr2 hb2 ch b0))
   obtain⟨m,hm⟩:∃m,m=(s.link a).length:=⟨_,rfl⟩;have hm64:m<=64:=by
    obtain⟨_,_,_,es,_,_,_,h1,_,_,h2,_⟩:=R.1.2.2.1.fab.link a (List.mem_of_getElem? HH.1);have hb:=HA.1.2.1.b0;rw[hm,h1,List.length_map];exact zz1
   have HMM:=Ab hm;rw[<- hm];clear hm
   go_loopw [4] (fun s4 wr=>∃(j:Nat)(oq:Nat->Col)(s2:FSt)(ov2:Int),j<=m/\s4=.int .i64 j/\k07 (DelN D a j s s2/\Holds D P Sh (M+6) (C+6) s2/\PlayAt wr oq D F Y s2 S sv gs ov2/\Tr k2m o w oq wr)) (fun s4 _=>m-ixOf s4)
   case atStart=>exact⟨0,oc,s,ov',zz1,rfl,⟨rfl,R.1.2.1,L4.1.2,R.1.2.2.2.trans (Tr.below R.1.2.2.1.fresh L4.1.1)⟩⟩
   case round=>
    try clear b2
    obtain⟨j,oq,s2,ov2,hj,rfl,Q⟩:=hrel;have b3:=fun j=>k00 Q.1.2.2.1.blk j
    by_cases hlj:j<m
    ·have e2:(j:Int)<(m:Int):=by omega
     have hln:=Q.1.1.len;have cd:=k30 i 0 a (M+6) (C+6) Q.1.2.2.1.fab HA.1.2.1 Q.1.2.2.1.fresh Q.1.2.1.fok Q.1.2.1.lok HH.1 (by have:=HMM.1;omega);clear hln
     go_wp2_with(go_at_call 27;refine cd.mono ?_;rintro e w5 ⟨c5,o5,s5,rfl,hr5,hf5,ht5⟩;have K5:=Ac (k1I D a 0 s2 s5/\PlayAt w5 o5 D F Y s5 S sv gs ov2/\Tr k2m oq _ o5 w5) (⟨hr5,Q.1.2.2.1.fabTo ht5 (fun h=>k0R (k1e h)) (fun h=>k0T (k1e h)) hf5,ht5.mono (fun c h=>.inl (k1e h))⟩);have b5:=fun j=>k00 K5.1.2.1.blk j;have f5:=fun j=>k02 K5.1.2.1.blk j;clear hr5 hf5 ht5 cd b3;(by_cases hc5:c5=61))
     all_goals first
      |(refine⟨⟨j+1,o5,s5,_,zz1,rfl,⟨⟨s2,Q.1.1,K5.1.1⟩,Q.1.2.1.del HA.1.2.1 HA.1.2.2.1 HM.1.2 (List.mem_of_getElem? HH.1) K5.1.1,K5.1.2.1.overTo _,Q.1.2.2.2.trans (K5.1.2.2.trans ((K5.1.2.1.overTr _).mono (fun c h=>.inr h)))⟩⟩,?_⟩
        show m-ixOf (.int .i64 ((j:Int)+1))<m-ixOf (.int .i64 (j:Int));simp only[ixOf];omega)
      |(refine⟨⟨j+1,o5,s5,_,zz1,rfl,⟨⟨s2,Q.1.1,K5.1.1⟩,Q.1.2.1.del HA.1.2.1 HA.1.2.2.1 HM.1.2 (List.mem_of_getElem? HH.1) K5.1.1,K5.1.2.1,Q.1.2.2.2.trans K5.1.2.2⟩⟩,?_⟩
        show m-ixOf (.int .i64 ((j:Int)+1))<m-ixOf (.int .i64 (j:Int));simp only[ixOf];omega)
    ·have e2:¬(j:Int)<(m:Int):=by omega
     obtain rfl:m=j:=by omega
     go_wp2;refine⟨⟨i+1,oq,s2,ov2,zz1,rfl,⟨⟨s,a,R.1.1,HH.1,by rw[<- HMM.1];exact Q.1.1⟩,Q.1.2⟩⟩,?_⟩;exact zz23
  ·have e1:¬(i:Int)<(n:Int):=by omega
   obtain rfl:n=i:=by omega
   go_wp2_with(go_at_call 25;refine ch.mono ?_;rintro e w2 ⟨v2,g2,rfl,hr2,hb2,_⟩;rw[<- HN.1]at hr2;obtain⟨A2,k2,rfl,_⟩:=hr2.size;have L2:=Ac (Below wr.heap.size wr w2/\PlayAt w2 oc D F Y s S sv gs ov') (⟨hb2,R.1.2.2.1.blw hb2⟩);clear hr2 hb2 ch b0)
   go_end0;exact⟨rfl,oc,s,ov',⟨⟨s1,K1.1.1,by rw[<- HN.1];exact R.1.1⟩,R.1.2.1⟩,L2.1.2,R.1.2.2.2.trans (Tr.below R.1.2.2.1.fresh L2.1.1)⟩
end
end Go.Proofs.YtdopmlopafgonaaGreatDoor.Own
