/- TopOrder: of each flow what came is some of what was injected, in its order (a part of the walks and of the plain laws). -/
import Derived.Test.YtdopmlopafgonaaGreatDoorD0
import Derived.Test.YtdopmlopafgonaaGreatDoorD9
import Derived.Test.YtdopmlopafgonaaGreatDoorD10
set_option linter.unusedVariables false
set_option linter.unusedSimpArgs false
set_option maxHeartbeats 4000000
set_option maxRecDepth 100000
namespace Go.Proofs.YtdopmlopafgonaaGreatDoor.Own
open Go.RowKit Go.Proofs.YtdopmlopafgonaaGreatDoorW.PrintWords Go.Proofs.YtdopmlopafgonaaGreatDoorW.PrintLast Go.Proofs.YtdopmlopafgonaaGreatDoorW.PrintMore
theorem k7K:(Tryz.prog.info? 40).map (fun i=>(i.zero,i.size,i.bytes))=some (some (.agg #[.int .i64 0,.int .i64 0,.int .i64 0,.int .u32 0]),4,32):=by kernel_rfl
structure Pk where
 src:Int
 dst:Int
 lane:Int
 body:Int
def Pk.enc(x:Pk):List Value:=[.int .i64 x.src,.int .i64 x.dst,.int .i64 x.lane,.int .u32 x.body]
abbrev Pk.agg(x:Pk):Value:=.agg #[.int .i64 x.src,.int .i64 x.dst,.int .i64 x.lane,.int .u32 x.body]
def upd{α : Type}(r:Nat -> α)(i:Nat)(x : α):Nat -> α:=fun j=>if j=i then x else r j
theorem k04{α : Type}(r:Nat -> α)(i:Nat)(x : α):upd r i x i=x:=by simp[upd]
theorem k06{α : Type}(r:Nat -> α){i j:Nat}(x : α)(h:j≠i):upd r i x j=r j:=by simp[upd,h]
def k0J(l:List Pk):List Value:=l.flatMap Pk.enc
theorem k1x(l:List Pk):(k0J l).length=l.length*4:=by
 induction l with
 |nil=>rfl
 |cons x l ih=>show(x.enc++k0J l).length=_;rw[List.length_append,ih,List.length_cons,Nat.succ_mul];simp[Pk.enc];omega
theorem k37(l:List Pk)(x:Pk):k0J (l++[x])=k0J l++x.enc:=by simp[k0J]
theorem k3x(l:List Pk)(i j:Nat)(hi:i<l.length)(hj:j<4):(k0J l)[i*4+j]? = (l[i]).enc[j]?:=by
 induction l generalizing i with
 |nil=>simp at hi
 |cons x l ih=>
  show(x.enc++k0J l)[i*4+j]? = _
  match i with
  |0=>rw[List.getElem?_append_left (by simp[Pk.enc];omega),Nat.zero_mul,Nat.zero_add];rfl
  |i+1=>
   rw[List.getElem?_append_right (by simp[Pk.enc];omega),List.getElem_cons_succ,<- ih i (by simpa using hi)];congr 1;simp[Pk.enc];exact zz1
theorem k7u(x:Pk):∀u∈x.enc,u.oneCell'=true:=by
 intro u hu;simp[Pk.enc]at hu;rcases hu with rfl|rfl|rfl|rfl<;>rfl
def HostAt(w:World)(o:Nat->Col)(c:Col)(g:Nat)(lanes queue:Int)(r:Nat->List Pk):Prop:=
 o g=c/\∃(vs:Nat->Value)(gs:Nat->Option Nat),w.heap[g]? = some (.cells #[vs 0,vs 1,vs 2,vs 3,.int .i64 lanes,.int .i64 queue] 110 (0,0)) /\
  (∀i,i<4->Row w (vs i) 40 4 (r i).length (k0J (r i)) (gs i))/\(∀i b,i<4->gs i=some b->o b=c)/\(∀i j b,i<4->j<4->gs i=some b->gs j=some b->i=j)/\1<=lanes/\lanes<=3/\1<=queue/\queue<=8
theorem HostAt.tr{S:Col->Prop}{w w':World}{o o':Nat->Col}{c:Col}{g:Nat}{lanes queue:Int}{r:Nat->List Pk}(h:HostAt w o c g lanes queue r)(t:Tr S o w o' w')(hc:¬S c):HostAt w' o' c g lanes queue r:=by
 obtain⟨hg,vs,gs,hh,hr,hgs,hne,hn⟩:=h;exact⟨(t.own _ (k03 hh)).trans hg,vs,gs,t.blk hh (by rw[hg];exact hc),fun i hi=>(hr i hi).only t.only (fun b e=>by rw[hgs i b hi e];exact hc),fun i b hi e=>(t.own _ ((hr i hi).lt e)).trans (hgs i b hi e),hne,hn⟩
theorem kb3(vs:Nat->Value)(i:Nat)(hi:i<4)(x a b:Value):(#[vs 0,vs 1,vs 2,vs 3,a,b]:Array Value).setIfInBounds i x=#[upd vs i x 0,upd vs i x 1,upd vs i x 2,upd vs i x 3,a,b]:=by
 match i,hi with
 |0,_=>rfl
 |1,_=>rfl
 |2,_=>rfl
 |3,_=>rfl
theorem k3l(vs:Nat->Value)(i:Nat)(hi:i<4)(a b:Value):(#[vs 0,vs 1,vs 2,vs 3,a,b]:Array Value)[i]? = some (vs i):=by
 match i,hi with
 |0,_=>rfl
 |1,_=>rfl
 |2,_=>rfl
 |3,_=>rfl
section
variable{w:World}{o:Nat->Col}{c:Col}{g:Nat}{lanes queue:Int}{r:Nat->List Pk}
theorem k5E{w2:World}{vs:Nat->Value}{gs:Nat->Option Nat}{i:Nat}(hi:i<4)(hglt:g<w.heap.size)(hg:o g=c)(hr:∀i,i<4->Row w (vs i) 40 4 (r i).length (k0J (r i)) (gs i))(hgs:∀i b,i<4->gs i=some b->o b=c)(hne:∀i j b,i<4->j<4->gs i=some b->gs j=some b->i=j)(hn:1<=lanes/\lanes<=3/\1<=queue/\queue<=8)
 {l2:List Pk} {v2:Value} {g2:Option Nat} (HH:w2.heap[g]? = some (.cells #[vs 0,vs 1,vs 2,vs 3,.int .i64 lanes,.int .i64 queue] 110 (0,0))) (R2:Row w2 v2 40 4 l2.length (k0J l2) g2) (O2:Only (fun b=>gs i=some b) w w2) (G2:g2=gs i\/∃b,g2=some b/\w.heap.size<=b) :
 Tr (fun y=>y=c) o w (paint o w.heap.size w2.heap.size c) (w2.setCell ⟨g,i,none⟩ v2)/\HostAt (w2.setCell ⟨g,i,none⟩ v2) (paint o w.heap.size w2.heap.size c) c g lanes queue (upd r i l2):=by
 have hsz:(w2.setCell ⟨g,i,none⟩ v2).heap.size=w2.heap.size:=zz108
 have O3:Only (fun b=>o b=c) w (w2.setCell ⟨g,i,none⟩ v2):=(O2.mono (fun b _ e=>hgs i b hi e)).set (fun _=>hg) _;have T:=Tr.paint (S:=fun y=>y=c) (o:=o) c O3;rw[hsz]at T;have rset:∀{v:Value}{l:List Pk}{q:Option Nat},Row w2 v 40 4 l.length (k0J l) q->Row (w2.setCell ⟨g,i,none⟩ v2) v 40 4 l.length (k0J l) q:=fun h=>
  h.of_blk fun b e=>by
   subst e;exact Below.heap_setCell _ _ _ _ (fun e'=>h.ne HH zz7 (by rw[e']))
 have gnew:∀j b,j<4->j≠i->gs j=some b->g2≠some b:=fun j b hj hji e e2=>by
  rcases G2 with h|⟨b',h,hb'⟩
  ·rw[h]at e2;exact hji (hne j i b hj hi e e2)
  ·rw[h]at e2;cases e2
   have:=(hr j hj).lt e;exact zz1
 refine⟨T,(k0v _ _ hglt).trans hg,upd vs i v2,upd gs i g2,?_,fun j hj=>?_,fun j b hj e=>?_,fun j k b hj hk e e2=>?_,hn⟩
 ·rw[<- kb3 vs i hi];exact k05 HH i v2
 ·by_cases h:j=i
  ·subst h;rw[k04,k04,k04];exact rset R2
  ·rw[k06 _ _ h,k06 _ _ h,k06 _ _ h]
   exact rset ((hr j hj).only O2 (fun b e e'=>h (hne j i b hj hi e e')))
 ·by_cases h:j=i
  ·subst h;rw[k04]at e
   rcases G2 with h'|⟨b',h',hb'⟩
   ·rw[h']at e;rw[k0v _ _ ((hr j hj).lt e)];exact hgs j b hj e
   ·rw[h']at e;cases e;exact k0C _ _ hb' (R2.lt h')
  ·rw[k06 _ _ h]at e;rw[k0v _ _ ((hr j hj).lt e)];exact hgs j b hj e
 ·by_cases h:j=i
  ·by_cases h':k=i
   ·rw[h,h']
   ·subst h;rw[k04]at e;rw[k06 _ _ h']at e2
    exact absurd e (gnew k b hk h' e2)
  ·by_cases h':k=i
   ·subst h';rw[k04]at e2;rw[k06 _ _ h]at e
    exact absurd e2 (gnew j b hj h e)
   ·rw[k06 _ _ h]at e;rw[k06 _ _ h']at e2
    exact hne j k b hj hk e e2
theorem box4{w W:World}{a b c d:Value}{T:TypeId}{k:Nat}(h:W.heap[k]? = some (.cells #[a,b,c,d] T (0,0))):W.cell? ⟨k,0,none⟩=some a/\W.cell? ⟨k,1,none⟩=some b/\W.cell? ⟨k,2,none⟩=some c/\W.cell? ⟨k,3,none⟩=some d:=⟨k00 h 0,k00 h 1,k00 h 2,k00 h 3⟩
theorem kaH(s d y:Int)(i:Nat)(hf:Fresh o w)(H:HostAt w o c g lanes queue r)(hi:(i:Int)<lanes)(hq:((r i).length:Int)<queue) :
 Calls Tryz.prog 47 #[.pointer (some ⟨g,0,none⟩),.agg #[.int .i64 s,.int .i64 d,.int .i64 i,.int .u32 y]] w fun e w'=>e=.returned (.int .u16 0)/\∃o',Tr (fun x=>x=c) o w o' w'/\HostAt w' o' c g lanes queue (upd r i (r i++[⟨s,d,i,y⟩])):=by
 obtain⟨hg,vs,gs,hh,hr,hgs,hne,hn⟩:=H;have hi3:i<3:=by omega
 have hi4:i<4:=zz1
 have hi3i:(i:Int)<3:=zz1
 obtain⟨A,cap,hv,hcap⟩:=(hr i hi4).size;have hh':=(Below.heap_alloc w (.cells #[.int .i64 s,.int .i64 d,.int .i64 i,.int .u32 y] 40) g (k03 hh)).trans hh;have ci:(w.alloc (.cells #[.int .i64 s,.int .i64 d,.int .i64 i,.int .u32 y] 40)).cell? ⟨g,i,none⟩=some (.slice A (r i).length cap):=by rw[k00 hh',k3l vs i hi4,hv]
 have c4:(w.alloc (.cells #[.int .i64 s,.int .i64 d,.int .i64 i,.int .u32 y] 40)).cell? ⟨g,4,none⟩=some (.int .i64 lanes):=k00 hh' 4;have c5:(w.alloc (.cells #[.int .i64 s,.int .i64 d,.int .i64 i,.int .u32 y] 40)).cell? ⟨g,5,none⟩=some (.int .i64 queue):=k00 hh' 5;have e1:(((r i).length:Int) == queue)=false:=beq_eq_false_iff_ne.mpr zz1;have hk:(r i).length<=8:=zz1
 obtain⟨b0,b1,b2,b3⟩:=box4 (w:=w) (heap_alloc_new w (.cells #[.int .i64 s,.int .i64 d,.int .i64 i,.int .u32 y] 40));have HS:=Ac ((fun W=>W.cell? ⟨w.heap.size,0,none⟩=some (.int .i64 s)/\W.cell? ⟨w.heap.size,1,none⟩=some (.int .i64 d)/\W.cell? ⟨w.heap.size,2,none⟩=some (.int .i64 i)/\W.cell? ⟨w.heap.size,3,none⟩=some (.int .u32 y)/\W.cell? ⟨g,i,none⟩=some (.slice A (r i).length cap)) (w.alloc (.cells #[.int .i64 s,.int .i64 d,.int .i64 i,.int .u32 y] 40))) (⟨b0,b1,b2,b3,ci⟩);have HR:=Ab ((hr i hi4).alloc (.cells #[.int .i64 s,.int .i64 d,.int .i64 i,.int .u32 y] 40));have HH:=Ab hh';have HB:=Ab (heap_alloc_new w (.cells #[.int .i64 s,.int .i64 d,.int .i64 i,.int .u32 y] 40));have HO:=Ab (k7u ⟨s,d,i,y⟩);rw[hv]at HR;have FIN:=Ab (fun(w2:World) (l2:List Pk) (v2:Value) (g2:Option Nat)=>k5E (w2:=w2) (l2:=l2) (v2:=v2) (g2:=g2) hi4 (k03 hh) hg hr hgs hne hn);have HG:=Ab (hgs i);have HNE:=Ab ((hr i hi4).ne hh zz7);have HNB:=Ac (gs i≠some w.heap.size) (fun e=>by have:=(hr i hi4).lt e;omega);clear b0 b1 b2 b3 hh' hr hgs hne;go_enter Tryz.func47,Tryz.ntmps47;go_wp2
 go_quiet (fail)
 go_wp2;refine WpL.region (fun W=>W.cell? ⟨w.heap.size,0,none⟩=some (.int .i64 s)/\W.cell? ⟨w.heap.size,1,none⟩=some (.int .i64 d)/\W.cell? ⟨w.heap.size,2,none⟩=some (.int .i64 i)/\W.cell? ⟨w.heap.size,3,none⟩=some (.int .u32 y)/\W.cell? ⟨g,i,none⟩=some (.slice A (r i).length cap)) 16 zz2 ?_;refine WpL.T 0 [] HS.1 ?_;refine WpL.T 1 [] HS.1 ?_;refine WpL.T 2 [] HS.1 ?_;refine WpL.T 3 [] HS.1 ?_;refine WpL.T 4 [] HS.1 ?_;refine WpL.T 5 [] HS.1 ?_;refine WpL.T 6 [] HS.1 ?_;refine WpL.T 7 [] HS.1 ?_;refine WpL.T 8 [] HS.1 ?_;refine WpL.T 9 [] HS.1 ?_;refine WpL.T 10 [] HS.1 ?_;refine WpL.T 13 [15,14] HS.1 ?_;refine WpL.T 14 [15] HS.1 ?_;refine WpL.one (i:=11) zz2 rfl (fun K hK=>?_);go_simp;refine hK.out _ _ (fun _=>by obtain⟨k0,k1,k2,k3,k4⟩:=HS.1;exact⟨k01 ((Below.refl _ _).alloc (Nat.le_refl _) _) k0,k01 ((Below.refl _ _).alloc (Nat.le_refl _) _) k1,k01 ((Below.refl _ _).alloc (Nat.le_refl _) _) k2,k01 ((Below.refl _ _).alloc (Nat.le_refl _) _) k3,k01 ((Below.refl _ _).alloc (Nat.le_refl _) _) k4⟩) ?_;clear hK K
 try refine Sm ?_
 refine WpL.one (i:=12) zz2 rfl (fun K hK=>?_);refine k0w rfl _ _ 34 40 (.agg #[.int .i64 0,.int .i64 0,.int .i64 0,.int .u32 0]) 4 32 rfl Tryz.underlying34 k7K rfl zz7 zz7 (.slice A (r i).length cap) (r i).length (k0J (r i)) (Pk.enc ⟨s,d,i,y⟩) (gs i) (HR.1.drewN _) rfl rfl (World.size_alloc _ _).symm rfl HO.1 zz1 ?_;intro v2 w2 g2 R2 O2' G2;obtain⟨A2,k2,rfl,hk2⟩:=R2.size;have O2:=Only.undrewN O2';have hs2:(fun W=>W.cell? ⟨w.heap.size,0,none⟩=some (.int .i64 s)/\W.cell? ⟨w.heap.size,1,none⟩=some (.int .i64 d)/\W.cell? ⟨w.heap.size,2,none⟩=some (.int .i64 i)/\W.cell? ⟨w.heap.size,3,none⟩=some (.int .u32 y)/\W.cell? ⟨g,i,none⟩=some (.slice A (r i).length cap)) w2:=by obtain⟨k0,k1,k2,k3,k4⟩:=HS.1;exact⟨O2.cell k0 HNB.1,O2.cell k1 HNB.1,O2.cell k2 HNB.1,O2.cell k3 HNB.1,O2.cell k4 HNE.1⟩
 have HS2:=Ab hs2;have hh2:=O2.blk HH.1 HNE.1;have f2:=k02 hh2 i;have c2:=hs2.2.2.2.2;have HH2:=Ab hh2;have HR2:=Ab R2;have HO2:=Ab (((Only.refl _ w).alloc _).trans O2);have HG2:=Ab G2;clear hh2 hs2 R2 O2 O2' G2;refine hK.out _ _ (fun _=>HS2.1) ?_;clear hK K
 try refine Sm ?_
 refine WpL.T 15 [] HS2.1 ?_;refine WpL.one (i:=16) zz2 rfl (fun K hK=>?_);go_simp;refine hK.out _ _ (fun h=>absurd rfl h) ?_;clear hK K
 try refine Sm ?_
 refine WpL.done zz2 ?_ _;clear f2 c2;go_wp2;go_ret;obtain⟨k1,k2⟩:=FIN.1 w2 (r i++[⟨s,d,i,y⟩]) (.slice A2 ((r i).length+1) k2) g2 HH2.1 (by rw[k37,List.length_append];exact HR2.1) HO2.1 (by rcases HG2.1 with h|⟨b,h,hb⟩;exact .inl h;exact .inr ⟨b,h,by simp at hb;omega⟩);exact⟨rfl,_,k1,k2⟩
end
section
variable{w:World}
theorem k6S(a b c y:Int)(w:World) :
 Calls Tryz.prog 33 #[.agg #[.int .i64 a,.int .i64 b,.int .i64 c,.int .u32 y]] w fun e w'=>e=.returned (.agg #[.int .i64 a,.int .i64 b,.int .i64 c])/\Below w.heap.size w w':=by
 go_enter Tryz.func33,Tryz.ntmps33;go_wp2;obtain⟨w2,hw2⟩:∃w2,w2=w.alloc (.cells #[.int .i64 a,.int .i64 b,.int .i64 c,.int .u32 y] 40):=⟨_,rfl⟩;have hs2:w2.heap.size=w.heap.size+1:=by rw[hw2];simp
 have hB:Below w.heap.size w w2:=by rw[hw2];exact(Below.refl _ w).alloc (Nat.le_refl _) _
 rw[<- hw2,<- hs2];refine bodyPost_ret (results_cell_row rfl _ _ w2.heap.size 53 _ (0,0) _ rfl (heap_alloc_new w2 _) Tryz.underlying53 rfl zz2) rfl ⟨rfl,hB.alloc zz1 _⟩
theorem k7l(a b c a' b' c':Int)(w:World) :
 Calls Tryz.prog 34 #[.agg #[.int .i64 a,.int .i64 b,.int .i64 c],.agg #[.int .i64 a',.int .i64 b',.int .i64 c']] w fun e w'=>(∃t,e=.returned (.bool t))/\Below w.heap.size w w':=by
 have hB:Below w.heap.size w ((w.alloc (.cells #[.int .i64 a,.int .i64 b,.int .i64 c] 53)).alloc (.cells #[.int .i64 a',.int .i64 b',.int .i64 c'] 53)):=((Below.refl _ w).alloc (Nat.le_refl _) _).alloc zz6 _;have HB:=Ab hB;clear hB;by_cases e1:a=a'
 ·by_cases e2:b=b'
  ·subst e1 e2
   go_enter Tryz.func34,Tryz.ntmps34;go_wp2;go_ret;exact⟨⟨_,rfl⟩,HB.1⟩
  ·subst e1
   go_enter Tryz.func34,Tryz.ntmps34;go_wp2;go_ret;exact⟨⟨_,rfl⟩,HB.1⟩
 ·go_enter Tryz.func34,Tryz.ntmps34
  go_wp2;go_ret;exact⟨⟨_,rfl⟩,HB.1⟩
end
end Go.Proofs.YtdopmlopafgonaaGreatDoor.Own
