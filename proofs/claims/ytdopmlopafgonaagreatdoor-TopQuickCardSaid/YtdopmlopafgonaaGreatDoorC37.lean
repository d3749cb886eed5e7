/- TopQuick: one packet alone is brought from host to host (a part of the walks and of the plain laws). -/
import Derived.Test.YtdopmlopafgonaaGreatDoorC0
import Derived.Test.YtdopmlopafgonaaGreatDoorC36
set_option linter.unusedVariables false
set_option linter.unusedSimpArgs false
set_option maxHeartbeats 4000000
set_option maxRecDepth 100000
namespace Go.Proofs.YtdopmlopafgonaaGreatDoor.Own
open Go.RowKit Go.Proofs.YtdopmlopafgonaaGreatDoorW.PrintWords Go.Proofs.YtdopmlopafgonaaGreatDoorW.PrintLast Go.Proofs.YtdopmlopafgonaaGreatDoorW.PrintMore
def nst0 (D:PlanD):NSt:=⟨fun _=>[],fun _=>[],fun _ _=>((D.start:Int),(D.start:Int)+D.room),fun _ _=>((D.start:Int),0),0⟩
structure Half (W:World) (o:Nat->Col) (v:Nat) (D:PlanD) (T:NTab) (nw n m:Nat):Prop where
 host:HostAt W o (.host v) T.host D.lanes D.queue (fun _=>[])
 whl:∀ i,i<nw->WheelAt W o (.whl v i) (T.whl i) D.lanes
 snd:∀ i k,1<=i->k<D.lanes->(i<n\/(i=n/\k<m))->o (T.snd i k) = .snd v i k/\W.heap[T.snd i k]? = some (.cells #[.int .u64 D.start,.int .u64 ((D.start:Int)+D.room)] 191 (0,0))
 rcv:∀ i k,1<=i->k<D.lanes->(i<n\/(i=n/\k<m))->o (T.rcv i k) = .rcv v i k/\W.heap[T.rcv i k]? = some (.cells #[.int .u64 D.start,.int .i64 0,.int .i64 D.room] 193 (0,0))
def kcB (c:Col):Prop:=c.nodeOf=none\/∃ v,c = .node v
theorem Half.tr {S:Col->Prop} {W W':World} {o o':Nat->Col} {v:Nat} {D:PlanD} {T:NTab} {nw n m:Nat} (h:Half W o v D T nw n m) (t:Tr S o W o' W') (hS:∀ c,S c->kcB c):Half W' o' v D T nw n m where
 host:=h.host.tr t (fun h=>by rcases hS _ h with h | ⟨_,h⟩ <;> cases h)
 whl:=fun i hi=>(h.whl i hi).tr t (fun h=>by rcases hS _ h with h | ⟨_,h⟩ <;> cases h)
 snd:=fun i k a b c=>by
  obtain ⟨x,y⟩:=h.snd i k a b c;exact ⟨(t.own _ (k03 y)).trans x,t.blk y (by rw [x];intro h;rcases hS _ h with h | ⟨_,h⟩ <;> cases h)⟩
 rcv:=fun i k a b c=>by
  obtain ⟨x,y⟩:=h.rcv i k a b c;exact ⟨(t.own _ (k03 y)).trans x,t.blk y (by rw [x];intro h;rcases hS _ h with h | ⟨_,h⟩ <;> cases h)⟩
structure NewB (lo:Nat) (o:Nat->Col) (w:World) (o':Nat->Col) (w':World):Prop where
 below:Below lo w w'
 own:∀ b,b<lo->o' b=o b
 fresh:Fresh o' w'
theorem NewB.blw {lo:Nat} {o o':Nat->Col} {w W W':World} (h:NewB lo o w o' W) (b:Below W.heap.size W W') (hl:lo<=W.heap.size):NewB lo o w o' W':=⟨h.below.trans (b.mono hl),h.own,h.fresh.blw b⟩
theorem NewB.paint {lo:Nat} {o o':Nat->Col} {w W W':World} (h:NewB lo o w o' W) (b:Below W.heap.size W W') (hl:lo<=W.heap.size) (c:Col):NewB lo o w (paint o' W.heap.size W'.heap.size c) W':=
 ⟨h.below.trans (b.mono hl),fun b hb=>(k0w _ _ (Nat.lt_of_lt_of_le hb hl)).trans (h.own b hb),fun b hb=>by have:=b;have hs:=‹Below W.heap.size W W'›.size;simp [Own.paint,Nat.not_lt.2 (Nat.le_trans hs hb),Nat.not_lt.2 hb]⟩
theorem NewB.blw' {lo:Nat} {o o':Nat->Col} {w W:World} (h:NewB lo o w o' W) (p:Addr) (u:Value) (hl:lo<=p.block):NewB lo o w o' (W.setCell p u):=⟨h.below.setCell hl _,h.own,fun b hb=>h.fresh b (by simpa [World.setCell] using hb)⟩
abbrev k86 (D:PlanD) (A1:Option Addr) (c1:Nat) (A2:Option Addr) (c2:Nat) (A3:Option Addr) (c3:Nat) (v:Nat) (a:Option Addr) (ports:Value) (gh:Nat) (r:Option Addr):Obj:=.cells #[.pointer a,.int .i64 D.nodes,.slice A1 D.edges.length c1,.int .i64 D.lanes,.int .i64 D.room,.int .i64 D.queue,.int .i64 D.rounds,.int .i64 D.every,.int .i64 D.bag,.slice A2 D.weights.length c2,.int .u16 D.start,.slice A3 D.next.length c3,.int .i64 v,ports,.pointer (some ⟨gh,0,none⟩),.pointer r,.int .i64 0] 100 (0,0)
theorem WheelAt.made {w w':World} {o:Nat->Col} {c:Col} {n:Nat} {ws:List Nat} {e:Ending} (h:k5Y n ws w e w') (hn:0<n) (hw:∀ x∈ws,1<=x/\x<=5):∃ gw,e = .returned (.pointer (some ⟨gw,0,none⟩))/\Below w.heap.size w w'/\WheelAt w' (paint o w.heap.size w'.heap.size c) c gw n:=by
 obtain ⟨gw,va,vb,ga,gb,rfl,hb,h1,h2,r1,r2,hne,h3,h4⟩:=h;exact ⟨gw,rfl,hb,k0A _ _ h1 (k03 h2),va,vb,ga,gb,ws,ws,0,h2,r1,r2,hne,k0A _ _ h3 (r1.lt rfl),k0A _ _ h4 (r2.lt rfl),hn,hw,fun x hx=>(hw x hx).2⟩
def k1Y (D:PlanD) (T:NTab) (v n:Nat):List Value:=(List.range n).flatMap (k6t D T v)
structure Made (w:World) (o:Nat->Col) (D:PlanD) (A1:Option Addr) (c1:Nat) (A2:Option Addr) (c2:Nat) (A3:Option Addr) (c3:Nat) (v:Nat) (W:World) (oc:Nat->Col) (T:NTab) (n:Nat):Prop where
 new:NewB w.heap.size o w oc W
 half:Half W oc v D T n n 0
 og:oc T.g = .node v
 node:W.heap[T.g]? = some (k86 D A1 c1 A2 c2 A3 c3 v none (.slice (some ⟨T.pb,T.po,none⟩) n T.pc) T.host none)
 ports:Row W (.slice (some ⟨T.pb,T.po,none⟩) n T.pc) 141 3 n (k1Y D T v n) (some T.pb)
 op:oc T.pb = .fix
 opn:w.heap.size<=T.pb
 lanes:∀ i,1<=i->i<n->Row W (.slice (some ⟨T.lb i,T.lo i,none⟩) D.lanes (T.lc i)) 148 2 D.lanes (k1m D T i) (some (T.lb i))/\oc (T.lb i) = .fix
 box:W.heap[w.heap.size]? = some (pbox D A1 c1 A2 c2 A3 c3)
 gn:w.heap.size<T.g
theorem Made.blw {w W W':World} {o oc:Nat->Col} {D:PlanD} {A1 c1 A2 c2 A3 c3 v} {T:NTab} {n:Nat} (h:Made w o D A1 c1 A2 c2 A3 c3 v W oc T n) (b:Below W.heap.size W W'):Made w o D A1 c1 A2 c2 A3 c3 v W' oc T n:=
 ⟨h.new.blw b h.new.below.size,h.half.tr (Tr.below (S:=fun _=>False) h.new.fresh b) (fun _ x=>x.elim),h.og,(b.block _ (k03 h.node)).trans h.node,h.ports.below b,h.op,h.opn,fun i h1 h2=>⟨(h.lanes i h1 h2).1.below b,(h.lanes i h1 h2).2⟩,(b.block _ (k03 h.box)).trans h.box,h.gn⟩
structure LaneB (w11:World) (o11:Nat->Col) (D:PlanD) (v i xb x gw:Nat) (W:World) (oc:Nat->Col) (sf rf:Nat->Nat) (A:Option Addr) (c:Nat) (gl:Option Nat) (k:Nat):Prop where
 only:Only (fun b=>xb<=b) w11 W
 own:∀ b,b<w11.heap.size->oc b=o11 b
 fresh:Fresh oc W
 xbox:W.heap[xb]? = some (.cells #[.int .i64 x,.slice A k c,.pointer (some ⟨gw,0,none⟩)] 141 (0,0))
 row:Row W (.slice A k c) 148 2 k ((List.range k).flatMap fun j=>[Value.pointer (some ⟨sf j,0,none⟩),Value.pointer (some ⟨rf j,0,none⟩)]) gl
 gl:∀ b,gl=some b->xb<b/\oc b = .fix
 snd:∀ j,j<k->xb<sf j/\oc (sf j) = .snd v i j/\W.heap[sf j]? = some (.cells #[.int .u64 D.start,.int .u64 ((D.start:Int)+D.room)] 191 (0,0))
 rcv:∀ j,j<k->xb<rf j/\oc (rf j) = .rcv v i j/\W.heap[rf j]? = some (.cells #[.int .u64 D.start,.int .i64 0,.int .i64 D.room] 193 (0,0))
theorem k1T {α : Type} (f:Nat->List α) (n:Nat):(List.range (n+1)).flatMap f=(List.range n).flatMap f++f n:=by rw [List.range_succ,List.flatMap_append];simp
theorem k1P {α : Type} (f g:Nat->List α):∀ n,(∀ i,i<n->f i=g i)->(List.range n).flatMap f=(List.range n).flatMap g
 | 0,_=>rfl
 | n+1,h=>by rw [k1T,k1T,k1P f g n (fun i hi=>h i zz1),h n zz1]
theorem LaneB.next {w11 W wa wb wd:World} {o11 oc:Nat->Col} {D:PlanD} {v i xb x gw:Nat} {sf rf:Nat->Nat} {A Ad:Option Addr} {c cd:Nat} {gl gd:Option Nat} {k:Nat} (Q:LaneB w11 o11 D v i xb x gw W oc sf rf A c gl k) (h11:w11.heap.size=xb+1)
 (La:Below W.heap.size W wa) (Za:wa.heap[W.heap.size]? = some (.cells #[.int .u64 D.start,.int .u64 ((D.start:Int)+D.room)] 191 (0,0))) (sa:wa.heap.size=W.heap.size+1) (Lb:Below wa.heap.size wa wb) (Zb:wb.heap[wa.heap.size]? = some (.cells #[.int .u64 D.start,.int .i64 0,.int .i64 D.room] 193 (0,0))) (sb:wb.heap.size=wa.heap.size+1)
 (Rd:Row wd (.slice Ad (k+1) cd) 148 2 (k+1) (((List.range k).flatMap fun j=>[Value.pointer (some ⟨sf j,0,none⟩),Value.pointer (some ⟨rf j,0,none⟩)])++[.pointer (some ⟨W.heap.size,0,none⟩),.pointer (some ⟨wa.heap.size,0,none⟩)]) gd) (Od:Only (fun b=>gl=some b) wb wd) (Gd:gd=gl\/∃ b,gd=some b/\wb.heap.size<=b) :
 ∃ oc',LaneB w11 o11 D v i xb x gw (wd.setCell ⟨xb,1,none⟩ (.slice Ad (k+1) cd)) oc' (upd sf k W.heap.size) (upd rf k wa.heap.size) Ad cd gd (k+1):=by
 have hx:=k03 Q.xbox;have hW:=Q.only.size;have sd:=Od.size;have hgl:∀ b,gl=some b->b<W.heap.size/\xb<b:=fun b e=>⟨Q.row.lt e,(Q.gl b e).1⟩
 have hu:∀ j,upd sf k W.heap.size j=if j=k then W.heap.size else sf j:=fun j=>rfl
 refine ⟨fun b=>if b<W.heap.size then oc b else if b=W.heap.size then .snd v i k else if b=wa.heap.size then .rcv v i k else if b<wd.heap.size then .fix else .junk,?_⟩;have keepW:∀ b,b<W.heap.size->gl≠some b->b≠xb->(wd.setCell ⟨xb,1,none⟩ (.slice Ad (k+1) cd)).heap[b]? = W.heap[b]?:=fun b hb h1 h2=>
  (Below.heap_setCell _ _ _ _ h2).trans ((Od.keep b zz1 h1).trans ((Lb.block b zz1).trans (La.block b hb)))
 refine ⟨?_,fun b hb=>?_,fun b hb=>?_,?_,?_,fun b hb=>?_,fun j hj=>?_,fun j hj=>?_⟩
 · refine ((((Q.only.below La).below Lb).then Od (fun b _ h=>by have:=hgl b h;omega))).then (k0k wd xb 1 _) (fun b _ e=>by omega)
 · show (if b<W.heap.size then oc b else _)=_
   rw [if_pos zz1];exact Q.own b hb
 · have hb':wd.heap.size<=b:=by simpa [World.setCell] using hb
   show (if b<W.heap.size then oc b else if b=W.heap.size then _ else if b=wa.heap.size then _ else if b<wd.heap.size then _ else _)=_;rw [if_neg zz1,if_neg zz1,if_neg zz1,if_neg zz1]
 · have h:=(Od.keep xb zz1 (fun h=>by have:=hgl _ h;omega)).trans ((Lb.block xb zz1).trans ((La.block xb hx).trans Q.xbox))
   exact k05 h 1 _
 · have h:=Rd.only (k0k wd xb 1 (.slice Ad (k+1) cd)) (fun b e e2=>by
    rcases Gd with g | ⟨b2,g,hb2⟩
    · have:=hgl b (g ▸ e);omega
    · rw [g] at e;cases e;omega)
   have e:((List.range (k+1)).flatMap fun j=>[Value.pointer (some ⟨upd sf k W.heap.size j,0,none⟩),Value.pointer (some ⟨upd rf k wa.heap.size j,0,none⟩)])=((List.range k).flatMap fun j=>[Value.pointer (some ⟨sf j,0,none⟩),Value.pointer (some ⟨rf j,0,none⟩)])++[.pointer (some ⟨W.heap.size,0,none⟩),.pointer (some ⟨wa.heap.size,0,none⟩)]:=by
    rw [k1T,k1P _ (fun j=>[Value.pointer (some ⟨sf j,0,none⟩),Value.pointer (some ⟨rf j,0,none⟩)]) k (fun j hj=>by rw [k06 _ _ zz1,k06 _ _ zz1]),k04,k04]
   rw [e];exact h
 · rcases Gd with g | ⟨b2,g,hb2⟩
   · have h1:=hgl b (g ▸ hb)
     refine ⟨h1.2,?_⟩;show (if b<W.heap.size then oc b else _)=_;rw [if_pos h1.1];exact (Q.gl b (g ▸ hb)).2
   · rw [g] at hb;cases hb
     have:=Rd.lt g;refine ⟨zz1,?_⟩;show (if b<W.heap.size then oc b else if b=W.heap.size then _ else if b=wa.heap.size then _ else if b<wd.heap.size then _ else _)=_;rw [if_neg zz1,if_neg zz1,if_neg zz1,if_pos this]
 · by_cases e:j=k
   · subst e
     rw [k04];refine ⟨zz1,?_,?_⟩
     · show (if W.heap.size<W.heap.size then _ else if W.heap.size=W.heap.size then _ else _)=_
       rw [if_neg zz1,if_pos rfl]
     · exact (Below.heap_setCell _ _ _ _ (by show W.heap.size≠xb;omega)).trans ((Od.keep _ zz1 (fun h=>by have:=hgl _ h;omega)).trans ((Lb.block _ zz1).trans Za))
   · rw [k06 _ _ e]
     obtain ⟨h1,h2,h3⟩:=Q.snd j zz1;have h4:=k03 h3;refine ⟨h1,?_,(keepW _ h4 (fun h=>by have:=(Q.gl _ h).2;rw [h2] at this;cases this) zz1).trans h3⟩;show (if sf j<W.heap.size then oc (sf j) else _)=_;rw [if_pos h4];exact h2
 · by_cases e:j=k
   · subst e
     rw [k04];refine ⟨zz1,?_,?_⟩
     · show (if wa.heap.size<W.heap.size then _ else if wa.heap.size=W.heap.size then _ else if wa.heap.size=wa.heap.size then _ else _)=_
       rw [if_neg zz1,if_neg zz1,if_pos rfl]
     · exact (Below.heap_setCell _ _ _ _ (by show wa.heap.size≠xb;omega)).trans ((Od.keep _ zz1 (fun h=>by have:=hgl _ h;omega)).trans Zb)
   · rw [k06 _ _ e]
     obtain ⟨h1,h2,h3⟩:=Q.rcv j zz1;have h4:=k03 h3;refine ⟨h1,?_,(keepW _ h4 (fun h=>by have:=(Q.gl _ h).2;rw [h2] at this;cases this) zz1).trans h3⟩;show (if rf j<W.heap.size then oc (rf j) else _)=_;rw [if_pos h4];exact h2
theorem Made.next {w Wr w11 W wd:World} {o oc o11 oc2:Nat->Col} {D:PlanD} {A1 c1 A2 c2 A3 c3 v} {T:NTab} {n:Nat} {xb x gw:Nat} {sf rf:Nat->Nat} {A:Option Addr} {c:Nat} {gl:Option Nat} {pb po pc:Nat}
 (G:Good D) (M:Made w o D A1 c1 A2 c2 A3 c3 v Wr oc T n) (hn:1<=n) (hx:k0E D v n=x) (N11:NewB w.heap.size o w o11 w11) (T11:Tr (fun _=>False) oc Wr o11 w11) (W11:WheelAt w11 o11 (.whl v n) gw D.lanes) (h11:w11.heap.size=xb+1) (hxw:Wr.heap.size<=xb) (hjx:o11 xb = .junk)
 (Q:LaneB w11 o11 D v n xb x gw W oc2 sf rf A c gl D.lanes)
 (Rd:Row wd (.slice (some ⟨pb,po,none⟩) (n+1) pc) 141 3 (n+1) (k1Y D T v n++[.int .i64 x,.slice A D.lanes c,.pointer (some ⟨gw,0,none⟩)]) (some pb)) (Od:Only (fun b=>some T.pb=some b) W wd) (Gd:some pb=some T.pb\/∃ b,some pb=some b/\W.heap.size<=b) :
 ∃ oc' T',Made w o D A1 c1 A2 c2 A3 c3 v (wd.setCell ⟨T.g,13,none⟩ (.slice (some ⟨pb,po,none⟩) (n+1) pc)) oc' T' (n+1)/\T'.g=T.g/\(T'.A1=T.A1/\T'.c1=T.c1/\T'.A2=T.A2/\T'.c2=T.c2/\T'.A3=T.A3/\T'.c3=T.c3):=by
 obtain ⟨lb,lo,lc,hgl,hA,_,_,_⟩:=Q.row.open G.l0;simp only [Value.slice.injEq] at hA;obtain ⟨rfl,-,rfl⟩:=hA;have hg:=k03 M.node;have hp:=M.ports.lt rfl;have hW:=Q.only.size;have sd:=Od.size;have hbx:=k03 M.box;obtain ⟨cp,hcp⟩:=M.ports.blk_ty;have hpg:T.pb≠T.g:=k0v hcp M.node zz8;have hlb:=Q.gl lb hgl;have hlbl:=Q.row.lt hgl;have hpd:=Rd.lt rfl;have hpbn:pb≠T.g:=by
  obtain ⟨cp2,hcp2⟩:=Rd.blk_ty;rcases Gd with h | ⟨b,h,hb⟩
  · cases h;exact hpg
  · cases h;omega
 have keep:∀ b,b<W.heap.size->b≠T.pb->b≠T.g->(wd.setCell ⟨T.g,13,none⟩ (.slice (some ⟨pb,po,none⟩) (n+1) pc)).heap[b]? = W.heap[b]?:=fun b hb h1 h2=>
  (Below.heap_setCell _ _ _ _ h2).trans (Od.keep b hb (fun e=>h1 (Option.some.inj e).symm))
 have old:∀ b,b<Wr.heap.size->W.heap[b]? = Wr.heap[b]?:=fun b hb=>(Q.only.keep b zz1 zz1).trans (T11.only.same hb (fun x=>x))
 obtain ⟨oc',hoc⟩:∃ oc',oc'=fun b=>if b<W.heap.size then oc2 b else if b<wd.heap.size then Col.fix else .junk:=⟨_,rfl⟩
 have o1:∀ b,b<W.heap.size->oc' b=oc2 b:=fun b hb=>by rw [hoc];exact if_pos hb
 have o2:∀ b,b<Wr.heap.size->oc' b=oc b:=fun b hb=>by rw [o1 b zz1,Q.own b zz1,T11.own b hb]
 obtain ⟨T',hT'⟩:∃ T':NTab,T' = { T with pb:=pb,po:=po,pc:=pc,whl:=upd T.whl n gw,lb:=upd T.lb n lb,lo:=upd T.lo n lo,lc:=upd T.lc n c,snd:=fun i k=>if i=n then sf k else T.snd i k,rcv:=fun i k=>if i=n then rf k else T.rcv i k }:=⟨_,rfl⟩;have fr:Fresh oc' (wd.setCell ⟨T.g,13,none⟩ (.slice (some ⟨pb,po,none⟩) (n+1) pc)):=fun b hb=>by
  have hb':wd.heap.size<=b:=by simpa [World.setCell] using hb
  rw [hoc];show (if b<W.heap.size then oc2 b else if b<wd.heap.size then Col.fix else .junk) = .junk;rw [if_neg zz1,if_neg zz1]
 have t1:Tr (fun c=>c = .fix\/c = .node v) oc2 W oc' (wd.setCell ⟨T.g,13,none⟩ (.slice (some ⟨pb,po,none⟩) (n+1) pc)):=by
  refine ⟨⟨Od.os,Od.tape,Od.output,by simp [World.setCell];exact sd,fun b hb h=>keep b hb (fun e=>h ?_) (fun e=>h ?_)⟩,o1,fr⟩
  · rw [e,Q.own _ zz1,T11.own _ hp];exact .inl M.op
  · rw [e,Q.own _ zz1,T11.own _ hg];exact .inr M.og
 have t2:Tr (fun c=>c = .junk) o11 w11 oc2 W:=by
  refine ⟨Q.only.mono (fun b hb e=>?_),Q.own,Q.fresh⟩;have:b=xb:=by omega
  rw [this];exact hjx
 have hxn:w.heap.size<=Wr.heap.size:=M.new.below.size;have tH:T'.host=T.host:=by rw [hT']
 have tw1:∀ i,i≠n->T'.whl i=T.whl i:=fun i hi=>by rw [hT'];exact k06 _ _ hi
 have tw2:T'.whl n=gw:=by rw [hT'];exact k04 _ _ _
 have ts1:∀ i k,i≠n->T'.snd i k=T.snd i k/\T'.rcv i k=T.rcv i k:=fun i k hi=>by rw [hT'];exact ⟨if_neg hi,if_neg hi⟩
 have ts2:∀ k,T'.snd n k=sf k/\T'.rcv n k=rf k:=fun k=>by rw [hT'];exact ⟨if_pos rfl,if_pos rfl⟩
 have tl1:∀ i,i≠n->T'.lb i=T.lb i/\T'.lo i=T.lo i/\T'.lc i=T.lc i:=fun i hi=>by rw [hT'];exact ⟨k06 _ _ hi,k06 _ _ hi,k06 _ _ hi⟩
 have tl2:T'.lb n=lb/\T'.lo n=lo/\T'.lc n=c:=by rw [hT'];exact ⟨k04 _ _ _,k04 _ _ _,k04 _ _ _⟩
 have tp:T'.pb=pb/\T'.po=po/\T'.pc=pc:=by rw [hT'];exact ⟨rfl,rfl,rfl⟩
 have tg:T'.g=T.g:=by rw [hT']
 have tA:T'.A1=T.A1/\T'.c1=T.c1/\T'.A2=T.A2/\T'.c2=T.c2/\T'.A3=T.A3/\T'.c3=T.c3:=by rw [hT'];exact ⟨rfl,rfl,rfl,rfl,rfl,rfl⟩
 clear hT';have NF:∀ c:Col,(c = .fix\/c = .node v)->kcB c:=fun c h=>by rcases h with h | h <;> rw [h];exact .inl rfl;exact .inr ⟨v,rfl⟩
 have hal:Half (wd.setCell ⟨T.g,13,none⟩ (.slice (some ⟨pb,po,none⟩) (n+1) pc)) oc' v D T n n 0:=((M.half.tr T11 (fun _ x=>x.elim)).tr t2 (fun c e=>by rw [e];exact .inl rfl)).tr t1 NF;refine ⟨oc',T',⟨⟨?_,fun b hb=>?_,fr⟩,⟨?_,fun i hi=>?_,fun i k h1 h2 h3=>?_,fun i k h1 h2 h3=>?_⟩,?_,?_,?_,?_,?_,fun i h1 h2=>?_,?_,?_⟩,tg,tA⟩
 · refine N11.below.trans ⟨Od.os.trans Q.only.os,Od.tape.trans Q.only.tape,Od.output.trans Q.only.output,by simp [World.setCell];omega,fun b hb=>?_⟩
   have:=M.opn;have:=M.gn;exact (keep b zz1 zz1 zz1).trans (Q.only.keep b zz1 zz1)
 · rw [o2 b zz1];exact M.new.own b hb
 · rw [tH];exact hal.host
 · by_cases e:i=n
   · subst e;rw [tw2];exact (W11.tr t2 zz17).tr t1 zz17
   · rw [tw1 i e];exact hal.whl i zz1
 · by_cases e:i=n
   · subst e
     rw [(ts2 k).1];obtain ⟨_,q2,q3⟩:=Q.snd k h2;exact ⟨(t1.own _ (k03 q3)).trans q2,t1.blk q3 (by rw [q2];simp)⟩
   · rw [(ts1 i k e).1];exact hal.snd i k h1 h2 (.inl zz1)
 · by_cases e:i=n
   · subst e
     rw [(ts2 k).2];obtain ⟨_,q2,q3⟩:=Q.rcv k h2;exact ⟨(t1.own _ (k03 q3)).trans q2,t1.blk q3 (by rw [q2];simp)⟩
   · rw [(ts1 i k e).2];exact hal.rcv i k h1 h2 (.inl zz1)
 · rw [tg,o2 _ hg];exact M.og
 · rw [tg,tH,tp.1,tp.2.1,tp.2.2]
   have h:=(Od.keep _ zz1 (fun e=>hpg (Option.some.inj e))).trans ((old _ hg).trans M.node);exact k05 h 13 _
 · rw [tp.1,tp.2.1,tp.2.2]
   have h:=Rd.only (k0k wd T.g 13 (.slice (some ⟨pb,po,none⟩) (n+1) pc)) (fun b e e2=>by cases e;exact hpbn e2);have e:k1Y D T' v (n+1)=k1Y D T v n++[.int .i64 x,.slice (some ⟨lb,lo,none⟩) D.lanes c,.pointer (some ⟨gw,0,none⟩)]:=by
    unfold k1Y;rw [k1T,k1P (k6t D T' v) (k6t D T v) n (fun i hi=>?_)]
    · unfold k6t k1s
      rw [if_neg zz1,tw2,tl2.1,tl2.2.1,tl2.2.2,hx]
    · unfold k6t k1s
      rw [tw1 i zz1,(tl1 i zz1).1,(tl1 i zz1).2.1,(tl1 i zz1).2.2]
   rw [e];exact h
 · rw [tp.1]
   rcases Gd with h | ⟨b,h,hb⟩
   · cases h;rw [o2 _ hp];exact M.op
   · cases h
     have hb':W.heap.size<=pb:=hb;have:=fr;have e3:oc' pb = .fix:=by
      have h5:oc'=fun b=>if b<W.heap.size then oc2 b else if b<wd.heap.size then Col.fix else .junk:=by assumption
      rw [h5];show (if pb<W.heap.size then oc2 pb else if pb<wd.heap.size then Col.fix else .junk) = .fix;rw [if_neg zz1,if_pos hpd]
     exact e3
 · rw [tp.1]
   rcases Gd with h | ⟨b,h,hb⟩
   · cases h;exact M.opn
   · cases h;have hb':W.heap.size<=pb:=hb;omega
 · by_cases e:i=n
   · subst e
     rw [tl2.1,tl2.2.1,tl2.2.2];have e:k1m D T' i=((List.range D.lanes).flatMap fun j=>[Value.pointer (some ⟨sf j,0,none⟩),Value.pointer (some ⟨rf j,0,none⟩)]):=by
      unfold k1m;exact k1P _ _ _ (fun k hk=>by unfold k9U;rw [(ts2 k).1,(ts2 k).2])
     rw [e];have hr:=Q.row;rw [hgl] at hr;obtain ⟨cl,hcl⟩:=hr.blk_ty;have hne:lb≠T.pb:=by have:=M.ports.lt rfl;omega
     exact ⟨hr.of_blk (fun b e=>by cases e;exact keep _ hlbl hne zz1),(o1 _ hlbl).trans hlb.2⟩
   · obtain ⟨r1,r2⟩:=M.lanes i h1 zz1
     obtain ⟨e1,e2,e3⟩:=tl1 i e;rw [e1,e2,e3];have e4:k1m D T' i=k1m D T i:=by
      unfold k1m;exact k1P _ _ _ (fun k hk=>by unfold k9U;rw [(ts1 i k e).1,(ts1 i k e).2])
     rw [e4];have hl:=r1.lt rfl;obtain ⟨cl,hcl⟩:=r1.blk_ty;exact ⟨r1.of_blk (fun b e=>by cases e;exact (keep _ zz1 (k0v hcl hcp zz8) (k0v hcl M.node zz8)).trans (old _ hl)),(o2 _ hl).trans r2⟩
 · exact (keep _ zz1 (by have:=M.opn;exact fun e=>k0v hcp M.box zz8 e.symm) (by have:=M.gn;omega)).trans ((old _ hbx).trans M.box)
 · rw [tg];exact M.gn
theorem NewB.toTr {o o':Nat->Col} {w W:World} (h:NewB w.heap.size o w o' W):Tr (fun _=>False) o w o' W:=⟨Only.of_below h.below,h.own,h.fresh⟩
theorem Made.done {w wr w12 w14:World} {o oc:Nat->Col} {D:PlanD} {A1 c1 A2 c2 A3 c3 v} {T:NTab} {ga gb:Nat} (G:Good D) (hv:v<D.nodes) (P:PlanV w (fun b=>o b = .fix) (pagg D A1 c1 A2 c2 A3 c3) D) (M:Made w o D A1 c1 A2 c2 A3 c3 v wr oc T (np D v))
 (b12:Below wr.heap.size wr w12) (s12:w12.heap.size=wr.heap.size+3) (h12:w12.heap[wr.heap.size+2]? = some (.cells #[.slice (some ⟨ga,0,none⟩) (np D v) (np D v),.slice (some ⟨gb,0,none⟩) (np D v) (np D v)] 195 (0,0))) (hne:ga≠gb) (hga:wr.heap.size<=ga) (hgb:wr.heap.size<=gb) (n1:NumsB w12 ga (np D v) fun _=>0) (n2:NumsB w12 gb (np D v) fun _=>0)
 (b14:Below (w12.setCell ⟨T.g,0,none⟩ (.pointer (some ⟨wr.heap.size+2,0,none⟩))).heap.size (w12.setCell ⟨T.g,0,none⟩ (.pointer (some ⟨wr.heap.size+2,0,none⟩))) w14) (s14:w14.heap.size=w12.heap.size+4)
 (q1:w14.heap[w12.heap.size+1]? = some (.cells #[.slice (some ⟨w12.heap.size,0,none⟩) (np D v*D.lanes*D.room) (np D v*D.lanes*D.room),.int .i64 0,.int .i64 (np D v*D.lanes*D.room:Nat)] 239 (0,0))) (q2:k1R w14 w12.heap.size (np D v*D.lanes*D.room) (k1g (np D v*D.lanes*D.room) (np D v*D.lanes*D.room) true)) (q3:w14.heap[w12.heap.size+2]? = some (.map #[] 0))
 (q4:w14.heap[w12.heap.size+3]? = some (.cells #[.pointer (some ⟨w12.heap.size+1,0,none⟩),.map (some (w12.heap.size+2)),.int .i64 (np D v:Nat),.int .i64 D.lanes] 200 (0,0))) (h0:1<=np D v*D.lanes*D.room) (h1:np D v*D.lanes*D.room<=200) :
 ∃ T' o',NodeAt (w14.setCell ⟨T.g,15,none⟩ (.pointer (some ⟨w12.heap.size+3,0,none⟩))) o' v D T' (nst0 D)/\NewB w.heap.size o w o' (w14.setCell ⟨T.g,15,none⟩ (.pointer (some ⟨w12.heap.size+3,0,none⟩)))/\T'.g=T.g:=by
 have hg:=k03 M.node;have hgn:=M.gn;have hws:=M.new.below.size;have hp:=M.ports.lt rfl;have hnp:np D v<=6:=by unfold np;have:=G.bl v hv;omega
 have l12a:=n1.lt;have l12b:=n2.lt;obtain ⟨cp,hcp⟩:=M.ports.blk_ty;have hpg:T.pb≠T.g:=k0v hcp M.node zz8;obtain ⟨o1,ho1⟩:∃ o1,o1=paint oc wr.heap.size w12.heap.size (.arb v):=⟨_,rfl⟩;have t1:Tr (fun _=>False) oc wr o1 w12:=by rw [ho1];exact Tr.paint _ (Only.of_below b12)
 have og1:o1 T.g = .node v:=(t1.own _ hg).trans M.og;have Z12:=(b12.block _ hg).trans M.node;have p1:∀ b,wr.heap.size<=b->b<w12.heap.size->o1 b = .arb v:=fun b h1 h2=>by rw [ho1];exact k0A _ _ h1 h2
 have A1':ArbAt w12 o1 (.arb v) (wr.heap.size+2) (np D v):=ArbAt.new (w':=w12) h12 hne (p1 _ zz1 zz1) (p1 _ hga l12a) (p1 _ hgb l12b) n1 n2;have t2:Tr (fun c=>c = .node v) o1 w12 o1 (w12.setCell ⟨T.g,0,none⟩ (.pointer (some ⟨wr.heap.size+2,0,none⟩))):=Tr.same t1.fresh ((k0k _ _ _ _).mono (fun b _ e=>by rw [e];exact og1));have Z13:=k05 Z12 0 (.pointer (some ⟨wr.heap.size+2,0,none⟩));have hs13:(w12.setCell ⟨T.g,0,none⟩ (.pointer (some ⟨wr.heap.size+2,0,none⟩))).heap.size=w12.heap.size:=by simp
 obtain ⟨w13,hw13⟩:∃ w13,w13=w12.setCell ⟨T.g,0,none⟩ (.pointer (some ⟨wr.heap.size+2,0,none⟩)):=⟨_,rfl⟩;rw [<- hw13] at b14 t2 Z13 hs13;have hg13:T.g<w13.heap.size:=by omega
 obtain ⟨o2,ho2⟩:∃ o2,o2=paint (paint o1 w13.heap.size (w12.heap.size+2) (.pool v)) (w12.heap.size+2) w14.heap.size (.rings v):=⟨_,rfl⟩;have k2:∀ b,b<w13.heap.size->o2 b=o1 b:=fun b hb=>by rw [ho2,k0w _ _ zz1,k0w _ _ zz1]
 have f2:Fresh o2 w14:=fun b hb=>by rw [ho2];unfold paint;rw [if_neg zz1,if_neg zz1]
 have p2:∀ b,w13.heap.size<=b->b<w12.heap.size+2->o2 b = .pool v:=fun b h1 h2=>by rw [ho2,k0w _ _ h2];exact k0A _ _ h1 h2
 have p3:∀ b,w12.heap.size+2<=b->b<w14.heap.size->o2 b = .rings v:=fun b h1 h2=>by rw [ho2];exact k0A _ _ h1 h2
 have t3:Tr (fun _=>False) o1 w13 o2 w14:=⟨Only.of_below b14,k2,f2⟩;have og2:o2 T.g = .node v:=(k2 _ hg13).trans og1;have Z14:=(b14.block _ hg13).trans Z13;have R2:RingsAt w14 o2 (.rings v) (.pool v) (w12.heap.size+3) (np D v:Nat) D.lanes (np D v*D.lanes*D.room) (fun _=>[]):=RingsAt.new h0 h1 zz1 G.l1 q1 q2 q3 q4 (p2 _ zz1 zz1) (p2 _ zz1 zz1) (p3 _ zz1 zz1) (p3 _ zz1 zz1);have t4:Tr (fun c=>c = .node v) o2 w14 o2 (w14.setCell ⟨T.g,15,none⟩ (.pointer (some ⟨w12.heap.size+3,0,none⟩))):=Tr.same f2 ((k0k _ _ _ _).mono (fun b _ e=>by rw [e];exact og2));have Z15:=k05 Z14 15 (.pointer (some ⟨w12.heap.size+3,0,none⟩));obtain ⟨w15,hw15⟩:∃ w15,w15=w14.setCell ⟨T.g,15,none⟩ (.pointer (some ⟨w12.heap.size+3,0,none⟩)):=⟨_,rfl⟩;have hs15:w15.heap.size=w14.heap.size:=by rw [hw15];simp
 rw [<- hw15] at t4 Z15 ⊢;have Tt:Tr (fun c=>c = .node v) oc wr o2 w15:=(((t1.mono (fun _ x=>x.elim)).trans t2).trans (t3.mono (fun _ x=>x.elim))).trans t4;have hal:=M.half.tr Tt (fun c e=>by rw [e];exact .inr ⟨v,rfl⟩);have NB:NewB w.heap.size o w o2 w15:=by
  refine ⟨⟨Tt.only.os.trans M.new.below.os,Tt.only.tape.trans M.new.below.tape,Tt.only.output.trans M.new.below.output,Nat.le_trans hws Tt.only.size,fun b hb=>?_⟩,fun b hb=>?_,Tt.fresh⟩
  · refine Eq.trans ?_ (M.new.below.block b hb)
    have e4:w15.heap[b]? = w14.heap[b]?:=by rw [hw15];exact Below.heap_setCell _ _ _ _ (by show b≠T.g;omega)
    have e2:=b14.block b zz1;have e3:w13.heap[b]? = w12.heap[b]?:=by rw [hw13];exact Below.heap_setCell _ _ _ _ (by show b≠T.g;omega)
    exact e4.trans (e2.trans (e3.trans (b12.block b zz1)))
  · rw [Tt.own b zz1];exact M.new.own b hb
 refine ⟨{ T with arb:=wr.heap.size+2,rings:=w12.heap.size+3,A1:=A1,c1:=c1,A2:=A2,c2:=c2,A3:=A3,c3:=c3 },o2,⟨(Tt.own _ hg).trans M.og,Z15,P.tr NB.toTr (fun x=>x),M.ports.only Tt.only (fun b e=>by cases e;rw [M.op];simp),(Tt.own _ hp).trans M.op,fun i h1 h2=>?_,((A1'.tr t2 zz17).tr t3 (fun x=>x)).tr t4 zz17,hal.host,R2.tr t4 zz17 zz17,hal.whl,fun i k h1 h2 h3=>hal.snd i k h1 h3 (.inl h2),fun i k h1 h2 h3=>hal.rcv i k h1 h3 (.inl h2)⟩,NB,rfl⟩;obtain ⟨a,b⟩:=M.lanes i h1 h2;exact ⟨a.only Tt.only (fun b' e=>by cases e;rw [b];simp),(Tt.own _ (a.lt rfl)).trans b⟩
end Go.Proofs.YtdopmlopafgonaaGreatDoor.Own
