/- TopQuick: one packet alone is brought from host to host (a part of the walks and of the plain laws). -/
import Derived.Test.YtdopmlopafgonaaGreatDoorC0
import Derived.Test.YtdopmlopafgonaaGreatDoorC41
set_option linter.unusedVariables false
set_option linter.unusedSimpArgs false
set_option maxHeartbeats 4000000
set_option maxRecDepth 100000
namespace Go.Proofs.YtdopmlopafgonaaGreatDoor.Own
section
variable {D:PlanD} {P:Nat->Nat->List Nat} {S:List Pk} {M:Int} {C:Nat} {st st':FSt}
def k1u (D:PlanD) (nd:Nat->NSt):Nat->NSt:=fun u=>if u<D.nodes then nd u else nst0 D
theorem k16 {nd:Nat->NSt} {u:Nat} (h:u<D.nodes):k1u D nd u=nd u:=by unfold k1u;rw [if_pos h]
theorem k66 {nd:Nat->NSt} {v:Nat} (hv:v<D.nodes) (s:NSt):k1u D (upd nd v s)=upd (k1u D nd) v s:=by
 funext u;by_cases e:u=v
 · subst e;rw [k16 hv,k04,k04]
 · rw [k06 _ _ e];unfold k1u;rw [k06 _ _ e]
def kcg (D:PlanD) (L:Lg) (lk:Nat × Nat->List (List Int)):Prop:=∀ a∈D.hops,∀ r∈lk a,RowOk D L a r
def TkOk (D:PlanD) (C:Nat) (st:FSt):Prop:=(∀ v,v<D.nodes->(st.node v).ticks<=C)/\st.ticks<=C
def Holds (D:PlanD) (P:Nat->Nat->List Nat) (S:List Pk) (M:Int) (C:Nat) (st:FSt):Prop:=∃ L,GInv D P S (k1u D st.node) L/\kcg D L st.link/\FOk D M C st/\TkOk D C st
theorem DataRel.ticks {v i:Nat} {s s':NSt} {F:Wire.Fr} (h:DataRel D v i s F s'):s'.ticks=s.ticks:=by
 rcases h with ⟨_,rfl⟩ | ⟨_,⟨_,rfl⟩ | ⟨_,q',rfl,_⟩⟩ <;> rfl
theorem TakeRel.ticks {v i:Nat} {s s':NSt} {row:List Int} (h:TakeRel D v i s row s'):s'.ticks=s.ticks:=by
 unfold TakeRel at h;split at h
 · rw [h]
 · rcases h with ⟨_,rfl⟩ | ⟨_,⟨_,rfl⟩ | ⟨_,rfl⟩ | ⟨_,h⟩⟩
   · rfl
   · rfl
   · rfl
   · exact h.ticks
theorem TickRel.ticks (G:Good D) {v:Nat} (hv:v<D.nodes) {s s':NSt} {os:List OutP} (K:NodeOk D v M C s) (hM:M+6<=1000000) (t:TickRel D v s s' os):s'.ticks=s.ticks+1:=by
 obtain ⟨s1,ms,s2,o2,hf,hm,_,hmv,rfl,rfl⟩:=t;have hnp:=k2k G hv;have h1:=hf.same.2.2;have h2:=(MovesTo.ok G hm (hf.ok G K) (n:=np D v) (Nat.le_refl _) zz1 hmv).2.2;show s2.ticks+1=_;rw [h2,h1]
theorem k6A {v:Nat} {a:Nat × Nat} {r:List Int}:∀ {os:List OutP} {lk:Nat × Nat->List (List Int)},r∈k2l D v lk os a->r∈lk a\/∃ p∈os,a=(v,p.1)/\r=p.2
 | [],lk,h=>.inl h
 | p :: os,lk,h=>by
   have h2:r∈k2l D v (updl lk (v,p.1) (put1 D (lk (v,p.1)) p.2)) os a:=h;rcases k6A h2 with h3 | ⟨p2,h3,h4⟩
   · unfold updl at h3
     split at h3
     · rename_i e
       unfold put1 at h3;split at h3
       · rcases List.mem_append.1 h3 with h3 | h3
         · left;rw [e];exact h3
         · right;exact ⟨p,zz17,e,List.mem_singleton.1 h3⟩
       · left;rw [e];exact h3
     · exact .inl h3
   · exact .inr ⟨p2,List.mem_cons_of_mem _ h3,h4⟩
theorem k4s {outs:Nat->List OutP} {lk:Nat × Nat->List (List Int)} {a:Nat × Nat} {r:List Int}:∀ {k:Nat},r∈k1A D outs lk k a->r∈lk a\/∃ v,v<k/\∃ p∈outs v,a=(v,p.1)/\r=p.2
 | 0,h=>.inl h
 | k+1,h=>by
   rcases k6A (show r∈k2l D k (k1A D outs lk k) (outs k) a from h) with h | ⟨p,h1,h2⟩
   · rcases k4s h with h | ⟨v,h1,h2⟩
     · exact .inl h
     · exact .inr ⟨v,zz1,h2⟩
   · exact .inr ⟨k,zz1,p,h1,h2⟩
theorem GInv.ticks (G:Good D) (W:Ways D P) {nd nd':Nat->NSt} {L:Lg} (h:GInv D P S nd L) (K:∀ v,v<D.nodes->NodeOk D v M C (nd v)) (hM:M+6<=1000000) {outs:Nat->List OutP} (t:∀ v,v<D.nodes->TickRel D v (nd v) (nd' v) (outs v)):∀ k,k<=D.nodes ->
 ∃ L',GInv D P S (fun u=>if u<k then nd' u else nd u) L'/\(∀ a k,L a k <+: L' a k)/\(∀ v,v<k->∀ p∈outs v,p.1∈D.bs v/\RowOk D L' (v,p.1) p.2)/\∀ v,v<k->NodeOk D v (M+6) (C+6) (nd' v)
 | 0,_=>⟨L,h.p.casesOn (fun _ _ _=>by simpa using h),fun _ _=>List.prefix_refl _,fun v hv=>by omega,fun v hv=>by omega⟩
 | k+1,hk=>by
   obtain ⟨L1,g1,p1,r1,k1⟩:=GInv.ticks G W h K hM t k zz1;obtain ⟨L2,g2,p2,r2,k2⟩:=g1.tick G W (v:=k) (s':=nd' k) zz1 (M:=M) (C:=C) (by rw [if_neg (Nat.lt_irrefl k)];exact K k zz1) hM (os:=outs k) (by rw [if_neg (Nat.lt_irrefl k)];exact t k zz1);have e1:(upd (fun u=>if u<k then nd' u else nd u) k (nd' k))=fun u=>if u<k+1 then nd' u else nd u:=by
    funext u;by_cases e:u=k
    · subst e;rw [k04,if_pos zz1]
    · rw [k06 _ _ e]
      by_cases h2:u<k
      · rw [if_pos h2,if_pos zz1]
      · rw [if_neg h2,if_neg zz1]
   rw [e1] at g2;refine ⟨L2,g2,fun a j=>(p1 a j).trans (p2 a j),fun v hv p hp=>?_,fun v hv=>?_⟩
   · by_cases e:v=k
     · subst e;exact r2 p hp
     · exact ⟨(r1 v zz1 p hp).1,(r1 v zz1 p hp).2.mono p2⟩
   · by_cases e:v=k
     · subst e;exact k2
     · exact k1 v zz1
theorem Holds.tick (G:Good D) (W:Ways D P) (h:Holds D P S M C st) (hM:M+6<=1000000) (t:k8g D st st'):Holds D P S (M+6) (C+6) st':=by
 obtain ⟨L,g,r,k,tk⟩:=h;obtain ⟨outs,t1,t2,t3⟩:=t;obtain ⟨L2,g2,p2,r2,k2⟩:=GInv.ticks (nd':=k1u D st'.node) G W g (M:=M) (C:=C) (fun v hv=>by rw [k16 hv];exact k v hv) hM (outs:=outs) (fun v hv=>by rw [k16 hv,k16 hv];exact t1 v hv) D.nodes (Nat.le_refl _);have e:(fun u=>if u<D.nodes then k1u D st'.node u else k1u D st.node u)=k1u D st'.node:=by
  funext u;by_cases h:u<D.nodes
  · rw [if_pos h]
  · rw [if_neg h];unfold k1u;rw [if_neg h,if_neg h]
 rw [e] at g2;refine ⟨L2,g2,fun a ha x hx=>?_,fun v hv=>by have:=k2 v hv;rwa [k16 hv] at this,fun v hv=>by have:=(t1 v hv).ticks G hv (k v hv) hM;have:=tk.1 v hv;omega,by have:=tk.2;omega⟩;rw [t2] at hx;rcases k4s hx with hx | ⟨v,hv,p,hp,rfl,rfl⟩
 · exact (r a ha x hx).mono p2
 · exact (r2 v hv p hp).2
theorem Holds.del (G:Good D) (W:Ways D P) (h:Holds D P S M C st) (hM:M<=D.start+30000) {a:Nat × Nat} (ha:a∈D.hops) {m:Nat} (t:k1B D a m st st'):Holds D P S M C st':=by
 obtain ⟨L,g,r,k,tk⟩:=h;obtain ⟨row,s',h1,h2,rfl⟩:=t;have hy:=(k0M ha).2;obtain ⟨g2,k2⟩:=g.take G W (M:=M) (C:=C) (s':=s') (fun v hv=>by rw [k16 hv];exact k v hv) hM ha (r a ha row (List.mem_of_getElem? h1)) (by rw [k16 hy];exact h2);refine ⟨L,by rw [k66 hy];exact g2,fun b hb x hx=>?_,fun v hv=>?_,fun v hv=>?_,tk.2⟩
 · have hx:x∈updl st.link a ((st.link a).eraseIdx m) b:=hx
   unfold updl at hx;split at hx
   · rename_i e;subst e;exact r b hb x (List.mem_of_mem_eraseIdx hx)
   · exact r b hb x hx
 · show NodeOk D v M C (upd st.node a.2 s' v)
   by_cases e:v=a.2
   · subst e;rw [k04];exact k2
   · rw [k06 _ _ e];exact k v hv
 · show (upd st.node a.2 s' v).ticks<=C
   by_cases e:v=a.2
   · subst e;rw [k04,h2.ticks];exact tk.1 _ hv
   · rw [k06 _ _ e];exact tk.1 v hv
theorem Holds.inject (G:Good D) (W:Ways D P) (h:Holds D P S M C st) {v d k:Nat} {y c:Int} (hv:v<D.nodes) (hd:d<D.nodes) (hk:k<D.lanes) (y0:0<=y) (y1:y<=4294967295) {s':NSt} (t:k7k D v d k y (st.node v) c s') :
 Holds D P (if c=0 then S++[⟨v,d,k,y⟩] else S) M C { st with node:=upd st.node v s' }:=by
 obtain ⟨L,g,r,K,tk⟩:=h;rcases t with ⟨_,rfl,rfl⟩ | ⟨_,_,rfl,rfl⟩ | ⟨hne,hlt,rfl,rfl⟩
 · rw [if_neg zz8,k1t];exact ⟨L,g,r,K,tk⟩
 · rw [if_neg zz8,k1t];exact ⟨L,g,r,K,tk⟩
 · rw [if_pos rfl]
   have hl:=G.l1;have hk3:k<3:=by omega
   have kv:=K v hv;have hpk:PkIn D k ⟨v,d,k,y⟩:=⟨v,d,rfl,rfl,hv,hd,fun e=>hne e.symm,rfl,y0,y1⟩;refine ⟨L,?_,r,fun u hu=>?_,fun u hu=>?_,tk.2⟩
   · show GInv D P _ (k1u D (upd st.node v _)) L
     rw [k66 hv];obtain ⟨s',hs'⟩:∃ s':NSt,s' = { st.node v with waits:=upd (st.node v).waits k ((st.node v).waits k++[⟨v,d,k,y⟩]) }:=⟨_,rfl⟩;rw [<- hs'];have es:s'.snd=(k1u D st.node v).snd:=by rw [k16 hv,hs']
     have er:s'.rcv=(k1u D st.node v).rcv:=by rw [k16 hv,hs']
     have eq:s'.q=(k1u D st.node v).q:=by rw [k16 hv,hs']
     have ew:s'.waits=upd (k1u D st.node v).waits k ((k1u D st.node v).waits k++[⟨v,d,k,y⟩]):=by rw [k16 hv,hs']
     have base:PInv D P (cont D (upd (k1u D st.node) v s') L) (S++[⟨v,d,k,y⟩]):=by
      refine g.p.inject W ⟨v,d,k,y⟩ ⟨hv,hd,fun e=>hne e.symm,hk⟩ ⟨by show (0:Int)<=(v:Int);omega,by show (0:Int)<=(d:Int);omega,by show (0:Int)<=(k:Int);omega⟩ ?_ (fun r2 h1=>k2j (fun u _=>?_) (fun u i j m _=>?_) (fun a b m _=>by rw [k1w (fun i k=>by rw [er])]) (fun u m e hm=>?_))
      · show cont D _ L (.wait v k)=cont D _ L (.wait v k)++_
        simp only [cont,if_pos hk3];rw [k04,ew,k04]
      · by_cases e:u=v
        · subst e;rw [k04,ew];exact k06 _ _ zz1
        · exact zz16
      · by_cases e:u=v
        · subst e;rw [k04,eq]
        · exact zz16
      · by_cases e2:u=v
        · subst e2;rw [k04,ew]
          exact k06 _ _ (fun e3=>h1 (by rw [e,e3];rfl))
        · exact zz34
     refine ⟨base,fun a ha j hj=>?_,fun a ha j hj=>?_,g.pk⟩
     · rw [<- g.snd a ha j hj]
       by_cases e:a.1=v
       · rw [e,k04,es]
       · exact zz16
     · obtain ⟨n,h1,h2⟩:=g.rcv a ha j hj
       refine ⟨n,h1,?_⟩;rw [<- h2];by_cases e:a.2=v
       · rw [e,k04,er]
       · exact zz16
   · show NodeOk D u M C (upd st.node v _ u)
     by_cases e:u=v
     · subst e
       rw [k04];refine ⟨⟨kv.num.s0,kv.num.s1,kv.num.s2,kv.num.s3,kv.num.r0,kv.num.r1,kv.num.r2,kv.num.r3⟩,kv.lt,kv.q,fun j hj x hx=>?_,?_,fun j hj=>?_⟩
       · have hx:x∈upd (st.node u).waits k ((st.node u).waits k++[⟨u,d,k,y⟩]) j:=hx
         by_cases e:j=k
         · subst e
           rw [k04] at hx;rcases List.mem_append.1 hx with hx | hx
           · exact kv.w j hj x hx
           · obtain rfl:=List.mem_singleton.1 hx;exact hpk
         · rw [k06 _ _ e] at hx;exact kv.w j hj x hx
       · show (upd (st.node u).waits k _ 3).length<=C
         rw [k06 _ _ zz1];exact kv.came
       · show (upd (st.node u).waits k _ j).length<=D.queue
         by_cases e:j=k
         · subst e;rw [k04];simp;omega
         · rw [k06 _ _ e];exact kv.wl j hj
     · rw [k06 _ _ e];exact K u hu
   · show (upd st.node v _ u).ticks<=C
     by_cases e:u=v
     · subst e;rw [k04];exact tk.1 u hu
     · rw [k06 _ _ e];exact tk.1 u hu
theorem kbu (G:Good D) (v:Nat):NodeOk D v (D.start:Int) 0 (nst0 D):=by
 have:=G.r0;have:=G.r1;have:=G.s1;refine ⟨⟨fun _ _ _ _ _=>?_,fun _ _ _ _ _=>?_,fun _ _ _ _ _=>?_,fun _ _ _ _ _=>?_,fun _ _ _ _ _=>?_,fun _ _ _ _ _=>?_,fun _ _ _ _ _=>?_,fun _ _ _ _ _=>?_⟩,fun _ _ _ _ _=>⟨?_,?_⟩,fun _ _ _ _ _ _ x hx=>?_,fun _ _ x hx=>?_,?_,fun _ _=>?_⟩
 all_goals first
  | (show (_:Int)<=_;simp only [nst0];omega)
  | (simp [nst0] at hx)
  | simp [nst0]
theorem Holds.new (G:Good D) (W:Ways D P) (hn:∀ v,v<D.nodes->st.node v=nst0 D) (hl:∀ a∈D.hops,st.link a=[]) (ht:st.ticks=0):Holds D P [] (D.start:Int) 0 st:=by
 have e:∀ v,k1u D st.node v=nst0 D:=fun v=>by
  by_cases h:v<D.nodes
  · rw [k16 h,hn v h]
  · unfold k1u;rw [if_neg h]
 have ec:∀ p,cont D (k1u D st.node) (fun _ _=>[]) p=[]:=fun p=>by
  cases p with
  | came v=>show (k1u D st.node v).waits 3=[];rw [e];rfl
  | q v i j k=>show (k1u D st.node v).q (i,j,k)=[];rw [e];rfl
  | fly x y k=>exact List.drop_nil
  | wait v k=>simp only [cont,e];split <;> rfl
 refine ⟨fun _ _=>[],⟨⟨fun p x hx=>by rw [ec] at hx;(cases hx),fun p x hx=>by rw [ec] at hx;(cases hx),fun f=>?_⟩,fun a _ k _=>by rw [e];simp [nst0],fun a _ k _=>⟨0,Nat.le_refl _,by rw [e];simp [nst0]⟩,fun a _ k _ x hx=>by cases hx⟩,fun a ha r hr=>by rw [hl a ha] at hr;(cases hr),fun v hv=>by rw [hn v hv];exact kbu G v,fun v hv=>by rw [hn v hv];exact Nat.le_refl _,zz1⟩;have:pipe f (cont D (k1u D st.node) fun _ _=>[]) (PPf D P f)=[]:=by
  unfold pipe;rw [List.flatMap_eq_nil_iff];intro p _;rw [ec];rfl
 rw [this];exact List.nil_sublist _
theorem Holds.fok (h:Holds D P S M C st):FOk D M C st:=by obtain ⟨_,_,_,k,_⟩:=h;exact k
theorem Holds.tk (h:Holds D P S M C st):TkOk D C st:=by obtain ⟨_,_,_,_,k⟩:=h;exact k
theorem Holds.lok (h:Holds D P S M C st):LOk D st:=by
 obtain ⟨_,_,r,_,_⟩:=h;exact fun a ha x hx=>(r a ha x hx).oct
end
end Go.Proofs.YtdopmlopafgonaaGreatDoor.Own
namespace Go.Proofs.YtdopmlopafgonaaGreatDoor.Own
open Go.RowKit Go.Proofs.YtdopmlopafgonaaGreatDoorW.PrintWords Go.Proofs.YtdopmlopafgonaaGreatDoorW.PrintLast Go.Proofs.YtdopmlopafgonaaGreatDoorW.PrintMore
def k4a (o o':Nat->Col):Prop:=∀ b c,c ≠ .junk->o b=c->o' b=c
theorem PlanV.mono {w:World} {B B':Nat->Prop} {v:Value} {D:PlanD} (h:PlanV w B v D) (k:∀ b,B b->B' b):PlanV w B' v D:=by
 obtain ⟨ev,wv,nv,rows,ge,gw,gn,gs,hv,r1,r2,r3,r4,b1,b2,b3⟩:=h;exact ⟨ev,wv,nv,rows,ge,gw,gn,gs,hv,r1,r2,r3,fun i r hr=>by obtain ⟨u,a,b,c⟩:=r4 i r hr;exact ⟨u,a,b,fun x e=>k x (c x e)⟩,fun b e=>k b (b1 b e),fun b e=>k b (b2 b e),fun b e=>k b (b3 b e)⟩
theorem PlanV.inside {w:World} {B:Nat->Prop} {v:Value} {D:PlanD} (h:PlanV w B v D):PlanV w (fun b=>B b/\b<w.heap.size) v D:=by
 obtain ⟨ev,wv,nv,rows,ge,gw,gn,gs,hv,r1,r2,r3,r4,b1,b2,b3⟩:=h;exact ⟨ev,wv,nv,rows,ge,gw,gn,gs,hv,r1,r2,r3,fun i r hr=>by obtain ⟨u,a,b,c⟩:=r4 i r hr;exact ⟨u,a,b,fun x e=>⟨c x e,b.lt e⟩⟩,fun b e=>⟨b1 b e,r1.lt e⟩,fun b e=>⟨b2 b e,r2.lt e⟩,fun b e=>⟨b3 b e,r3.lt e⟩⟩
theorem PlanV.inCells {w:World} {B:Nat->Prop} {v:Value} {D:PlanD} (h:PlanV w B v D):PlanV w (fun b=>B b/\b<w.heap.size/\∃ cp Ty fr,w.heap[b]? = some (.cells cp Ty fr)) v D:=by
 obtain ⟨ev,wv,nv,rows,ge,gw,gn,gs,hv,r1,r2,r3,r4,b1,b2,b3⟩:=h;refine ⟨ev,wv,nv,rows,ge,gw,gn,gs,hv,r1,r2,r3,fun i r hr=>?_,fun b e=>?_,fun b e=>?_,fun b e=>?_⟩
 · obtain ⟨u,a,b,c⟩:=r4 i r hr
   refine ⟨u,a,b,fun x e=>?_⟩;rw [e] at b;obtain ⟨cp,hcp⟩:=b.blk_ty;exact ⟨c x e,b.lt rfl,cp,_,_,hcp⟩
 · subst e;obtain ⟨cp,hcp⟩:=r1.blk_ty;exact ⟨b1 b rfl,r1.lt rfl,cp,_,_,hcp⟩
 · subst e;obtain ⟨cp,hcp⟩:=r2.blk_ty;exact ⟨b2 b rfl,r2.lt rfl,cp,_,_,hcp⟩
 · subst e;obtain ⟨cp,hcp⟩:=r3.blk_ty;exact ⟨b3 b rfl,r3.lt rfl,cp,_,_,hcp⟩
section
variable {w:World} {o o':Nat->Col}
theorem HostAt.recol {c:Col} {g:Nat} {l q:Int} {r:Nat->List Pk} (h:HostAt w o c g l q r) (k:k4a o o') (hc:c ≠ .junk):HostAt w o' c g l q r:=by
 obtain ⟨hg,vs,gs,hh,hr,hgs,hn⟩:=h;exact ⟨k _ _ hc hg,vs,gs,hh,hr,fun i b hi e=>k _ _ hc (hgs i b hi e),hn⟩
theorem PoolAt.recol {c:Col} {g n:Nat} {f:Nat->Option Pk} {l:List Nat} (h:PoolAt w o c g n f l) (k:k4a o o') (hc:c ≠ .junk):PoolAt w o' c g n f l:=by
 obtain ⟨hg,gs,bx,cur,hgs,hh,hs,hz,hn,h1,h2,h3⟩:=h;exact ⟨k _ _ hc hg,gs,bx,cur,k _ _ hc hgs,hh,hs,hz,hn,h1,fun i x hi hx=>⟨k _ _ hc (h2 i x hi hx).1,(h2 i x hi hx).2⟩,h3⟩
theorem RingsIn.ok.recol {c:Col} {n:Nat} {q:Way->List Pk} {X:RingsIn} (h:X.ok w o c n q) (k:k4a o o') (hc:c ≠ .junk):X.ok w o' c n q:=
 { h with
   om:=k _ _ hc h.om
   og:=fun a ha=>k _ _ hc (h.og a ha) }
theorem RingsAt.recol {c d:Col} {g:Nat} {p k2:Int} {n:Nat} {q:Way->List Pk} (h:RingsAt w o c d g p k2 n q) (k:k4a o o') (hc:c ≠ .junk) (hd:d ≠ .junk):RingsAt w o' c d g p k2 n q:=by
 obtain ⟨hg,X,hh,hp,hX,hpk⟩:=h;exact ⟨k _ _ hc hg,X,hh,hp.recol k hd,hX.recol k hc,hpk⟩
theorem ArbAt.recol {c:Col} {g n:Nat} (h:ArbAt w o c g n) (k:k4a o o') (hc:c ≠ .junk):ArbAt w o' c g n:=by
 obtain ⟨hg,ga,gb,f1,f2,hh,hne,oa,ob,r⟩:=h;exact ⟨k _ _ hc hg,ga,gb,f1,f2,hh,hne,k _ _ hc oa,k _ _ hc ob,r⟩
theorem WheelAt.recol {c:Col} {g n:Nat} (h:WheelAt w o c g n) (k:k4a o o') (hc:c ≠ .junk):WheelAt w o' c g n:=by
 obtain ⟨hg,va,vb,ga,gb,ws,ls,fr,hh,r1,r2,hne,oa,ob,r⟩:=h;exact ⟨k _ _ hc hg,va,vb,ga,gb,ws,ls,fr,hh,r1,r2,hne,k _ _ hc oa,k _ _ hc ob,r⟩
theorem LnkAt.recol {c:Col} {g:Nat} {rows:List (List Int)} {room:Int} (h:LnkAt w o c g rows room) (k:k4a o o') (hc:c ≠ .junk):LnkAt w o' c g rows room:=by
 obtain ⟨hg,v,gr,es,hh,hr,hgr,hrows,hnd,hes,hlen,hroom⟩:=h;exact ⟨k _ _ hc hg,v,gr,es,hh,hr,fun b e=>k _ _ hc (hgr b e),hrows,hnd,fun e he=>⟨k _ _ hc (hes e he).1,(hes e he).2⟩,hlen,hroom⟩
theorem NodeAt.recol {v:Nat} {D:PlanD} {T:NTab} {st:NSt} (h:NodeAt w o v D T st) (k:k4a o o'):NodeAt w o' v D T st where
 og:=k _ _ zz17 h.og
 blk:=h.blk
 plan:=h.plan.mono fun b hb=>k _ _ zz17 hb
 ports:=h.ports
 op:=k _ _ zz17 h.op
 lanes:=fun i h1 h2=>⟨(h.lanes i h1 h2).1,k _ _ zz17 (h.lanes i h1 h2).2⟩
 arb:=h.arb.recol k zz17
 host:=h.host.recol k zz17
 rings:=h.rings.recol k zz17 zz17
 whl:=fun i hi=>(h.whl i hi).recol k zz17
 snd:=fun i j h1 h2 h3=>⟨k _ _ zz17 (h.snd i j h1 h2 h3).1,(h.snd i j h1 h2 h3).2⟩
 rcv:=fun i j h1 h2 h3=>⟨k _ _ zz17 (h.rcv i j h1 h2 h3).1,(h.rcv i j h1 h2 h3).2⟩
end
structure NewF (w:World) (o:Nat->Col) (D:PlanD) (pb:Obj) (E1:Option Addr) (k1:Nat) (E2:Option Addr) (k2:Nat) (E3:Option Addr) (k3:Nat) (hb ho hc mb g:Nat) (W:World) (oc:Nat->Col) (nv:Value) (gv:Option Nat) (T:Nat->NTab) (lk:Nat × Nat->Nat) (k j:Nat):Prop where
 new:NewB w.heap.size o w oc W
 og:oc g = .fab
 gn:w.heap.size<g
 blk:W.heap[g]? = some (.cells #[.int .i64 D.nodes,.slice E1 D.edges.length k1,.int .i64 D.lanes,.int .i64 D.room,.int .i64 D.queue,.int .i64 D.rounds,.int .i64 D.every,.int .i64 D.bag,.slice E2 D.weights.length k2,.int .u16 D.start,.slice E3 D.next.length k3,.slice (some ⟨hb,ho,none⟩) D.hops.length hc,nv,.map (some mb),.int .i64 0] 87 (0,0))
 plan:PlanV W (fun b=>oc b = .fix) (pagg D E1 k1 E2 k2 E3 k3) D
 hops:Row W (.slice (some ⟨hb,ho,none⟩) D.hops.length hc) 90 2 D.hops.length (k0d D.hops) (some hb)
 oh:oc hb = .fix
 map:MapAt mapL W mb (fun a=>if a∈D.hops.take j then some (.pointer (some ⟨lk a,0,none⟩)) else none)
 om:oc mb = .junk
 mn:w.heap.size<mb
 nodes:Row W nv 58 1 k ((List.range k).map fun v=>Value.pointer (some ⟨(T v).g,0,none⟩)) gv
 on:∀ b,gv=some b->oc b = .junk/\w.heap.size<b
 node:∀ v,v<k->NodeAt W oc v D (T v) (nst0 D)
 link:∀ a,a∈D.hops.take j->LnkAt W oc (.lnk (lc a)) (lk a) [] D.bag
 box:W.heap[w.heap.size]? = some pb
 ob:oc w.heap.size = .fix
section
variable {w:World} {o:Nat->Col} {D:PlanD} {pb:Obj} {E1 E2 E3:Option Addr} {k1 k2 k3 hb ho hc mb g:Nat} {W W':World} {oc oc':Nat->Col} {nv:Value} {gv:Option Nat} {T:Nat->NTab} {lk:Nat × Nat->Nat} {k j:Nat}
theorem NewF.tr (h:NewF w o D pb E1 k1 E2 k2 E3 k3 hb ho hc mb g W oc nv gv T lk k j) {S:Col->Prop} (t:Tr S oc W oc' W') (hS:∀ c,S c->c = .junk\/c = .fab) :
 oc' g = .fab/\PlanV W' (fun b=>oc' b = .fix) (pagg D E1 k1 E2 k2 E3 k3) D/\Row W' (.slice (some ⟨hb,ho,none⟩) D.hops.length hc) 90 2 D.hops.length (k0d D.hops) (some hb)/\oc' hb = .fix/\oc' mb = .junk /\
 (∀ v,v<k->NodeAt W' oc' v D (T v) (nst0 D))/\(∀ a,a∈D.hops.take j->LnkAt W' oc' (.lnk (lc a)) (lk a) [] D.bag)/\W'.heap[w.heap.size]? = some pb/\oc' w.heap.size = .fix/\(∀ b,gv=some b->oc' b = .junk/\w.heap.size<b)/\w.heap.size<=W.heap.size:=by
 have hfix:¬ S .fix:=fun e=>by rcases hS _ e with e | e <;> cases e
 refine ⟨(t.own _ (k03 h.blk)).trans h.og,h.plan.tr t hfix,h.hops.only t.only (fun b e=>by cases e;rw [h.oh];exact hfix),(t.own _ (h.hops.lt rfl)).trans h.oh,(t.own _ h.map.lt).trans h.om,fun v hv=>(h.node v hv).tr t hfix (fun c hc hs=>?_),fun a ha=>(h.link a ha).tr t (fun hs=>?_),t.blk h.box (by rw [h.ob];exact hfix),(t.own _ (k03 h.box)).trans h.ob,fun b e=>⟨(t.own _ (h.nodes.lt e)).trans (h.on b e).1,(h.on b e).2⟩,h.new.below.size⟩
 · rcases hS _ hs with e | e <;> subst e <;> cases hc
 · rcases hS _ hs with e | e <;> cases e
theorem NewF.blw (h:NewF w o D pb E1 k1 E2 k2 E3 k3 hb ho hc mb g W oc nv gv T lk k j) (b:Below W.heap.size W W'):NewF w o D pb E1 k1 E2 k2 E3 k3 hb ho hc mb g W' oc nv gv T lk k j:=by
 obtain ⟨a1,a2,a3,a4,a5,a6,a7,a8,a9,a10,a11⟩:=h.tr (Tr.below (S:=fun _=>False) h.new.fresh b) (fun _ x=>x.elim);exact ⟨h.new.blw b a11,a1,h.gn,(b.block _ (k03 h.blk)).trans h.blk,a2,a3,a4,h.map.of_blk (b.block _ h.map.lt),a5,h.mn,h.nodes.below b,a10,a6,a7,a8,a9⟩
theorem NewF.hop (h:NewF w o D pb E1 k1 E2 k2 E3 k3 hb ho hc mb g W oc nv gv T lk k j) (i:Nat) (a:Nat × Nat) (ha:D.hops[i]? = some a):W.cell? ⟨hb,ho+i*2,none⟩=some (.int .i64 a.1)/\W.cell? ⟨hb,ho+i*2+1,none⟩=some (.int .i64 a.2):=by
 have hi:=(List.getElem?_eq_some_iff.1 ha).1;exact zz46
theorem NewF.addNode (h:NewF w o D pb E1 k1 E2 k2 E3 k3 hb ho hc mb g W oc nv gv T lk k j) {wa wd:World} {oa:Nat->Col} {T':NTab} {vd:Value} {gd:Option Nat} (N:NewB W.heap.size oc W oa wa) (H:NodeAt wa oa k D T' (nst0 D))
 (O:Only (fun b=>gv=some b) wa wd) (R:Row wd vd 58 1 (k+1) (((List.range k).map fun v=>Value.pointer (some ⟨(T v).g,0,none⟩))++[.pointer (some ⟨T'.g,0,none⟩)]) gd) (Gd:gd=gv\/∃ b,gd=some b/\wa.heap.size<=b) :
 NewF w o D pb E1 k1 E2 k2 E3 k3 hb ho hc mb g (wd.setCell ⟨g,12,none⟩ vd) oa vd gd (upd T k T') lk (k+1) j:=by
 have hg:=k03 h.blk;have hm:=h.map.lt;have t1:Tr (fun c=>c = .junk\/c = .fab) oc W oa wa:=N.toTr.mono (fun _ x=>x.elim);have hgv:∀ b,gv=some b->oa b = .junk/\w.heap.size<b/\b<W.heap.size:=fun b e=>⟨(t1.own _ (h.nodes.lt e)).trans (h.on b e).1,(h.on b e).2,h.nodes.lt e⟩
 have t2:Tr (fun c=>c = .junk\/c = .fab) oa wa oa wd:=⟨O.mono (fun b _ e=>.inl (hgv b e).1),fun _ _=>rfl,fun b hb=>N.fresh b (Nat.le_trans O.size hb)⟩;have oga:oa g = .fab:=(t1.own _ hg).trans h.og;have t3:Tr (fun c=>c = .junk\/c = .fab) oa wd oa (wd.setCell ⟨g,12,none⟩ vd):=Tr.same t2.fresh ((k0k _ _ _ _).mono (fun b _ e=>by rw [e];exact .inr oga));have t:=(t1.trans t2).trans t3;obtain ⟨a1,a2,a3,a4,a5,a6,a7,a8,a9,a10,a11⟩:=h.tr t (fun _ x=>x);have ws:=t1.only.size;have ds:=O.size;have ngv:∀ b,gv=some b->b≠g:=fun b e e2=>by have:=(hgv b e).1;rw [e2,oga] at this;cases this
 have kg:wd.heap[g]? = W.heap[g]?:=(O.keep g zz1 (fun e=>ngv _ e rfl)).trans (N.below.block g hg);have mg:mb≠g:=fun e=>by have:=h.om;rw [e,h.og] at this;cases this
 refine ⟨⟨⟨?_,?_,?_,?_,fun b hb=>?_⟩,fun b hb=>?_,t.fresh⟩,a1,h.gn,?_,a2,a3,a4,?_,a5,h.mn,?_,?_,fun v hv=>?_,a7,a8,a9⟩
 · exact t.only.os.trans h.new.below.os
 · exact t.only.tape.trans h.new.below.tape
 · exact t.only.output.trans h.new.below.output
 · exact Nat.le_trans a11 t.only.size
 · have hg2:=h.gn
   refine (Below.heap_setCell _ _ _ _ (by show b≠g;omega)).trans ((O.keep b zz1 (fun e=>?_)).trans ((N.below.block b zz1).trans (h.new.below.block b hb)));have:=(hgv b e).2.1;exact zz1
 · rw [N.own b zz1];exact h.new.own b hb
 · have Z:=kg.trans h.blk
   exact k05 Z 12 vd
 · refine (h.map.of_blk ?_).of_blk (Below.heap_setCell _ _ _ _ mg)
   by_cases e:gv=some mb
   · exfalso
     obtain ⟨cp,hcp⟩:=(show Row W nv 58 1 k _ (some mb) from e ▸ h.nodes).blk_ty;obtain ⟨es,clock,hh,_⟩:=h.map;rw [hcp] at hh;cases hh
   · exact (O.keep mb zz1 e).trans (N.below.block mb hm)
 · have e:((List.range (k+1)).map fun v=>Value.pointer (some ⟨(upd T k T' v).g,0,none⟩))=((List.range k).map fun v=>Value.pointer (some ⟨(T v).g,0,none⟩))++[.pointer (some ⟨T'.g,0,none⟩)]:=by
    rw [List.range_succ,List.map_append];congr 1
    · refine List.map_congr_left fun v hv=>?_
      have:=List.mem_range.1 hv;rw [k06 _ _ zz1]
    · simp [k04]
   rw [e];refine R.only (k0k wd g 12 vd) (fun b e1 e2=>?_);rcases Gd with e3 | ⟨b2,e3,hb2⟩
   · exact ngv b (by rw [<- e3];exact e1) e2
   · rw [e1] at e3;cases e3;omega
 · intro b e
   rcases Gd with e3 | ⟨b2,e3,hb2⟩
   · exact ⟨(hgv b (e3 ▸ e)).1,(hgv b (e3 ▸ e)).2.1⟩
   · rw [e] at e3;cases e3
     exact ⟨N.fresh b hb2,by have:=h.gn;omega⟩
 · by_cases e:v=k
   · subst e;rw [k04]
     refine (H.tr (t2.trans t3) (fun e=>by rcases e with e | e <;> cases e) (fun c hc hs=>?_));rcases hs with e | e <;> subst e <;> cases hc
   · rw [k06 _ _ e];exact a6 v zz1
theorem NewF.addLink (G:Good D) (h:NewF w o D pb E1 k1 E2 k2 E3 k3 hb ho hc mb g W oc nv gv T lk k j) {wa wd:World} {a:Nat × Nat} (ha:D.hops[j]? = some a) (Ba:Below W.heap.size W wa)
 (M:MapAt mapL wd mb (fun x=>if x=a then some (.pointer (some ⟨wa.heap.size,0,none⟩)) else if x∈D.hops.take j then some (.pointer (some ⟨lk x,0,none⟩)) else none))
 (O:Only (fun x=>x=mb) (wa.alloc (.cells #[.slice none 0 0,.int .i64 D.bag] 119)) wd) :
 NewF w o D pb E1 k1 E2 k2 E3 k3 hb ho hc mb g wd (paint oc wa.heap.size (wa.alloc (.cells #[.slice none 0 0,.int .i64 D.bag] 119)).heap.size (.lnk (lc a))) nv gv T (fun x=>if x=a then wa.heap.size else lk x) k (j+1):=by
 have hbag:(1:Int)<=D.bag/\(D.bag:Int)<=64:=by have:=G.b0;omega
 have hg:=k03 h.blk;have hm:=h.map.lt;have t1:Tr (fun c=>c = .junk\/c = .fab) oc W oc wa:=Tr.below h.new.fresh Ba;have t2:Tr (fun c=>c = .junk\/c = .fab) oc wa (paint oc wa.heap.size (wa.alloc (.cells #[.slice none 0 0,.int .i64 D.bag] 119)).heap.size (.lnk (lc a))) (wa.alloc (.cells #[.slice none 0 0,.int .i64 D.bag] 119)):=Tr.paint _ (Only.of_below ((Below.refl _ wa).alloc (Nat.le_refl _) _));have Lk:=LnkAt.new oc (.lnk (lc a)) (D.bag:Int) wa hbag.1 hbag.2;obtain ⟨o2,ho2⟩:∃ o2,o2=paint oc wa.heap.size (wa.alloc (.cells #[.slice none 0 0,.int .i64 D.bag] 119)).heap.size (.lnk (lc a)):=⟨_,rfl⟩;obtain ⟨wb,hwb⟩:∃ wb,wb=wa.alloc (.cells #[.slice none 0 0,.int .i64 D.bag] 119):=⟨_,rfl⟩;rw [<- ho2] at t2 Lk ⊢;rw [<- hwb] at t2 Lk O;have t12:=t1.trans t2;have om2:o2 mb = .junk:=(t12.own _ hm).trans h.om;have t3:Tr (fun c=>c = .junk\/c = .fab) o2 wb o2 wd:=Tr.same t2.fresh (O.mono (fun b _ e=>by rw [e];exact .inl om2));have t:=t12.trans t3;obtain ⟨a1,a2,a3,a4,a5,a6,a7,a8,a9,a10,a11⟩:=h.tr t (fun _ x=>x);have mg:g≠mb:=fun e=>by have:=h.om;rw [<- e,h.og] at this;cases this
 have hmem:∀ x,x∈D.hops.take (j+1) ↔ x=a\/x∈D.hops.take j:=fun x=>by
  rw [List.take_add_one,ha];simp [or_comm]
 have hab:∀ b,b<wa.heap.size->wb.heap[b]? = wa.heap[b]?:=fun b hb=>by rw [hwb];exact ((Below.refl _ wa).alloc (Nat.le_refl _) _).block b hb
 have keep:∀ b,b<W.heap.size->b≠mb->wd.heap[b]? = W.heap[b]?:=fun b hb hne=>(O.keep b (Nat.lt_of_lt_of_le hb t12.only.size) hne).trans ((hab b (Nat.lt_of_lt_of_le hb t1.only.size)).trans (Ba.block b hb))
 refine ⟨⟨⟨?_,?_,?_,?_,fun b hb=>?_⟩,fun b hb=>?_,t.fresh⟩,a1,h.gn,?_,a2,a3,a4,?_,a5,h.mn,?_,a10,a6,fun x hx=>?_,a8,a9⟩
 · exact t.only.os.trans h.new.below.os
 · exact t.only.tape.trans h.new.below.tape
 · exact t.only.output.trans h.new.below.output
 · exact Nat.le_trans a11 t.only.size
 · have:=h.mn
   exact (keep b zz1 zz1).trans (h.new.below.block b hb)
 · rw [t.own b zz1];exact h.new.own b hb
 · exact (keep g hg mg).trans h.blk
 · have e:(fun x=>if x∈D.hops.take (j+1) then some (Value.pointer (some ⟨if x=a then wa.heap.size else lk x,0,none⟩)) else none)=(fun x=>if x=a then some (.pointer (some ⟨wa.heap.size,0,none⟩)) else if x∈D.hops.take j then some (.pointer (some ⟨lk x,0,none⟩)) else none):=by
    funext x;by_cases e:x=a
    · rw [if_pos ((hmem x).2 (.inl e)),if_pos e,if_pos e]
    · by_cases e2:x∈D.hops.take j
      · rw [if_pos ((hmem x).2 (.inr e2)),if_neg e,if_neg e,if_pos e2]
      · rw [if_neg (fun e3=>by rcases (hmem x).1 e3 with e4 | e4;exact e e4;exact e2 e4),if_neg e,if_neg e2]
   exact e ▸ M
 · by_cases hk:gv=none
   · rw [hk];exact (h.nodes.only (P:=fun b=>b=mb\/W.heap.size<=b) ⟨t.only.os,t.only.tape,t.only.output,t.only.size,fun b hb hne=>keep b hb (fun e=>hne (.inl e))⟩ (fun b e=>by rw [hk] at e;cases e)) |> fun r=>by rw [hk] at r;exact r
   · refine h.nodes.only (P:=fun b=>b=mb\/W.heap.size<=b) ⟨t.only.os,t.only.tape,t.only.output,t.only.size,fun b hb hne=>keep b hb (fun e=>hne (.inl e))⟩ (fun b e e2=>?_)
     rcases e2 with e2 | e2
     · subst e2
       obtain ⟨cp,hcp⟩:=(show Row W nv 58 1 k _ (some b) from e ▸ h.nodes).blk_ty;obtain ⟨es,clock,hh,_⟩:=h.map;rw [hcp] at hh;cases hh
     · have:=h.nodes.lt e;omega
 · rcases (hmem x).1 hx with e | hx'
   · subst e
     rw [if_pos rfl];exact Lk.tr t3 (fun e=>by rcases e with e | e <;> cases e)
   · by_cases e:x=a
     · subst e;rw [if_pos rfl];exact Lk.tr t3 (fun e=>by rcases e with e | e <;> cases e)
     · rw [if_neg e];exact a7 x hx'
def fst0 (D:PlanD):FSt:=⟨fun _=>nst0 D,fun _=>[],0⟩
theorem NewF.done (G:Good D) (h:NewF w o D pb E1 k1 E2 k2 E3 k3 hb ho hc mb g W oc nv gv T lk D.nodes D.hops.length):∃ F o',FabAt W o' D F (fst0 D)/\NewB w.heap.size o w o' W/\F.g=g:=by
 have hn:=G.n0;obtain ⟨vb,vo,vc,hgv,hA,_,_,_⟩:=h.nodes.open zz1;subst hgv;subst hA;have hmem:∀ a,a∈D.hops->a∈D.hops.take D.hops.length:=fun a ha=>by rw [List.take_length];exact ha
 obtain ⟨o',ho'⟩:∃ o':Nat->Col,o'=fun b=>if b=mb\/b=vb then .fix else oc b:=⟨_,rfl⟩
 have hov:=h.on vb rfl;have om':o' mb = .fix:=by rw [ho'];simp
 have ov':o' vb = .fix:=by rw [ho'];simp
 have rc:k4a oc o':=fun b c hc e=>by
  rw [ho'];show (if b=mb\/b=vb then Col.fix else oc b)=c;rw [if_neg];exact e;rintro (e2 | e2)
  · rw [e2,h.om] at e;exact hc e.symm
  · rw [e2,hov.1] at e;exact hc e.symm
 refine ⟨⟨g,mb,vb,vo,vc,hb,ho,hc,E1,k1,E2,k2,E3,k3,T,lk⟩,o',⟨rc _ _ zz17 h.og,h.blk,h.plan.mono (fun b hb=>rc _ _ zz17 hb),h.hops,rc _ _ zz17 h.oh,h.nodes,ov',?_,om',fun v hv=>(h.node v hv).recol rc,fun a ha=>(h.link a (hmem a ha)).recol rc zz17⟩,⟨h.new.below,fun b hb=>?_,fun b hb=>?_⟩,rfl⟩
 · have:=h.map
   rw [List.take_length] at this;exact this
 · have:=h.mn
   rw [ho'];show (if b=mb\/b=vb then Col.fix else oc b)=o b;rw [if_neg zz1];exact h.new.own b hb
 · have h1:=h.map.lt
   have h2:=h.nodes.lt rfl;rw [ho'];show (if b=mb\/b=vb then Col.fix else oc b)=_;rw [if_neg zz1];exact h.new.fresh b hb
end
section
variable {w:World} {o:Nat->Col} {D:PlanD} {F:FTab} {st:FSt}
theorem set11 {W:World} {b:Nat} {D:PlanD} {E1 E2 E3:Option Addr} {k1 k2 k3:Nat} {cur:Array Value} (h:W.heap[b]? = some (.cells cur 32 (0,0))) (hs:cur.size=11) :
 ((((((((((((W.setCell ⟨b,0,none⟩ (.int .i64 D.nodes)).setCell ⟨b,1,none⟩ (.slice E1 D.edges.length k1)).setCell ⟨b,2,none⟩ (.int .i64 D.lanes)).setCell ⟨b,3,none⟩ (.int .i64 D.room)).setCell ⟨b,4,none⟩ (.int .i64 D.queue)).setCell ⟨b,5,none⟩ (.int .i64 D.rounds)).setCell ⟨b,6,none⟩ (.int .i64 D.every)).setCell ⟨b,7,none⟩ (.int .i64 D.bag)).setCell ⟨b,8,none⟩ (.slice E2 D.weights.length k2)).setCell ⟨b,9,none⟩ (.int .u16 D.start)).setCell ⟨b,10,none⟩ (.slice E3 D.next.length k3))).heap[b]? = some (.cells #[.int .i64 D.nodes,.slice E1 D.edges.length k1,.int .i64 D.lanes,.int .i64 D.room,.int .i64 D.queue,.int .i64 D.rounds,.int .i64 D.every,.int .i64 D.bag,.slice E2 D.weights.length k2,.int .u16 D.start,.slice E3 D.next.length k3] 32 (0,0))/\Only (fun x=>x=b) W (((((((((((W.setCell ⟨b,0,none⟩ (.int .i64 D.nodes)).setCell ⟨b,1,none⟩ (.slice E1 D.edges.length k1)).setCell ⟨b,2,none⟩ (.int .i64 D.lanes)).setCell ⟨b,3,none⟩ (.int .i64 D.room)).setCell ⟨b,4,none⟩ (.int .i64 D.queue)).setCell ⟨b,5,none⟩ (.int .i64 D.rounds)).setCell ⟨b,6,none⟩ (.int .i64 D.every)).setCell ⟨b,7,none⟩ (.int .i64 D.bag)).setCell ⟨b,8,none⟩ (.slice E2 D.weights.length k2)).setCell ⟨b,9,none⟩ (.int .u16 D.start)).setCell ⟨b,10,none⟩ (.slice E3 D.next.length k3)):=by
 obtain ⟨l⟩:=cur;obtain ⟨x0,x1,x2,x3,x4,x5,x6,x7,x8,x9,x10,rfl⟩:∃ x0 x1 x2 x3 x4 x5 x6 x7 x8 x9 x10,l=[x0,x1,x2,x3,x4,x5,x6,x7,x8,x9,x10]:=by
  match l,hs with
  | [x0,x1,x2,x3,x4,x5,x6,x7,x8,x9,x10],_=>exact ⟨x0,x1,x2,x3,x4,x5,x6,x7,x8,x9,x10,rfl⟩
 have Z0:=h;have Z1:=k05 Z0 0 (.int .i64 D.nodes);simp only [List.setIfInBounds_toArray,List.set_cons_zero,List.set_cons_succ] at Z1;have Z2:=k05 Z1 1 (.slice E1 D.edges.length k1);simp only [List.setIfInBounds_toArray,List.set_cons_zero,List.set_cons_succ] at Z2;have Z3:=k05 Z2 2 (.int .i64 D.lanes);simp only [List.setIfInBounds_toArray,List.set_cons_zero,List.set_cons_succ] at Z3;have Z4:=k05 Z3 3 (.int .i64 D.room);simp only [List.setIfInBounds_toArray,List.set_cons_zero,List.set_cons_succ] at Z4;have Z5:=k05 Z4 4 (.int .i64 D.queue);simp only [List.setIfInBounds_toArray,List.set_cons_zero,List.set_cons_succ] at Z5;have Z6:=k05 Z5 5 (.int .i64 D.rounds);simp only [List.setIfInBounds_toArray,List.set_cons_zero,List.set_cons_succ] at Z6;have Z7:=k05 Z6 6 (.int .i64 D.every);simp only [List.setIfInBounds_toArray,List.set_cons_zero,List.set_cons_succ] at Z7;have Z8:=k05 Z7 7 (.int .i64 D.bag);simp only [List.setIfInBounds_toArray,List.set_cons_zero,List.set_cons_succ] at Z8;have Z9:=k05 Z8 8 (.slice E2 D.weights.length k2);simp only [List.setIfInBounds_toArray,List.set_cons_zero,List.set_cons_succ] at Z9;have Z10:=k05 Z9 9 (.int .u16 D.start);simp only [List.setIfInBounds_toArray,List.set_cons_zero,List.set_cons_succ] at Z10;have Z11:=k05 Z10 10 (.slice E3 D.next.length k3);simp only [List.setIfInBounds_toArray,List.set_cons_zero,List.set_cons_succ] at Z11;refine ⟨Z11,?_⟩;have o0:Only (fun x=>x=b) W W:=Only.refl _ _;have o1:=o0.set (p:=⟨b,0,none⟩) (fun _=>rfl) (.int .i64 D.nodes);have o2:=o1.set (p:=⟨b,1,none⟩) (fun _=>rfl) (.slice E1 D.edges.length k1);have o3:=o2.set (p:=⟨b,2,none⟩) (fun _=>rfl) (.int .i64 D.lanes);have o4:=o3.set (p:=⟨b,3,none⟩) (fun _=>rfl) (.int .i64 D.room);have o5:=o4.set (p:=⟨b,4,none⟩) (fun _=>rfl) (.int .i64 D.queue);have o6:=o5.set (p:=⟨b,5,none⟩) (fun _=>rfl) (.int .i64 D.rounds);have o7:=o6.set (p:=⟨b,6,none⟩) (fun _=>rfl) (.int .i64 D.every);have o8:=o7.set (p:=⟨b,7,none⟩) (fun _=>rfl) (.int .i64 D.bag);have o9:=o8.set (p:=⟨b,8,none⟩) (fun _=>rfl) (.slice E2 D.weights.length k2);have o10:=o9.set (p:=⟨b,9,none⟩) (fun _=>rfl) (.int .u16 D.start);have o11:=o10.set (p:=⟨b,10,none⟩) (fun _=>rfl) (.slice E3 D.next.length k3);exact o11
theorem k39 (H:FabAt w o D F st) (G:Good D) (hf:Fresh o w) :
 Calls Tryz.prog 44 #[.pointer (some ⟨F.g,0,none⟩)] w fun e w'=>∃ E1 k1 E2 k2 E3 k3,e = .returned (pagg D E1 k1 E2 k2 E3 k3)/\PlanV w' (fun b=>w.heap.size<=b) (pagg D E1 k1 E2 k2 E3 k3) D/\Below w.heap.size w w':=by
 have L1:=Ab ((Below.refl w.heap.size w).alloc (Nat.le_refl _) (.cells #[.int .i64 0,.slice none 0 0,.int .i64 0,.int .i64 0,.int .i64 0,.int .i64 0,.int .i64 0,.int .i64 0,.slice none 0 0,.int .u16 0,.slice none 0 0] 32));have Z1:=Ab (heap_alloc_new w (.cells #[.int .i64 0,.slice none 0 0,.int .i64 0,.int .i64 0,.int .i64 0,.int .i64 0,.int .i64 0,.int .i64 0,.slice none 0 0,.int .u16 0,.slice none 0 0] 32));have H1:=Ab (H.blw hf L1.out);have b0:=fun j=>k00 H1.out.blk j
 have HG:=Ab G;have hne:F.g<w.heap.size:=k03 H.blk;have HF:=Ab H.plan;clear H G hf;go_enter Tryz.func44,Tryz.ntmps44
 go_wp2_with (go_at_call 36;refine (k2J _ _ D _ (HF.out.below L1.out) HG.out).mono ?_;rintro e wC ⟨vC,rfl,hpC,hbC⟩;obtain ⟨E1,k1,E2,k2,E3,k3,rfl⟩:=hpC.shape;have BC:=Ab (show Below w.heap.size w wC from L1.out.trans (hbC.mono L1.out.size));have PC:=Ab (hpC.mono (fun b hb=>show w.heap.size+1<=b from (by simpa using hb)));have ZC:=Ab ((hbC.block _ zz17).trans Z1.out);have c6:=fun j=>k00 ZC.out j;have f6:=fun j=>k02 ZC.out j;clear hpC hbC)
 obtain ⟨ZF,oF⟩:=set11 (D:=D) (E1:=E1) (E2:=E2) (E3:=E3) (k1:=k1) (k2:=k2) (k3:=k3) ZC.out rfl;obtain ⟨wf,hwf⟩:∃ wf,wf=(((((((((((wC.setCell ⟨w.heap.size,0,none⟩ (.int .i64 D.nodes)).setCell ⟨w.heap.size,1,none⟩ (.slice E1 D.edges.length k1)).setCell ⟨w.heap.size,2,none⟩ (.int .i64 D.lanes)).setCell ⟨w.heap.size,3,none⟩ (.int .i64 D.room)).setCell ⟨w.heap.size,4,none⟩ (.int .i64 D.queue)).setCell ⟨w.heap.size,5,none⟩ (.int .i64 D.rounds)).setCell ⟨w.heap.size,6,none⟩ (.int .i64 D.every)).setCell ⟨w.heap.size,7,none⟩ (.int .i64 D.bag)).setCell ⟨w.heap.size,8,none⟩ (.slice E2 D.weights.length k2)).setCell ⟨w.heap.size,9,none⟩ (.int .u16 D.start)).setCell ⟨w.heap.size,10,none⟩ (.slice E3 D.next.length k3)):=⟨_,rfl⟩;rw [<- hwf] at ZF oF ⊢;refine bodyPost_ret (results_cell_row rfl _ _ w.heap.size 32 _ (0,0) _ rfl ZF Tryz.underlying32 rfl zz3) rfl ?_;refine ⟨E1,k1,E2,k2,E3,k3,rfl,(PC.out.keep (fun b hb hb2=>oF.keep b hb zz1)).mono (fun b hb=>by omega),?_⟩;refine ⟨oF.os.trans BC.out.os,oF.tape.trans BC.out.tape,oF.output.trans BC.out.output,Nat.le_trans BC.out.size oF.size,fun b hb=>(oF.keep b (Nat.lt_of_lt_of_le hb BC.out.size) zz1).trans (BC.out.block b hb)⟩
end
structure PTab where
 g:Nat
 A1:Option Addr
 c1:Nat
 A2:Option Addr
 c2:Nat
 A3:Option Addr
 c3:Nat
abbrev k5s (D:PlanD) (F:FTab) (Y:PTab) (sv:Value) (ov:Int):Obj:=.cells #[.int .i64 D.nodes,.slice Y.A1 D.edges.length Y.c1,.int .i64 D.lanes,.int .i64 D.room,.int .i64 D.queue,.int .i64 D.rounds,.int .i64 D.every,.int .i64 D.bag,.slice Y.A2 D.weights.length Y.c2,.int .u16 D.start,.slice Y.A3 D.next.length Y.c3,.pointer (some ⟨F.g,0,none⟩),sv,.int .i64 ov] 36 (0,0)
structure PlayAt (w:World) (o:Nat->Col) (D:PlanD) (F:FTab) (Y:PTab) (st:FSt) (S:List Pk) (sv:Value) (gs:Option Nat) (ov:Int):Prop where
 og:o Y.g = .junk
 blk:w.heap[Y.g]? = some (k5s D F Y sv ov)
 plan:PlanV w (fun b=>o b = .fix) (pagg D Y.A1 Y.c1 Y.A2 Y.c2 Y.A3 Y.c3) D
 sent:Row w sv 40 4 S.length (k0W S) gs
 os:∀ b,gs=some b->o b = .junk
 fab:FabAt w o D F st
 fresh:Fresh o w
 tab:Tab w
 o0:o 0 = .fix
section
variable {w w':World} {o o':Nat->Col} {D:PlanD} {F:FTab} {Y:PTab} {st st':FSt} {S:List Pk} {sv:Value} {gs:Option Nat} {ov:Int}
theorem PlayAt.fabTo {T:Col->Prop} (h:PlayAt w o D F Y st S sv gs ov) (t:Tr T o w o' w') (hf:¬ T .fix) (hj:¬ T .junk) (k:FabAt w' o' D F st'):PlayAt w' o' D F Y st' S sv gs ov where
 og:=(t.own _ (k03 h.blk)).trans h.og
 blk:=t.blk h.blk (by rw [h.og];exact hj)
 plan:=h.plan.tr t hf
 sent:=h.sent.only t.only (fun b e=>by rw [h.os b e];exact hj)
 os:=fun b e=>(t.own _ (h.sent.lt e)).trans (h.os b e)
 fab:=k
 fresh:=t.fresh
 tab:=h.tab.tr t (by rw [h.o0];exact hf)
 o0:=(t.own _ h.tab.lt).trans h.o0
theorem PlayAt.blw (h:PlayAt w o D F Y st S sv gs ov) (b:Below w.heap.size w w'):PlayAt w' o D F Y st S sv gs ov:=
 h.fabTo (Tr.below (S:=fun _=>False) h.fresh b) (fun x=>x) (fun x=>x) (h.fab.blw h.fresh b)
theorem PlayAt.junkTo (h:PlayAt w o D F Y st S sv gs ov) (t:Tr (fun c=>c = .junk) o w o w'):FabAt w' o D F st/\PlanV w' (fun b=>o b = .fix) (pagg D Y.A1 Y.c1 Y.A2 Y.c2 Y.A3 Y.c3) D/\Fresh o w'/\Tab w':=
 ⟨h.fab.tr t zz17 zz17 (fun v c hc e=>by rw [e] at hc;cases hc) zz17,h.plan.tr t zz17,t.fresh,h.tab.tr t (by rw [h.o0];simp)⟩
theorem PlayAt.sent_ne (h:PlayAt w o D F Y st S sv gs ov):∀ b,gs=some b->b≠Y.g:=fun b e=>by
 subst e;obtain ⟨cp,hcp⟩:=h.sent.blk_ty;exact k0v hcp h.blk zz8
theorem PlayAt.overTo (h:PlayAt w o D F Y st S sv gs ov) (x:Int):PlayAt (w.setCell ⟨Y.g,13,none⟩ (.int .i64 x)) o D F Y st S sv gs x:=by
 have t:Tr (fun c=>c = .junk) o w o (w.setCell ⟨Y.g,13,none⟩ (.int .i64 x)):=Tr.same h.fresh ((k0k _ _ _ _).mono (fun b _ e=>by rw [e];exact h.og));obtain ⟨a,b,c,d⟩:=h.junkTo t;exact ⟨h.og,k05 h.blk 13 _,b,h.sent.only (k0k w Y.g 13 _) (fun b e e2=>h.sent_ne b e e2),h.os,a,c,d,h.o0⟩
theorem PlayAt.overTr (h:PlayAt w o D F Y st S sv gs ov) (x:Int):Tr (fun c=>c = .junk) o w o (w.setCell ⟨Y.g,13,none⟩ (.int .i64 x)):=Tr.same h.fresh ((k0k _ _ _ _).mono (fun b _ e=>by rw [e];exact h.og))
def k3s (c:Col):Prop:=k1f c\/c = .junk
theorem k1o:¬ k1f .fix:=by
 rintro (⟨v,h⟩ | ⟨n,h⟩ | h)
 · exact zz45
 · exact zz45
 · exact zz45
theorem k2Z:¬ k1f .junk:=by
 rintro (⟨v,h⟩ | ⟨n,h⟩ | h)
 · exact zz45
 · exact zz45
 · exact zz45
theorem k69:¬ k3s .fix:=by
 rintro (h | h)
 · exact k1o h
 · exact zz45
def kcm (R:FSt->Prop) (w:World) (o:Nat->Col) (D:PlanD) (F:FTab) (Y:PTab) (S:List Pk) (sv:Value) (gs:Option Nat) (e:Ending) (w':World):Prop:=
 e = .returned (.tuple #[])/\∃ o' st' ov',R st'/\PlayAt w' o' D F Y st' S sv gs ov'/\Tr k3s o w o' w'
theorem k8r {Sh:List Pk} (P:Nat->Nat->List Nat) (M:Int) (C:Nat) (H:PlayAt w o D F Y st S sv gs ov) (G:Good D) (W:Ways D P) (K:Holds D P Sh M C st) (hM:M+6<=D.start+30000) (hC:C+6<=9000) :
 Calls Tryz.prog 9 #[.pointer (some ⟨Y.g,0,none⟩)] w (kcm (fun st'=>k6o D st st'/\Holds D P Sh (M+6) (C+6) st') w o D F Y S sv gs):=by
 have hs1:=G.s1;have htk:=K.tk;have ct:=k7u M C H.fab G H.fresh K.fok K.lok H.tab H.o0 zz1 hC (fun v hv=>by have:=htk.1 v hv;omega) (by have:=htk.2;omega);have HA:=Ab (show _/\_/\_/\_ from ⟨H,G,W,K⟩);have HM:=Ab (show M+6<=1000000/\M+6<=D.start+30000 from ⟨zz1,hM⟩);have hn6:D.hops.length<=30:=by have:=k0N D G D.nodes (Nat.le_refl _);have:=G.n1;unfold PlanD.hops;omega
 obtain ⟨n,hn⟩:∃ n,n=D.hops.length:=⟨_,rfl⟩;rw [<- hn] at hn6;have HN:=Ab hn;have b0:=fun j=>k00 H.blk j
 clear hn H G W K hs1 htk hM hC;go_enter Tryz.func9,Tryz.ntmps9
 go_wp2_with (go_at_call 24;refine ct.mono ?_;rintro e w1 ⟨o1,s1,rfl,hr,hfa,hok,htr⟩;have K1:=Ab (show k8g D st s1/\Holds D P Sh (M+6) (C+6) s1/\PlayAt w1 o1 D F Y s1 S sv gs ov/\Tr k3s o w o1 w1 from ⟨hr,HA.out.2.2.2.tick HA.out.2.1 HA.out.2.2.1 HM.out.1 hr,HA.out.1.fabTo htr k1o k2Z hfa,htr.mono (fun c h=>.inl h)⟩);clear hr hfa hok htr ct b0)
 go_loopw [2] (fun s2 wr=>∃ (i:Nat) (oc:Nat->Col) (s:FSt) (ov':Int),i<=n/\s2 = .int .i64 i/\k08 (DelHops D i s1 s/\Holds D P Sh (M+6) (C+6) s/\PlayAt wr oc D F Y s S sv gs ov'/\Tr k3s o w oc wr)) (fun s2 _=>n-ixOf s2)
 case atStart=>exact ⟨0,o1,s1,ov,zz1,rfl,⟨rfl,K1.out.2.1,K1.out.2.2.1,K1.out.2.2.2⟩⟩
 case round=>
  obtain ⟨i,oc,s,ov',hi,rfl,R⟩:=hrel;have b0:=fun j=>k00 R.out.2.2.1.blk j
  have ch:=k5O R.out.2.2.1.fab HA.out.2.1;by_cases hlt:i<n
  · have e1:(i:Int)<(n:Int):=by omega
    obtain ⟨a,ha⟩:∃ a,D.hops[i]? = some a:=⟨_,List.getElem?_eq_getElem zz29⟩;have HH:=Ab ha;clear ha
    go_wp2_with (first
     | (go_at_call 26;refine (k5H (L3.out.2.fab.link a (List.mem_of_getElem? HH.out))).mono ?_;rintro e w4 ⟨A4,k4,rfl,_,hb4⟩;have L4:=Ab (show Below wr.heap.size wr w4/\PlayAt w4 oc D F Y s S sv gs ov' from ⟨L3.out.1.trans (hb4.mono L3.out.1.size),L3.out.2.blw hb4⟩);clear hb4)
     | (go_at_call 17;refine (k3j L2.out.2.fab HA.out.2.1 i a HH.out).mono ?_;rintro e w3 ⟨rfl,hb3⟩;have L3:=Ab (show Below wr.heap.size wr w3/\PlayAt w3 oc D F Y s S sv gs ov' from ⟨L2.out.1.trans (hb3.mono L2.out.1.size),L2.out.2.blw hb3⟩);clear hb3)
     | (go_at_call 25;refine ch.mono ?_;rintro e w2 ⟨v2,g2,rfl,hr2,hb2,_⟩;rw [<- HN.out] at hr2;obtain ⟨A2,k2,rfl,_⟩:=hr2.size;have L2:=Ab (show Below wr.heap.size wr w2/\PlayAt w2 oc D F Y s S sv gs ov' from ⟨hb2,R.out.2.2.1.blw hb2⟩);have b2:=fun j=>k00 L2.out.2.blk j;clear hr2 hb2 ch b0))
    obtain ⟨m,hm⟩:∃ m,m=(s.link a).length:=⟨_,rfl⟩;have hm64:m<=64:=by
     obtain ⟨_,_,_,es,_,_,_,h1,_,_,h2,_⟩:=R.out.2.2.1.fab.link a (List.mem_of_getElem? HH.out);have hb:=HA.out.2.1.b0;rw [hm,h1,List.length_map];exact zz1
    have HMM:=Ab hm;rw [<- hm];clear hm
    go_loopw [4] (fun s4 wr=>∃ (j:Nat) (oq:Nat->Col) (s2:FSt) (ov2:Int),j<=m/\s4 = .int .i64 j/\k08 (DelN D a j s s2/\Holds D P Sh (M+6) (C+6) s2/\PlayAt wr oq D F Y s2 S sv gs ov2/\Tr k3s o w oq wr)) (fun s4 _=>m-ixOf s4)
    case atStart=>exact ⟨0,oc,s,ov',zz1,rfl,⟨rfl,R.out.2.1,L4.out.2,R.out.2.2.2.trans (Tr.below R.out.2.2.1.fresh L4.out.1)⟩⟩
    case round=>
     try clear b2
     obtain ⟨j,oq,s2,ov2,hj,rfl,Q⟩:=hrel;have b3:=fun j=>k00 Q.out.2.2.1.blk j
     by_cases hlj:j<m
     · have e2:(j:Int)<(m:Int):=by omega
       have hln:=Q.out.1.len;have cd:=k4n i 0 a (M+6) (C+6) Q.out.2.2.1.fab HA.out.2.1 Q.out.2.2.1.fresh Q.out.2.1.fok Q.out.2.1.lok HH.out (by have:=HMM.out;omega);clear hln
       go_wp2_with (go_at_call 27;refine cd.mono ?_;rintro e w5 ⟨c5,o5,s5,rfl,hr5,hf5,ht5⟩;have K5:=Ab (show k1B D a 0 s2 s5/\PlayAt w5 o5 D F Y s5 S sv gs ov2/\Tr k3s oq _ o5 w5 from ⟨hr5,Q.out.2.2.1.fabTo ht5 (fun h=>k1o (k1S h)) (fun h=>k2Z (k1S h)) hf5,ht5.mono (fun c h=>.inl (k1S h))⟩);have b5:=fun j=>k00 K5.out.2.1.blk j;have f5:=fun j=>k02 K5.out.2.1.blk j;clear hr5 hf5 ht5 cd b3;(by_cases hc5:c5=61))
       all_goals first
        | (refine ⟨⟨j+1,o5,s5,_,zz1,rfl,⟨⟨s2,Q.out.1,K5.out.1⟩,Q.out.2.1.del HA.out.2.1 HA.out.2.2.1 HM.out.2 (List.mem_of_getElem? HH.out) K5.out.1,K5.out.2.1.overTo _,Q.out.2.2.2.trans (K5.out.2.2.trans ((K5.out.2.1.overTr _).mono (fun c h=>.inr h)))⟩⟩,?_⟩
           show m-ixOf (.int .i64 ((j:Int)+1))<m-ixOf (.int .i64 (j:Int));simp only [ixOf];omega)
        | (refine ⟨⟨j+1,o5,s5,_,zz1,rfl,⟨⟨s2,Q.out.1,K5.out.1⟩,Q.out.2.1.del HA.out.2.1 HA.out.2.2.1 HM.out.2 (List.mem_of_getElem? HH.out) K5.out.1,K5.out.2.1,Q.out.2.2.2.trans K5.out.2.2⟩⟩,?_⟩
           show m-ixOf (.int .i64 ((j:Int)+1))<m-ixOf (.int .i64 (j:Int));simp only [ixOf];omega)
     · have e2:¬ (j:Int)<(m:Int):=by omega
       obtain rfl:m=j:=by omega
       go_wp2;refine ⟨⟨i+1,oq,s2,ov2,zz1,rfl,⟨⟨s,a,R.out.1,HH.out,by rw [<- HMM.out];exact Q.out.1⟩,Q.out.2⟩⟩,?_⟩;exact zz20
  · have e1:¬ (i:Int)<(n:Int):=by omega
    obtain rfl:n=i:=by omega
    go_wp2_with (go_at_call 25;refine ch.mono ?_;rintro e w2 ⟨v2,g2,rfl,hr2,hb2,_⟩;rw [<- HN.out] at hr2;obtain ⟨A2,k2,rfl,_⟩:=hr2.size;have L2:=Ab (show Below wr.heap.size wr w2/\PlayAt w2 oc D F Y s S sv gs ov' from ⟨hb2,R.out.2.2.1.blw hb2⟩);clear hr2 hb2 ch b0)
    go_end0;exact ⟨rfl,oc,s,ov',⟨⟨s1,K1.out.1,by rw [<- HN.out];exact R.out.1⟩,R.out.2.1⟩,L2.out.2,R.out.2.2.2.trans (Tr.below R.out.2.2.1.fresh L2.out.1)⟩
end
end Go.Proofs.YtdopmlopafgonaaGreatDoor.Own
