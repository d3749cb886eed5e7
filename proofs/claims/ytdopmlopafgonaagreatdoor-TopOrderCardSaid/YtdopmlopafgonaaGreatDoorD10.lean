/- TopOrder: of each flow what came is some of what was injected, in its order (a part of the walks and of the plain laws). -/
import Derived.Test.YtdopmlopafgonaaGreatDoorD0
import Derived.Test.YtdopmlopafgonaaGreatDoorD8
set_option linter.unusedVariables false
set_option linter.unusedSimpArgs false
set_option maxHeartbeats 4000000
set_option maxRecDepth 100000
namespace Go.Proofs.YtdopmlopafgonaaGreatDoor.Own
open Go.RowKit Go.Proofs.YtdopmlopafgonaaGreatDoorW.PrintWords Go.Proofs.YtdopmlopafgonaaGreatDoorW.PrintLast Go.Proofs.YtdopmlopafgonaaGreatDoorW.PrintMore
theorem info5:(Tryz.prog.info? 5).map (fun i=>(i.zero,i.size,i.bytes))=some (some (.int .u8 0),1,1):=by kernel_rfl
theorem k9i:(Tryz.prog.info? 22).map (fun i=>(i.zero,i.size,i.bytes))=some (some (.slice none 0 0),1,24):=by kernel_rfl
def u8s(l:List Int):List Value:=l.map (Value.int .u8)
theorem k4v(v:Value)(l:List Int)(g:Option Nat)(w:World)(R:Row w v 5 1 l.length (u8s l) g)(hn:0<l.length)(hl:l.length<=1000) :
 Calls Tryz.prog 52 #[v] w fun e w'=>∃b k,e=.returned (.slice (some ⟨b,0,none⟩) l.length k)/\Row w' (.slice (some ⟨b,0,none⟩) l.length k) 5 1 l.length (u8s l) (some b)/\Below w.heap.size w w'/\w.heap.size<=b:=by
 obtain⟨b,off,cap,rfl,rfl,hc,hf,hr⟩:=R.open hn;have q1:=fun(w:World)=>Lib.run_eql_slice_nil (P:=Tryz.prog) w
 obtain⟨i0,hi,hz0,hz1,hz2⟩:=info_parts info5;have HR:k07 (∀(W:World),Below w.heap.size w W->∀j u,(u8s l)[j]? = some u->W.cell? ((⟨b,off,none⟩:Addr).add j)=some u):=Ab (fun W hb j u hj=>by
  have hjl:=(List.getElem?_eq_some_iff.1 hj).1;rw[Addr.add_lit];exact(hb.cell (p:=⟨b,off+j,none⟩) (R.lt rfl)).trans ((hr j hjl).trans hj))
 have HL:k07 ((u8s l).length=l.length):=Ab (by simp[u8s]);have H1:k07 (∀u∈u8s l,u.oneCell'=true):=Ab (fun u hu=>by obtain⟨x,_,rfl⟩:=List.mem_map.1 hu;rfl);have HO:k07 ((w.alloc (.cells #[] 5)).ownsRow w.heap.size 5 1 (.slice (some ⟨w.heap.size,0,none⟩) 0 0) 0 []):=Ab ⟨rfl,.inr ⟨_,0,#[],rfl,Nat.le_refl _,heap_alloc_new w _,Nat.le_refl _,zz6,rfl,rfl⟩⟩;clear R hr hf;go_enter Tryz.func52,Tryz.ntmps52
 go_wp2_with(at_builtin;refine wpList_append_own _ rfl _ _ 22 rfl w.heap.size 5 i0 (.int .u8 0) 1 1 Tryz.underlying22 hi hz0 hz1 hz2 rfl zz7 _ 0 [] rfl HO.1 ⟨b,off,none⟩ l.length cap (u8s l) rfl (by rw[HL.1,Nat.mul_one]) (HR.1 _ ((Below.refl _ w).alloc (Nat.le_refl _) _)) H1.1 zz79 zz1 zz6 ?_;intro v1 w1 ho hg _;rw[Nat.zero_add]at ho;have HO1:=Ab ho;have HG:=Ab hg;clear ho hg)
 go_ret;obtain⟨_,⟨_,h0⟩|⟨b',cap',cur,rfl,hb',_⟩⟩:=id HO1.1
 ·exact zz1
 ·exact⟨b',cap',rfl,Row.of_owns HO1.1,((Below.refl _ w).alloc (Nat.le_refl _) _).grown HG.1 zz6 (fun r e=>by cases e;simp),hb'⟩
structure LEl where
 v:Value
 l:List Int
 b:Nat
def LEl.ok(w:World)(o:Nat->Col)(c:Col)(e:LEl):Prop:=o e.b=c/\Row w e.v 5 1 e.l.length (u8s e.l) (some e.b)/\0<e.l.length/\e.l.length<=12
def LnkAt(w:World)(o:Nat->Col)(c:Col)(g:Nat)(rows:List (List Int))(room:Int):Prop:=
 o g=c/\∃v gr,∃es:List LEl,w.heap[g]? = some (.cells #[v,.int .i64 room] 119 (0,0))/\Row w v 22 1 es.length (es.map LEl.v) gr/\(∀b,gr=some b->o b=c)/\rows=es.map LEl.l/\(es.map LEl.b).Nodup/\(∀e∈es,e.ok w o c)/\(es.length:Int)<=room/\room<=64
theorem LEl.ok.keep{w w':World}{o o':Nat->Col}{c:Col}{e:LEl}(h:e.ok w o c)(hb:w'.heap[e.b]? = w.heap[e.b]?)(ho:o' e.b=o e.b):e.ok w' o' c:=
 ⟨ho.trans h.1,h.2.1.of_blk (fun b e'=>by cases e';exact hb),h.2.2⟩
theorem LnkAt.tr{S:Col->Prop}{w w':World}{o o':Nat->Col}{c:Col}{g:Nat}{rows:List (List Int)}{room:Int}(h:LnkAt w o c g rows room)(t:Tr S o w o' w')(hc:¬S c):LnkAt w' o' c g rows room:=by
 obtain⟨hg,v,gr,es,hh,hr,hgr,hrows,hnd,hes,hlen,hroom⟩:=h;refine⟨(t.own _ (k03 hh)).trans hg,v,gr,es,t.blk hh (by rw[hg];exact hc),hr.only t.only (fun b e=>by rw[hgr b e];exact hc),fun b e=>(t.own _ (hr.lt e)).trans (hgr b e),hrows,hnd,fun e he=>?_,hlen,hroom⟩;have he':=hes e he;have hlt:e.b<w.heap.size:=he'.2.1.lt rfl;exact he'.keep (t.only.same hlt (by rw[he'.1];exact hc)) (t.own _ hlt)
theorem k6s(b n k:Nat):∀u∈[Value.slice (some ⟨b,0,none⟩) n k],u.oneCell'=true:=by
 intro u hu;simp at hu;subst hu;rfl
theorem Row.blk_ty{w:World}{v:Value}{T sz n:Nat}{cs:List Value}{b:Nat}(h:Row w v T sz n cs (some b)):∃cur,w.heap[b]? = some (.cells cur T (0,0)):=by
 obtain⟨_,⟨_,_,h⟩|⟨b',_,_,cur,h,_,hh,_⟩⟩:=h
 ·exact zz52
 ·cases h;exact⟨cur,hh⟩
theorem kaO{w w1 w2:World}{o:Nat->Col}{c:Col}{g:Nat}{es:List LEl}{room:Int}{l:List Int}{gr g2:Option Nat}{b1 k1 k2:Nat}{A2:Option Addr}{x:Value}
 (hglt:g<w.heap.size) {vr:Value} (hR:Row w vr 22 1 es.length (es.map LEl.v) gr) (hg:o g=c) (hgr:∀b,gr=some b->o b=c) (hnd:(es.map LEl.b).Nodup) (hes:∀e∈es,e.ok w o c) (hroom:room<=64) (hr:(es.length:Int)<room) (hn:0<l.length) (hl:l.length<=12)
 (B1:Below w.heap.size w w1) (H1:Row w1 (.slice (some ⟨b1,0,none⟩) l.length k1) 5 1 l.length (u8s l) (some b1)) (G1:w.heap.size<=b1)
 (R2:Row w2 (.slice A2 (es.length+1) k2) 22 1 (es.length+1) (es.map LEl.v++[.slice (some ⟨b1,0,none⟩) l.length k1]) g2) (O2:Only (fun b=>gr=some b) w1 w2) (G2:g2=gr\/∃b,g2=some b/\w1.heap.size<=b)
 (HH:w2.heap[g]? = some (.cells #[x,.int .i64 room] 119 (0,0))) :
 ∃o',Ending.returned (.bool true)=.returned (.bool true)/\Tr (fun y=>y=c) o w o' (w2.setCell ⟨g,0,none⟩ (.slice A2 (es.length+1) k2)) /\
  LnkAt (w2.setCell ⟨g,0,none⟩ (.slice A2 (es.length+1) k2)) o' c g (es.map LEl.l++[l]) room:=by
 have O3:Only (fun b=>o b=c) w (w2.setCell ⟨g,0,none⟩ (.slice A2 (es.length+1) k2)):=((Only.of_below B1).then O2 (fun b _ e=>hgr b e)).set (fun _=>hg) _;have hsz:(w2.setCell ⟨g,0,none⟩ (.slice A2 (es.length+1) k2)).heap.size=w2.heap.size:=zz108
 have hlt:∀b,b<w2.heap.size->b<(w2.setCell ⟨g,0,none⟩ (.slice A2 (es.length+1) k2)).heap.size:=fun b h=>by rw[hsz];exact h
 have key:∀{b:Nat}{v:Value}{ll:List Int},Row w1 v 5 1 ll.length (u8s ll) (some b)->(∀b',gr=some b'->∃cur,w1.heap[b']? = some (.cells cur 22 (0,0)))->Row (w2.setCell ⟨g,0,none⟩ (.slice A2 (es.length+1) k2)) v 5 1 ll.length (u8s ll) (some b):=by
  intro b v ll h hgt;have hne:gr≠some b:=fun e=>by obtain⟨cur,hc⟩:=hgt b e;exact h.ne hc zz7 rfl
  have h2:Row w2 v 5 1 ll.length (u8s ll) (some b):=h.only O2 (fun b' e=>by cases e;exact hne);exact h2.of_blk fun b' e=>by
   cases e;exact Below.heap_setCell _ _ _ _ (fun e'=>h2.ne HH zz7 (by rw[e']))
 refine⟨paint o w.heap.size _ c,rfl,Tr.paint c O3,?_⟩;have hgt:∀b',gr=some b'->∃cur,w1.heap[b']? = some (.cells cur 22 (0,0)):=fun b' e=>by subst e;exact(hR.below B1).blk_ty
 refine⟨(k0v _ _ hglt).trans hg,_,g2,es++[⟨.slice (some ⟨b1,0,none⟩) l.length k1,l,b1⟩],k05 HH 0 _,?_,?_,zz6,?_,?_,by simp;omega,hroom⟩
 ·rw[List.length_append,List.map_append]
  exact R2.of_blk fun b e=>by
   cases e;exact Below.heap_setCell _ _ _ _ (fun e'=>R2.ne HH zz7 (by rw[e']))
 ·intro b e
  have hb2:=hlt b (R2.lt e);rcases G2 with h|⟨b',h,hb'⟩
  ·rw[h]at e
   exact k7W _ _ (by rcases Nat.lt_or_ge b w.heap.size with h'|h';exact .inl ⟨h',hgr b e⟩;exact .inr h') hb2
  ·rw[h]at e;cases e
   exact k0C _ _ (Nat.le_trans B1.size hb') hb2
 ·rw[List.map_append,List.nodup_append]
  refine⟨hnd,zz6,?_⟩;intro a ha b hb;simp at hb;obtain⟨e,he,rfl⟩:=List.mem_map.1 ha;have:=(hes e he).2.1.lt rfl;exact zz1
 ·intro e he
  rcases List.mem_append.1 he with he|he
  ·have h:=hes e he
   have hb:=h.2.1.lt rfl;exact⟨(k0v _ _ hb).trans h.1,key (h.2.1.below B1) hgt,h.2.2⟩
  ·simp at he;subst he
   exact⟨k0C _ _ G1 (hlt _ (Nat.lt_of_lt_of_le (H1.lt rfl) O2.size)),key H1 hgt,hn,hl⟩
theorem k6o(w:World)(o:Nat->Col)(c:Col)(g:Nat)(rows:List (List Int))(room:Int)(v:Value)(l:List Int)(gb:Option Nat)(hf:Fresh o w)(L:LnkAt w o c g rows room)(R:Row w v 5 1 l.length (u8s l) gb)(hn:0<l.length)(hl:l.length<=12)(hr:(rows.length:Int)<room) :
 Calls Tryz.prog 50 #[.pointer (some ⟨g,0,none⟩),v] w fun e w'=>∃o',e=.returned (.bool true)/\Tr (fun x=>x=c) o w o' w'/\LnkAt w' o' c g (rows++[l]) room:=by
 obtain⟨hg,vr,gr,es,hh,hR,hgr,rfl,hnd,hes,hlen,hroom⟩:=L;have c0:w.cell? ⟨g,0,none⟩=some vr:=k00 hh 0;have c1:w.cell? ⟨g,1,none⟩=some (.int .i64 room):=k00 hh 1;obtain⟨A,cap,rfl,hcap⟩:=hR.size;have e1:((es.length:Int) == room)=false:=by simp at hr ⊢;omega
 go_enter Tryz.func50,Tryz.ntmps50;go_wp2
 go_quiet (fail)
 go_wp2
 go_region_law (first|(refine k0w rfl _ _ 70 22 (.slice none 0 0) 1 24 rfl Tryz.underlying70 k9i rfl zz7 zz7 (.slice A es.length cap) es.length (es.map LEl.v) [.slice (some ⟨b1,0,none⟩) l.length k1] gr HR1.1 rfl rfl rfl rfl HC1.1 zz1 ?_;intro v2 w2 g2 R2 O2 G2;obtain⟨A2,k2,rfl,hk2⟩:=R2.size;have hh2:=O2.blk HH1.1 (HR1.1.ne HH1.1 zz7);have c3:=k00 hh2 0;have f3:=k02 hh2 0;have HH2:=Ab hh2;have HR2:=Ab R2;have HO2:=Ab O2;have HG2:=Ab G2;clear hh2 R2 O2 G2)|(go_simp;go_at_call 52;refine(k4v v l gb _ (R.drewN _) hn zz1).mono ?_;rintro e w1 ⟨b1,k1,rfl,hr1,hb0,hge⟩;have hb1:=undrewN hb0;have HR1:=Ab (hR.below hb1);have HC1:=Ab (k6s b1 l.length k1);have HH1:=Ab ((hb1.block g (k03 hh)).trans hh);have c2:=k01 hb1 c0;have c2a:=fun ob=>k01 ((Below.refl _ w1).alloc (Nat.le_refl _) ob) c2;have H1:=Ab hr1;have B1:=Ab hb1;have G1:=Ab hge;clear hr1 hb0 hb1 hge;simp only[]))
 all_goals clear c2 c2a c3 f3
 all_goals go_wp2
 all_goals go_ret
 all_goals exact kaO (k03 hh) hR hg hgr hnd hes hroom (by simpa using hr) hn hl B1.1 H1.1 G1.1 HR2.1 HO2.1 HG2.1 HH2.1
theorem kcU(w:World):(zeroValue 22).run Tryz.prog w=.ok (.slice none 0 0) w:=by kernel_rfl
theorem Row.setCells{w:World}{T n cap b off:Nat}{cs:List Value}{g:Option Nat}(h:Row w (.slice (some ⟨b,off,none⟩) n cap) T 1 n cs g)(k:Nat)(ys:List Value)(hk:k+ys.length<=cap) :
 ∃cur',(w.setCells b (off+k) ys).heap[b]? = some (.cells cur' T (0,0))/\off+cap<=cur'.size/\(∀j,j<k->j<n->cur'[off+j]? = cs[j]?)/\(∀j,j<ys.length->cur'[off+(k+j)]? = ys[j]?)/\(∀j,k+ys.length<=j->j<n->cur'[off+j]? = cs[j]?)/\Only (fun x=>x=b) w (w.setCells b (off+k) ys)/\g=some b:=by
 obtain⟨hl,⟨hv,_⟩|⟨b',off',cap',cur,rfl,hv,hh,hc,hs,hr⟩⟩:=h
 ·simp at hv
 ·simp only[Value.slice.injEq,Option.some.injEq,Addr.mk.injEq,true_and,and_true]at hv
  obtain⟨⟨rfl,rfl⟩,rfl⟩:=hv;obtain⟨cur',h3,h4,h5⟩:=k2c ys (off+k) w cur hh zz1;obtain⟨s1,s2,s3,s4⟩:=k22 b ys (off+k) w;have hcur:cur.toList.length=cur.size:=Array.length_toList;refine⟨cur',h3,zz1,fun j hj hn=>?_,fun j hj=>?_,fun j hj hn=>?_,⟨s1,s2,s3,by rw[s4];exact Nat.le_refl _,fun x _ hx=>k2e ys _ x hx⟩,rfl⟩
  ·rw[<- Array.getElem?_toList,h5,List.append_assoc,List.getElem?_append_left zz51,List.getElem?_take_of_lt zz1,Array.getElem?_toList]
   exact hr j zz1
  ·rw[<- Array.getElem?_toList,h5,List.getElem?_append_left zz93,List.getElem?_append_right zz51,List.length_take]
   congr 1;exact zz1
  ·rw[<- Array.getElem?_toList,h5,List.getElem?_append_right zz93,List.length_append,List.length_take,List.getElem?_drop,Array.getElem?_toList]
   rw[show off+k+ys.length+(off+j-(min (off+k) cur.toList.length+ys.length))=off+j by omega];exact hr j zz1
theorem kba{ops:Array Oper}{rest:List Oper}{o:Oper}{a:Act}{Q:Exit->Act->World->Prop}(w:World)(hgd:o.guard=none)(x:Operand)
 (ho:o.op=.call { callee:=.builtin .clear,args:=#[x],argTypes:=#[70] }) (b k n c:Nat) (hx:a.eval x=.slice (some ⟨b,k,none⟩) n c) (hn:0<n)
 (hc:∀j,j<n->(w.cell? ⟨b,k+j,none⟩).isSome=true) (hf:∀j,j<n->w.frozen? ⟨b,k+j,none⟩=false)
 (h:wpList Tryz.prog ops Q rest (a.put o.dst (.tuple #[])) (w.setCells b k (List.replicate n (.slice none 0 0)))):wpList Tryz.prog ops Q (o :: rest) a w:=by
 refine wpList_plain hgd fun K hK=>?_
 have hrun:=Lib.run_clear_slice (P:=Tryz.prog) w 70 22 o.type (.slice none 0 0) Tryz.underlying70 kcU rfl rfl b k n c hn hc hf;unfold Oper.wp;simp[execOp,ho,resolve,invoke,builtin,hx,hrun,Result.andThen];exact hK _ _ h
theorem k75{cs:List Value}{i j:Nat}(hi:i<cs.length)(hj:j<cs.length-1):(cs.eraseIdx i)[j]? = if j<i then cs[j]? else cs[j+1]?:=by
 rw[List.getElem?_eraseIdx]
theorem k8s{w:World}{b off n cap i:Nat}{cs:List Value}(R:Row w (.slice (some ⟨b,off,none⟩) n cap) 22 1 n cs (some b))(hi:i<n)(k m:Nat)(hk:k=n-1)(hm:m=1) :
 (∀j,j<m->((w.drew.setCells b (off+i) (cs.drop (i+1))).cell? ⟨b,off+k+j,none⟩).isSome=true)/\(∀j,j<m->(w.drew.setCells b (off+i) (cs.drop (i+1))).frozen? ⟨b,off+k+j,none⟩=false) /\
 Row ((w.drew.setCells b (off+i) (cs.drop (i+1))).setCells b (off+k) (List.replicate m (.slice none 0 0))) (.slice (some ⟨b,off,none⟩) (n-1) cap) 22 1 (n-1) (cs.eraseIdx i) (some b) /\
 Only (fun x=>some b=some x) w ((w.drew.setCells b (off+i) (cs.drop (i+1))).setCells b (off+k) (List.replicate m (.slice none 0 0))):=by
 subst hk hm;have hlen:=R.1;obtain⟨A,kk,he,hcap⟩:=R.size;have hcap:n<=cap:=by simp at he;omega
 clear he;obtain⟨cur1,h1,z1,p1,q1,r1,O1,_⟩:=R.drew.setCells i (cs.drop (i+1)) (by rw[List.length_drop];omega);have R1:Row (w.drew.setCells b (off+i) (cs.drop (i+1))) (.slice (some ⟨b,off,none⟩) n cap) 22 1 n (cs.eraseIdx i++[cs[n-1]' zz1]) (some b):=by
  refine⟨by rw[List.length_append,List.length_eraseIdx];simp;rw[if_pos zz1];omega,.inr ⟨b,off,cap,cur1,rfl,rfl,h1,hcap,zz1,fun j hj=>?_⟩⟩;have hle:(cs.eraseIdx i).length=n-1:=by rw[List.length_eraseIdx,if_pos zz1];omega
  rw[List.length_append,hle]at hj;simp at hj;by_cases hjl:j<n-1
  ·rw[List.getElem?_append_left zz1,k75 zz1 zz1]
   by_cases hji:j<i
   ·rw[if_pos hji];exact p1 j hji zz1
   ·rw[if_neg hji]
    have:=q1 (j-i) (by rw[List.length_drop];omega);rw[show i+(j-i)=j by omega,List.getElem?_drop,show i+1+(j-i)=j+1 by omega]at this;exact this
  ·rw[List.getElem?_append_right zz1,hle,show j-(n-1)=0 by omega,r1 j (by rw[List.length_drop];omega) zz1]
   rw[show j=n-1 by omega,List.getElem?_eq_getElem zz1];rfl
 obtain⟨cur2,h2,z2,p2,q2,r2,O2,_⟩:=R1.setCells (n-1) (List.replicate 1 (.slice none 0 0)) zz20;refine⟨fun j hj=>?_,fun j hj=>k02 h1 _,⟨by rw[List.length_eraseIdx,if_pos zz1];omega,.inr ⟨b,off,cap,cur2,rfl,rfl,h2,zz1,zz1,fun j hj=>?_⟩⟩,?_⟩
 ·rw[k00 h1,Array.getElem?_eq_getElem zz1];rfl
 ·rw[List.length_eraseIdx,if_pos zz1]at hj
  rw[p2 j zz1 zz1,List.getElem?_append_left (by rw[List.length_eraseIdx,if_pos zz1];omega)]
 ·have o1:Only (fun x=>some b=some x) w w.drew:=(Only.refl _ w).drew
  exact(o1.then O1 (fun x _ e=>by rw[e])).then O2 (fun x _ e=>by rw[e])
theorem k5I(w:World)(b off n cap i:Nat)(cs:List Value)(g:Option Nat)(R:Row w (.slice (some ⟨b,off,none⟩) n cap) 22 1 n cs g)(h1:∀u∈cs,u.oneCell'=true)(hi:i<n)(hn:n<=1000) :
 Calls Tryz.prog 55 #[.slice (some ⟨b,off,none⟩) n cap,.int .i64 i,.int .i64 ((i:Int)+1)] w fun e w'=>e=.returned (.slice (some ⟨b,off,none⟩) (n-1) cap)/\Row w' (.slice (some ⟨b,off,none⟩) (n-1) cap) 22 1 (n-1) (cs.eraseIdx i) g/\Only (fun x=>g=some x) w w':=by
 obtain⟨i0,hi0,hz0,hz1,hz2⟩:=info_parts k9i;have hlen:=R.1;obtain⟨b',off',cap',hg,hv,hcap,hf,hr⟩:=R.open zz1;simp only[Value.slice.injEq,Option.some.injEq,Addr.mk.injEq,true_and,and_true]at hv;obtain⟨⟨rfl,rfl⟩,rfl⟩:=hv;subst hg;have hne:((i:Int) == (i:Int)+1)=false:=by simp;omega
 have hp2:((i:Int)+1).toNat=i+1:=zz1
 obtain⟨A,hA,hnews⟩:∃A:Addr,(if cap=i+1 then some (⟨b,off,none⟩:Addr) else some ⟨b,off+(i+1),none⟩)=some A/\k07 (∀j u,(cs.drop (i+1))[j]? = some u->w.drew.cell? (A.add j)=some u):=by
  by_cases h:cap=i+1
  ·refine⟨⟨b,off,none⟩,by simp[h],Ab fun j u hu=>?_⟩
   rw[List.drop_eq_nil_of_le zz1]at hu;simp at hu
  ·refine⟨⟨b,off+(i+1),none⟩,by simp[h],Ab fun j u hu=>?_⟩
   have hj:=(List.getElem?_eq_some_iff.1 hu).1;rw[List.length_drop]at hj;rw[List.getElem?_drop]at hu;rw[Addr.add_lit,Nat.add_assoc];exact(hr (i+1+j) zz1).trans hu
 have s1:=Ab (show(cs.drop (i+1)).length=(n-(i+1))*1 by rw[List.length_drop];omega);have s2:=Ac (∀u∈cs.drop (i+1),u.oneCell'=true) (fun u hu=>h1 u (List.mem_of_mem_drop hu));have s3:=Ab (show ∀j,j<(cs.drop (i+1)).length->(w.drew.cell? ⟨b,off+i*1+j,none⟩).isSome=true/\w.drew.frozen? ⟨b,off+i*1+j,none⟩=false by
  intro j hj;rw[List.length_drop]at hj;refine⟨?_,hf _⟩;rw[Nat.mul_one,Nat.add_assoc];show(w.cell? _).isSome=true;rw[hr (i+j) zz1,List.getElem?_eq_getElem zz1];rfl)
 have hwr:IntKind.i64.wrap ((i:Int)+1)=(i:Int)+1:=by rw[IntKind.wrap_i64];omega
 have hic:i<=cap:=zz1
 have hp0:(0:Int)<=(i:Int)+1:=zz1
 have hp1:(i:Int)+1<=(n:Int):=zz1
 have RR:=Ab (k8s R hi (i+(n-(i+1))) (n-(i+(n-(i+1)))) zz1 zz1);have hd:n-(i+(n-(i+1)))=1:=zz1
 have en:=Ab (show i+(n-(i+1))=n-1 by omega);clear hf hr R h1;go_enter Tryz.func55,Tryz.ntmps55;go_wp2
 go_region_law (refine step_append_room rfl (.tmp 22) (.tmp 25) 70 rfl 22 i0 1 Tryz.underlying70 hi0 hz1 b off i cap (by simp[Act.eval,Act.put]) A (n-(i+1)) (cap-(i+1)) (cs.drop (i+1)) (by simp[Act.eval,Act.put]) s1.1 hnews.1 s2.1 zz1 s3.1 ?_)
 go_wp2_with(refine kba _ rfl _ rfl b (off+(i+(n-(i+1)))) (n-(i+(n-(i+1)))) (cap-(i+(n-(i+1)))) rfl zz1 RR.1.1 RR.1.2.1 ?_)
 go_ret;have h:=RR.1.2.2;simp only[hd,List.replicate]at h;exact⟨by rw[<- en.1];rfl,h⟩
section
variable{w:World}{o:Nat->Col}{c:Col}{g:Nat}{rows:List (List Int)}{room:Int}
theorem k2N(v:Value)(L:LnkAt w o c g rows room)(hr:¬(rows.length:Int)<room) :
 Calls Tryz.prog 50 #[.pointer (some ⟨g,0,none⟩),v] w fun e w'=>e=.returned (.bool false)/\Below w.heap.size w w':=by
 obtain⟨hg,vr,gr,es,hh,hR,hgr,rfl,hnd,hes,hlen,hroom⟩:=L;have c0:w.cell? ⟨g,0,none⟩=some vr:=k00 hh 0;have c1:w.cell? ⟨g,1,none⟩=some (.int .i64 room):=k00 hh 1;obtain⟨A,cap,rfl,hcap⟩:=hR.size;have e1:((es.length:Int) == room)=true:=by simp at hr ⊢;omega
 go_enter Tryz.func50,Tryz.ntmps50;go_wp2
 go_quiet (fail)
 go_wp2;go_ret;exact⟨rfl,k0e (Below.refl _ _) _⟩
theorem k3W(i:Int)(L:LnkAt w o c g rows room)(hr:i<0\/(rows.length:Int)<=i) :
 Calls Tryz.prog 30 #[.pointer (some ⟨g,0,none⟩),.int .i64 i] w fun e w'=>e=.returned (.tuple #[.slice none 0 0,.bool false])/\Below w.heap.size w w':=by
 obtain⟨hg,vr,gr,es,hh,hR,hgr,rfl,hnd,hes,hlen,hroom⟩:=L;have c0:w.cell? ⟨g,0,none⟩=some vr:=k00 hh 0;obtain⟨A,cap,rfl,hcap⟩:=hR.size;rw[List.length_map]at hr;by_cases h0:i<0
 ·go_enter Tryz.func30,Tryz.ntmps30
  go_wp2
  go_ret2
  exact⟨rfl,Below.refl _ _⟩
 ·have h1:(es.length:Int)<=i:=by omega
  go_enter Tryz.func30,Tryz.ntmps30;go_wp2
  go_ret2
  exact⟨rfl,Below.refl _ _⟩
theorem LnkAt.el{v:Value}{gr:Option Nat}{es:List LEl}(hR:Row w v 22 1 es.length (es.map LEl.v) gr)(hes:∀e∈es,e.ok w o c)(i:Nat)(hi:i<es.length) :
 ∃b off cap,v=.slice (some ⟨b,off,none⟩) es.length cap/\gr=some b/\es.length<=cap/\∃e∈es,es[i]? = some e/\∃be oe ce,e.v=.slice (some ⟨be,oe,none⟩) e.l.length ce/\e.b=be/\w.cell? ⟨b,off+i,none⟩=some (.slice (some ⟨be,oe,none⟩) e.l.length ce):=by
 obtain⟨b,off,cap,rfl,rfl,hc,hf,hr⟩:=hR.open zz1;have he:es[i]∈es:=List.getElem_mem hi;have hok:=hes _ he;obtain⟨be,oe,ce,hbe,hv,_⟩:=hok.2.1.open hok.2.2.1;refine⟨b,off,cap,rfl,rfl,hc,es[i],he,List.getElem?_eq_getElem hi,be,oe,ce,hv,by injection hbe,?_⟩;rw[hr i (by simpa using hi),List.getElem?_map,List.getElem?_eq_getElem hi,Option.map_some,hv]
theorem k3U{α β : Type}(f : α -> β)(l:List α)(i:Nat):(l.map f).eraseIdx i=(l.eraseIdx i).map f:=by
 induction l generalizing i with
 |nil=>simp
 |cons a l ih=>cases i<;>simp[ih]
theorem kbd{w1:World}{v:Value}{gr:Option Nat}{es:List LEl}{b off cap i:Nat}{x:Value}(hg:o g=c)(hgr:∀b,gr=some b->o b=c)(hnd:(es.map LEl.b).Nodup)(hes:∀e∈es,e.ok w o c)(hlen:(es.length:Int)<=room)(hroom:room<=64)(hi:i<es.length)(hf:Fresh o w)(hR:Row w v 22 1 es.length (es.map LEl.v) gr)
 (HH:w1.heap[g]? = some (.cells #[x,.int .i64 room] 119 (0,0))) (R1:Row w1 (.slice (some ⟨b,off,none⟩) (es.length-1) cap) 22 1 (es.length-1) ((es.map LEl.v).eraseIdx i) gr) (O1:Only (fun x=>gr=some x) w w1) :
 Tr (fun y=>y=c) o w o (w1.setCell ⟨g,0,none⟩ (.slice (some ⟨b,off,none⟩) (es.length-1) cap))/\LnkAt (w1.setCell ⟨g,0,none⟩ (.slice (some ⟨b,off,none⟩) (es.length-1) cap)) o c g ((es.map LEl.l).eraseIdx i) room /\
  ∀e∈es,Row (w1.setCell ⟨g,0,none⟩ (.slice (some ⟨b,off,none⟩) (es.length-1) cap)) e.v 5 1 e.l.length (u8s e.l) (some e.b):=by
 have hle:(es.eraseIdx i).length=es.length-1:=by rw[List.length_eraseIdx,if_pos hi]
 have key:∀e∈es,Row (w1.setCell ⟨g,0,none⟩ (.slice (some ⟨b,off,none⟩) (es.length-1) cap)) e.v 5 1 e.l.length (u8s e.l) (some e.b):=by
  intro e he;have h2:Row w1 e.v 5 1 e.l.length (u8s e.l) (some e.b):=(hes e he).2.1.only O1 (fun b' e'=>by
   cases e';intro h;subst h;obtain⟨cur,hc⟩:=hR.blk_ty;exact(hes e he).2.1.ne hc zz7 rfl)
  exact h2.of_blk fun b' e'=>by
   cases e';exact Below.heap_setCell _ _ _ _ (fun e'=>h2.ne HH zz7 (by rw[e']))
 refine⟨⟨(O1.mono (fun b' _ e=>hgr b' e)).set (fun _=>hg) _,fun _ _=>rfl,fun b' hb=>hf b' (Nat.le_trans O1.size zz78)⟩,⟨hg,_,gr,es.eraseIdx i,k05 HH 0 _,?_,hgr,k3U _ _ _,?_,fun e he=>?_,zz1,hroom⟩,key⟩
 ·rw[hle,<- k3U]
  exact R1.of_blk fun b e=>by
   cases e;exact Below.heap_setCell _ _ _ _ (fun e'=>R1.ne HH zz7 (by rw[e']))
 ·exact List.Nodup.sublist ((List.eraseIdx_sublist es i).map _) hnd
 ·have he':=(List.eraseIdx_sublist es i).subset he
  exact⟨(hes e he').1,key e he',(hes e he').2.2⟩
theorem k6T(i:Nat)(hf:Fresh o w)(L:LnkAt w o c g rows room)(hr:i<rows.length) :
 Calls Tryz.prog 30 #[.pointer (some ⟨g,0,none⟩),.int .i64 i] w fun e w'=>∃v l gb,e=.returned (.tuple #[v,.bool true])/\rows[i]? = some l/\Row w' v 5 1 l.length (u8s l) gb/\0<l.length/\l.length<=12/\Tr (fun x=>x=c) o w o w'/\LnkAt w' o c g (rows.eraseIdx i) room:=by
 obtain⟨hg,vr,gr,es,hh,hR,hgr,rfl,hnd,hes,hlen,hroom⟩:=L;rw[List.length_map]at hr;obtain⟨b,off,cap,rfl,rfl,hcap,e,he,hei,be,oe,ce,hev,heb,hcell⟩:=LnkAt.el hR hes i hr;have c0:w.cell? ⟨g,0,none⟩=some (.slice (some ⟨b,off,none⟩) es.length cap):=k00 hh 0;have f0:=k02 hh 0;have hll:es.length<=64:=by omega
 have h1:=Ac (∀u∈es.map LEl.v,u.oneCell'=true) (fun u hu=>by
  obtain⟨x,hx,rfl⟩:=List.mem_map.1 hu;obtain⟨_,_,_,_,hv,_⟩:=(hes x hx).2.1.open (hes x hx).2.2.1;rw[hv];rfl)
 have HE:=Ab (⟨hei,hev,heb⟩:es[i]? = some e/\e.v=_/\e.b=be);have HR:=Ab hR;have HH:=Ab hh;clear hei hev heb hR;go_enter Tryz.func30,Tryz.ntmps30
 go_wp2_with(go_at_call 54;go_in)
 refine(k5I w b off es.length cap i (es.map LEl.v) (some b) HR.1 h1.1 hr zz1).mono ?_;rintro x w1 ⟨rfl,hR1,hO1⟩;have hh1:=hO1.blk HH.1 (HR.1.ne HH.1 zz7);have R1:=Ab hR1;have O1:=Ab hO1;have HH1:=Ab hh1;have c1:=k00 hh1 0;have f1:=k02 hh1 0;clear hR1 hO1 hh1;go_wp2
 go_ret2
 obtain⟨k1,k2,k3⟩:=kbd hg hgr hnd hes hlen hroom hr hf HR.1 HH1.1 R1.1 O1.1;obtain⟨q1,q2,q3⟩:=HE.1;refine⟨_,e.l,some e.b,rfl,by rw[List.getElem?_map,q1];rfl,?_,(hes e he).2.2.1,(hes e he).2.2.2,k1,k2⟩;rw[<- q2];exact k3 e he
end
section
variable{w:World}{o:Nat->Col}{c:Col}{g:Nat}{rows:List (List Int)}{room:Int}
theorem k5K(i:Int)(L:LnkAt w o c g rows room)(hr:i<0\/(rows.length:Int)<=i) :
 Calls Tryz.prog 31 #[.pointer (some ⟨g,0,none⟩),.int .i64 i] w fun e w'=>e=.returned (.bool false)/\Below w.heap.size w w':=by
 obtain⟨hg,vr,gr,es,hh,hR,hgr,rfl,hnd,hes,hlen,hroom⟩:=L;have c0:w.cell? ⟨g,0,none⟩=some vr:=k00 hh 0;obtain⟨A,cap,rfl,hcap⟩:=hR.size;rw[List.length_map]at hr;by_cases h0:i<0
 ·go_enter Tryz.func31,Tryz.ntmps31
  go_wp2;exact zz63
 ·have h1:(es.length:Int)<=i:=by omega
  go_enter Tryz.func31,Tryz.ntmps31;go_wp2;exact zz63
theorem k8R(i:Nat)(hf:Fresh o w)(L:LnkAt w o c g rows room)(hr:i<rows.length) :
 Calls Tryz.prog 31 #[.pointer (some ⟨g,0,none⟩),.int .i64 i] w fun e w'=>∃b o',e=.returned (.bool b)/\Tr (fun x=>x=c) o w o' w'/\∃l,rows[i]? = some l/\(LnkAt w' o' c g (rows++[l]) room\/LnkAt w' o' c g rows room):=by
 have L0:=Ab L;obtain⟨hg,vr,gr,es,hh,hR,hgr,hrows,hnd,hes,hlen,hroom⟩:=L;have hr':i<es.length:=by rw[hrows,List.length_map]at hr;exact hr
 obtain⟨b,off,cap,rfl,rfl,hcap,e,he,hei,be,oe,ce,hev,heb,hcell⟩:=LnkAt.el hR hes i hr';have c0:w.cell? ⟨g,0,none⟩=some (.slice (some ⟨b,off,none⟩) es.length cap):=k00 hh 0;have hl:rows[i]? = some e.l:=by rw[hrows,List.getElem?_map,hei];rfl
 have HRe:=Ac (Row w (.slice (some ⟨be,oe,none⟩) e.l.length ce) 5 1 e.l.length (u8s e.l) (some e.b)) (hev▸(hes e he).2.1);have HL:=Ab hl;have HE:=Ab (hes e he).2.2;clear hei hev heb hR hrows hl;by_cases hroom':(rows.length:Int)<room
 ·go_enter Tryz.func31,Tryz.ntmps31
  go_wp2_with(go_at_call 54;go_in)
  refine(k6o w o c g rows room _ e.l _ hf L0.1 HRe.1 HE.1.1 HE.1.2 hroom').mono ?_;rintro x w1 ⟨o1,rfl,hT,hL⟩;have T1:=Ab hT;have L1:=Ab hL;clear hT hL;go_wp2;go_ret;exact⟨true,o1,rfl,T1.1,e.l,HL.1,.inl L1.1⟩
 ·go_enter Tryz.func31,Tryz.ntmps31
  go_wp2_with(go_at_call 54;go_in)
  refine(k2N _ L0.1 zz1).mono ?_;rintro x w1 ⟨rfl,hb⟩;have B1:=Ab hb;clear hb;go_wp2;go_ret;have t:Tr (fun x=>x=c) o w o w1:=Tr.below hf B1.1;have tn:Tr (fun x=>False) o w o w1:=Tr.below hf B1.1;exact⟨false,o,rfl,t,e.l,HL.1,.inr (L0.1.tr tn id)⟩
theorem k7V{α : Type}{l:List α}{i:Nat}{a : α}(h:l[i]? = some a):l.set i a=l:=by
 apply List.ext_getElem?;intro j;rw[List.getElem?_set];by_cases e:i=j
 ·subst e
  rw[if_pos rfl,if_pos (List.getElem?_eq_some_iff.1 h).1,h]
 ·rw[if_neg e]
theorem kaU{v:Value}{gr:Option Nat}{es:List LEl}{e:LEl}{i be oe ce:Nat}{y:Int}(hh:w.heap[g]? = some (.cells #[v,.int .i64 room] 119 (0,0)))(hg:o g=c)(hgr:∀b,gr=some b->o b=c)(hnd:(es.map LEl.b).Nodup)(hes:∀e∈es,e.ok w o c)(hlen:(es.length:Int)<=room)(hroom:room<=64)(hf:Fresh o w)(hR:Row w v 22 1 es.length (es.map LEl.v) gr)
 (hei:es[i]? = some e) (hev:e.v=.slice (some ⟨be,oe,none⟩) e.l.length ce) (heb:e.b=be) (he:e∈es) :
 Tr (fun y=>y=c) o w o (w.setCell ⟨be,oe,none⟩ (.int .u8 y))/\LnkAt (w.setCell ⟨be,oe,none⟩ (.int .u8 y)) o c g ((es.map LEl.l).set i (e.l.set 0 y)) room:=by
 subst heb;have hok:=hes e he;have hne:g≠e.b:=fun e'=>by
  subst e';exact hok.2.1.ne hh zz7 rfl
 have hi:i<es.length:=(List.getElem?_eq_some_iff.1 hei).1;refine⟨⟨(Only.refl _ w).set (fun _=>hok.1) _,fun _ _=>rfl,fun b' hb=>hf b' zz78⟩,hg,v,gr,es.set i ⟨e.v,e.l.set 0 y,e.b⟩,(Below.heap_setCell _ _ _ _ hne).trans hh,?_,hgr,?_,?_,?_,by rw[List.length_set];exact hlen,hroom⟩
 ·have hv:(es.set i ⟨e.v,e.l.set 0 y,e.b⟩).map LEl.v=es.map LEl.v:=by
   rw[List.map_set];exact k7V (by rw[List.getElem?_map,hei];rfl)
  rw[List.length_set,hv];exact hR.of_blk fun b' e'=>by
   subst e';obtain⟨cur,hc⟩:=hR.blk_ty;exact Below.heap_setCell _ _ _ _ (fun e'=>hok.2.1.ne (e'▸hc) zz7 rfl)
 ·rw[List.map_set]
 ·rw[List.map_set]
  have:(es.map LEl.b).set i e.b=es.map LEl.b:=k7V (by rw[List.getElem?_map,hei];rfl);rw[this];exact hnd
 ·intro x hx
  obtain⟨j,hj,hjx⟩:=List.mem_iff_getElem.1 hx;rw[List.length_set]at hj;rw[List.getElem_set]at hjx;by_cases hij:i=j
  ·rw[if_pos hij]at hjx
   subst hjx;refine⟨hok.1,?_,by simpa using hok.2.2.1,by simpa using hok.2.2.2⟩;have h:=hok.2.1;rw[hev]at h;have h2:=h.set 0 (by simp[u8s];exact hok.2.2.1) (.int .u8 y);simp only[Nat.add_zero]at h2;show Row _ e.v 5 1 (e.l.set 0 y).length (u8s (e.l.set 0 y)) (some e.b);rw[hev,List.length_set,show u8s (e.l.set 0 y)=(u8s e.l).set 0 (.int .u8 y) from List.map_set ..];exact h2
  ·rw[if_neg hij]at hjx
   subst hjx;have hm:es[j]∈es:=List.getElem_mem hj;have hbne:es[j].b≠e.b:=by
    intro hb;have h1:(es.map LEl.b)[i]'(by simpa using hi)=(es.map LEl.b)[j]' zz83:=by
     rw[List.getElem_map,List.getElem_map,hb];rw[List.getElem?_eq_getElem hi]at hei;injection hei with hei
     rw[hei]
    exact hij ((List.getElem_inj hnd).1 h1)
   exact(hes _ hm).keep (Below.heap_setCell _ _ _ _ hbne) rfl
theorem kaq(op:BinOp)(a b:Int):0<=bits op .u8 a b/\bits op .u8 a b<=255:=by
 exact lo8 (wf_bits op .u8 a b)
theorem kaa(i:Nat)(x:Int)(hf:Fresh o w)(L:LnkAt w o c g rows room)(hr:i<rows.length)(hx:x≠0) :
 Calls Tryz.prog 32 #[.pointer (some ⟨g,0,none⟩),.int .i64 i,.int .i64 0,.int .u8 x] w fun e w'=>e=.returned (.bool true)/\Tr (fun x=>x=c) o w o w'/\∃l y,rows[i]? = some l/\0<=y/\y<=255/\LnkAt w' o c g (rows.set i (l.set 0 y)) room:=by
 obtain⟨hg,vr,gr,es,hh,hR,hgr,rfl,hnd,hes,hlen,hroom⟩:=L;rw[List.length_map]at hr;obtain⟨b,off,cap,rfl,rfl,hcap,e,he,hei,be,oe,ce,hev,heb,hcell⟩:=LnkAt.el hR hes i hr;have c0:w.cell? ⟨g,0,none⟩=some (.slice (some ⟨b,off,none⟩) es.length cap):=k00 hh 0;have hok:=hes e he;have hRe:Row w (.slice (some ⟨be,oe,none⟩) e.l.length ce) 5 1 e.l.length (u8s e.l) (some e.b):=hev▸hok.2.1;obtain⟨_,_,_,hq,hv,_,hfz,hrd⟩:=hRe.open hok.2.2.1;simp only[Value.slice.injEq,Option.some.injEq,Addr.mk.injEq,true_and,and_true]at hv;obtain⟨⟨rfl,rfl⟩,rfl⟩:=hv;obtain⟨a,hl⟩:∃a,(u8s e.l)[0]? = some (.int .u8 a):=by
  refine⟨e.l[0]'hok.2.2.1,?_⟩;simp[u8s,List.getElem?_eq_getElem hok.2.2.1]
 have c1:w.cell? ⟨be,oe,none⟩=some (.int .u8 a):=(hrd 0 (by simp[u8s];exact hok.2.2.1)).trans hl;have f1:=hfz oe;have hn0:((e.l.length:Int) == 0)=false:=beq_eq_false_iff_ne.mpr (by have:=hok.2.2.1;omega);have hx0:(x == 0)=false:=by simpa using hx
 have hp:=hok.2.2.1;have FIN:=Ab (fun y=>kaU (y:=y) hh hg hgr hnd hes hlen hroom hf hR hei hev heb he);have HL:=Ab (show(es.map LEl.l)[i]? = some e.l by rw[List.getElem?_map,hei];rfl);clear hei hev heb hR hRe hq hrd hl hx hok;go_enter Tryz.func32,Tryz.ntmps32
 go_wp2_with(go_at_call 54;go_in)
 go_ret;exact⟨rfl,(FIN.1 _).1,e.l,_,HL.1,(kaq _ _ _).1,(kaq _ _ _).2,(FIN.1 _).2⟩
theorem k79(i x:Int)(L:LnkAt w o c g rows room)(hr:i<0\/(rows.length:Int)<=i) :
 Calls Tryz.prog 32 #[.pointer (some ⟨g,0,none⟩),.int .i64 i,.int .i64 0,.int .u8 x] w fun e w'=>e=.returned (.bool false)/\Below w.heap.size w w':=by
 obtain⟨hg,vr,gr,es,hh,hR,hgr,rfl,hnd,hes,hlen,hroom⟩:=L;have c0:w.cell? ⟨g,0,none⟩=some vr:=k00 hh 0;obtain⟨A,cap,rfl,hcap⟩:=hR.size;rw[List.length_map]at hr;by_cases h0:i<0
 ·go_enter Tryz.func32,Tryz.ntmps32
  go_wp2;exact zz63
 ·have h1:(es.length:Int)<=i:=by omega
  go_enter Tryz.func32,Tryz.ntmps32;go_wp2;exact zz63
theorem k4U(i:Nat)(L:LnkAt w o c g rows room)(hr:i<rows.length) :
 Calls Tryz.prog 32 #[.pointer (some ⟨g,0,none⟩),.int .i64 i,.int .i64 0,.int .u8 0] w fun e w'=>e=.returned (.bool false)/\Below w.heap.size w w':=by
 obtain⟨hg,vr,gr,es,hh,hR,hgr,rfl,hnd,hes,hlen,hroom⟩:=L;rw[List.length_map]at hr;obtain⟨b,off,cap,rfl,rfl,hcap,e,he,hei,be,oe,ce,hev,heb,hcell⟩:=LnkAt.el hR hes i hr;have c0:w.cell? ⟨g,0,none⟩=some (.slice (some ⟨b,off,none⟩) es.length cap):=k00 hh 0;have hn0:((e.l.length:Int) == 0)=false:=beq_eq_false_iff_ne.mpr (by have:=(hes e he).2.2.1;omega);clear hei hev heb hR;go_enter Tryz.func32,Tryz.ntmps32
 go_wp2_with(go_at_call 54;go_in)
 go_ret;exact⟨rfl,Below.refl _ _⟩
theorem k5T(L:LnkAt w o c g rows room) :
 Calls Tryz.prog 26 #[.pointer (some ⟨g,0,none⟩)] w fun e w'=>∃A k,e=.returned (.slice A rows.length k)/\(rows=[]->A=none/\k=0)/\Below w.heap.size w w':=by
 obtain⟨hg,vr,gr,es,hh,hR,hgr,rfl,hnd,hes,hlen,hroom⟩:=L;have c0:w.cell? ⟨g,0,none⟩=some vr:=k00 hh 0;obtain⟨A,cap,rfl,hcap⟩:=hR.size;have HR:=Ab hR;have HES:=Ab hes;have hn64:es.length<=64:=by omega
 clear hes hgr hnd hR;go_enter Tryz.func26,Tryz.ntmps26;go_wp2
 go_loopg [3,11] es.length (fun n s3 s11 wr=>∃k:Nat,k+n=es.length/\s11=.int .i64 k/\k07 (∃cs gg,Row wr s3 22 1 k cs gg/\(∀b,gg=some b->w.heap.size<=b)/\Below w.heap.size w wr/\(k=0->s3=.slice none 0 0)))
 case atStart=>exact⟨0,zz1,rfl,⟨⟨[],none,Row.nil _ _ _,zz6,Below.refl _ _,fun _=>rfl⟩⟩⟩
 case round=>
  obtain⟨k,hk,rfl,R⟩:=hrel;by_cases hlt:k<es.length
  ·have e1:(k:Int)<(es.length:Int):=by omega
   obtain⟨cs,gg,R1,hgg,B,_⟩:=R.1;obtain⟨b,off,cap',hv,rfl,hcap',e,he,hei,be,oe,ce,hev,heb,hcell⟩:=LnkAt.el HR.1 HES.1 k hlt;simp only[Value.slice.injEq,true_and]at hv;obtain⟨rfl,rfl⟩:=hv;have hc1:=k01 B hcell;have HRe:=Ac (Row wr (.slice (some ⟨be,oe,none⟩) e.l.length ce) 5 1 e.l.length (u8s e.l) (some e.b)) (hev▸((HES.1 e he).2.1.below B));have HE:=Ab (HES.1 e he).2.2;have HB:=Ab B;have HR1:=Ab R1;have HG:=Ab hgg;clear hcell hei hev heb B R1 hgg R
   go_wp2_with fail
   refine(k4v _ e.l _ _ HRe.1 HE.1.1 (by have:=HE.1.2;omega)).mono ?_;rintro x w1 ⟨b1,k1,rfl,hr1,hb1,hge⟩;have R2:=Ab (HR1.1.below hb1);have B1:=Ab (k0D HB.1 HB.1.size hb1);clear hr1 hb1 hge hc1
   go_wp2_with(at_builtin;refine k0z rfl _ _ 70 22 (.slice none 0 0) 1 24 rfl Tryz.underlying70 k9i rfl zz7 zz7 _ k cs [.slice (some ⟨b1,0,none⟩) e.l.length k1] gg R2.1 rfl rfl rfl rfl (k6s _ _ _) zz1 ?_;intro v2 w2 g2 R3 O3 G3;have R3':=Ab R3;have O3':=Ab O3;have G3':=Ab G3;clear R3 O3 G3)
   go_roundg (es.length-(k+1))
   case measure=>exact zz1
   case rel=>
    refine⟨k+1,zz1,by go_num,⟨⟨_,g2,R3'.1,fun b' hb'=>?_,?_,fun h=>by omega⟩⟩⟩
    ·rcases G3'.1 with h|⟨q,h,hq⟩
     ·exact HG.1 b' (h▸hb')
     ·rw[h]at hb';cases hb';exact Nat.le_trans B1.1.size hq
    ·exact((Only.of_below (P:=fun _=>False) B1.1).then O3'.1 (fun b' hb' e'=>by have:=HG.1 b' e';omega)).toBelow (fun _ _ x=>x)
  ·have e1:¬(k:Int)<(es.length:Int):=by omega
   have hkl:k=es.length:=zz1
   subst hkl;obtain⟨cs,gg,R1,hgg,B,hz⟩:=R.1;have HB:=Ab B;obtain⟨A',k',rfl,_⟩:=R1.size;have HZ:=Ab hz;clear R1 B R hgg hz;go_wp2;go_ret;refine⟨A',k',rfl,fun h=>?_,HB.1⟩;have:=HZ.1 (by rw[h];rfl);simp at this;exact⟨this.1,this.2.2⟩
theorem kbl(room:Int)(w:World)(h0:1<=room)(h1:room<=64) :
 Calls Tryz.prog 39 #[.int .i64 room] w fun e w'=>e=.returned (.pointer (some ⟨w.heap.size,0,none⟩))/\w'=w.alloc (.cells #[.slice none 0 0,.int .i64 room] 119):=by
 go_enter Tryz.func39,Tryz.ntmps39;exact zz16
theorem LnkAt.new(o:Nat->Col)(c:Col)(room:Int)(w:World)(h0:1<=room)(h1:room<=64):LnkAt (w.alloc (.cells #[.slice none 0 0,.int .i64 room] 119)) (paint o w.heap.size (w.alloc (.cells #[.slice none 0 0,.int .i64 room] 119)).heap.size c) c w.heap.size [] room:=
 ⟨k0C _ _ (Nat.le_refl _) zz6,.slice none 0 0,none,[],heap_alloc_new _ _,Row.nil _ _ _,zz6,rfl,zz6,zz6,by simp;omega,h1⟩
end
end Go.Proofs.YtdopmlopafgonaaGreatDoor.Own
