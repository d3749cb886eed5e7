/- TopOrder: of each flow what came is some of what was injected, in its order (a part of the walks and of the plain laws). -/
import Derived.Test.YtdopmlopafgonaaGreatDoorD0
import Derived.Test.YtdopmlopafgonaaGreatDoorD38
import Derived.Test.YtdopmlopafgonaaGreatDoorD39
import Derived.ChangeSame
import Derived.Deep.Fields
import Derived.Deep.Slices
set_option linter.unusedVariables false
set_option linter.unusedSimpArgs false
set_option maxHeartbeats 4000000
set_option maxRecDepth 100000
namespace Go.Proofs.YtdopmlopafgonaaGreatDoor.Own
open Go.ChangeShapes Go.WideShapes Go.Deep Go.RowKit Go.Proofs.YtdopmlopafgonaaGreatDoorW.PrintWords Go.Proofs.YtdopmlopafgonaaGreatDoorW.PrintLast Go.Proofs.YtdopmlopafgonaaGreatDoorW.PrintMore
structure OpV where
 k:Nat
 s:Int
 d:Int
 l:Int
 y:Int
 ib:Bool
 h:Int
 kk:Int
 ap:Int
 b:Int
def OpV.enc(q:OpV):List Value:=[.int .u8 q.k,.int .i64 q.s,.int .i64 q.d,.int .i64 q.l,.int .u32 q.y,.bool q.ib,.int .i64 q.h,.int .i64 q.kk,.int .i64 q.ap,.int .u8 q.b]
def Ops(w:World)(A:Option Addr)(n:Nat)(l:List OpV):Prop:=
 l.length=n/\(∀q∈l,q.k<256/\0<=q.y/\q.y<=4294967295)/\(l≠[]->∃x,A=some x/\∀i q,l[i]? = some q->∀j u,q.enc[j]? = some u->w.cell? (x.add (i*10+j))=some u)
theorem Ops.below{w W:World}{A:Option Addr}{n:Nat}{l:List OpV}(h:Ops w A n l)(b:Below w.heap.size w W):Ops W A n l:=by
 refine⟨h.1,h.2.1,fun hn=>?_⟩;obtain⟨x,hx,hc⟩:=h.2.2 hn;exact⟨x,hx,fun i q hq j u hu=>k01 b (hc i q hq j u hu)⟩
theorem Ops.at{w:World}{A:Option Addr}{n:Nat}{l:List OpV}(h:Ops w A n l){i:Nat}{q:OpV}(hq:l[i]? = some q):∃x:Addr,A=some x /\
 w.cell? (x.add (i*10))=some (.int .u8 q.k)/\w.cell? ⟨(x.add (i*10)).block,(x.add (i*10)).off+1,none⟩=some (.int .i64 q.s)/\w.cell? ⟨(x.add (i*10)).block,(x.add (i*10)).off+2,none⟩=some (.int .i64 q.d) /\
 w.cell? ⟨(x.add (i*10)).block,(x.add (i*10)).off+3,none⟩=some (.int .i64 q.l)/\w.cell? ⟨(x.add (i*10)).block,(x.add (i*10)).off+4,none⟩=some (.int .u32 q.y)/\w.cell? ⟨(x.add (i*10)).block,(x.add (i*10)).off+5,none⟩=some (.bool q.ib) /\
 w.cell? ⟨(x.add (i*10)).block,(x.add (i*10)).off+6,none⟩=some (.int .i64 q.h)/\w.cell? ⟨(x.add (i*10)).block,(x.add (i*10)).off+7,none⟩=some (.int .i64 q.kk)/\w.cell? ⟨(x.add (i*10)).block,(x.add (i*10)).off+8,none⟩=some (.int .i64 q.ap) /\
 w.cell? ⟨(x.add (i*10)).block,(x.add (i*10)).off+9,none⟩=some (.int .u8 q.b):=by
 obtain⟨x,hx,hc⟩:=h.2.2 (by rintro rfl;simp at hq);have e:∀j,0<j->x.add (i*10+j)=⟨(x.add (i*10)).block,(x.add (i*10)).off+j,none⟩:=fun j hj=>by
  rw[<- Go.Deep.add_add];exact if_neg zz1
 refine⟨x,hx,hc i q hq 0 _ rfl,?_,?_,?_,?_,?_,?_,?_,?_,?_⟩
 all_goals first
  |exact(congrArg w.cell? (e 1 zz1)).symm.trans (hc i q hq 1 _ rfl)
  |exact(congrArg w.cell? (e 2 zz1)).symm.trans (hc i q hq 2 _ rfl)
  |exact(congrArg w.cell? (e 3 zz1)).symm.trans (hc i q hq 3 _ rfl)
  |exact(congrArg w.cell? (e 4 zz1)).symm.trans (hc i q hq 4 _ rfl)
  |exact(congrArg w.cell? (e 5 zz1)).symm.trans (hc i q hq 5 _ rfl)
  |exact(congrArg w.cell? (e 6 zz1)).symm.trans (hc i q hq 6 _ rfl)
  |exact(congrArg w.cell? (e 7 zz1)).symm.trans (hc i q hq 7 _ rfl)
  |exact(congrArg w.cell? (e 8 zz1)).symm.trans (hc i q hq 8 _ rfl)
  |exact(congrArg w.cell? (e 9 zz1)).symm.trans (hc i q hq 9 _ rfl)
section
variable{H:Type}{enc:TypeId×Value->H}{w:World}
theorem kak:Tryz.prog.cellsOf 3=1:=by kernel_rfl
theorem kcg:Tryz.prog.cellsOf 4=1:=by kernel_rfl
theorem kc1:Tryz.prog.cellsOf 5=1:=by kernel_rfl
theorem kb2:Tryz.prog.cellsOf 24=1:=by kernel_rfl
theorem kbf:Tryz.prog.cellsOf 40=4:=by kernel_rfl
theorem kbr:Tryz.prog.cellsOf 46=10:=by kernel_rfl
theorem k8t{n:Nat}{cs:List Value}{x:DataW H×List MemPlace}(hl:cs.length=10)(h:DataW.trod enc Tryz.prog w 0 (fun _=>true) true n 46 cs=some x):∃q:OpV,cs=q.enc/\q.k<256/\0<=q.y/\q.y<=4294967295:=by
 obtain⟨ys,n',_,_,_,hlen,hf⟩:=DataW.trod_struct Tryz.underlying46 h;obtain⟨v0,v1,v2,v3,v4,v5,v6,v7,v8,v9,rfl⟩:∃v0 v1 v2 v3 v4 v5 v6 v7 v8 v9,cs=[v0,v1,v2,v3,v4,v5,v6,v7,v8,v9]:=by
  match cs,hl with
  |[v0,v1,v2,v3,v4,v5,v6,v7,v8,v9],_=>exact⟨v0,v1,v2,v3,v4,v5,v6,v7,v8,v9,rfl⟩
 obtain⟨y0,y1,y2,y3,y4,y5,y6,rfl⟩:∃y0 y1 y2 y3 y4 y5 y6,ys=[y0,y1,y2,y3,y4,y5,y6]:=by
  match ys,hlen with
  |[y0,y1,y2,y3,y4,y5,y6],_=>exact⟨y0,y1,y2,y3,y4,y5,y6,rfl⟩
 have t0:DataW.trod enc Tryz.prog w 0 (fun _=>true) true n' 5 (List.take (Tryz.prog.cellsOf 5) (List.drop 0 [v0,v1,v2,v3,v4,v5,v6,v7,v8,v9]))=some y0:=by have h:=hf 0 _ rfl;exact h
 have t1:DataW.trod enc Tryz.prog w 0 (fun _=>true) true n' 40 (List.take (Tryz.prog.cellsOf 40) (List.drop 1 [v0,v1,v2,v3,v4,v5,v6,v7,v8,v9]))=some y1:=by have h:=hf 1 _ rfl;exact h
 have t2:DataW.trod enc Tryz.prog w 0 (fun _=>true) true n' 4 (List.take (Tryz.prog.cellsOf 4) (List.drop 5 [v0,v1,v2,v3,v4,v5,v6,v7,v8,v9]))=some y2:=by have h:=hf 2 _ rfl;exact h
 have t3:DataW.trod enc Tryz.prog w 0 (fun _=>true) true n' 3 (List.take (Tryz.prog.cellsOf 3) (List.drop 6 [v0,v1,v2,v3,v4,v5,v6,v7,v8,v9]))=some y3:=by have h:=hf 3 _ rfl;exact h
 have t4:DataW.trod enc Tryz.prog w 0 (fun _=>true) true n' 3 (List.take (Tryz.prog.cellsOf 3) (List.drop 7 [v0,v1,v2,v3,v4,v5,v6,v7,v8,v9]))=some y4:=by have h:=hf 4 _ rfl;exact h
 have t5:DataW.trod enc Tryz.prog w 0 (fun _=>true) true n' 3 (List.take (Tryz.prog.cellsOf 3) (List.drop 8 [v0,v1,v2,v3,v4,v5,v6,v7,v8,v9]))=some y5:=by have h:=hf 5 _ rfl;exact h
 have t6:DataW.trod enc Tryz.prog w 0 (fun _=>true) true n' 5 (List.take (Tryz.prog.cellsOf 5) (List.drop 9 [v0,v1,v2,v3,v4,v5,v6,v7,v8,v9]))=some y6:=by have h:=hf 6 _ rfl;exact h
 clear hf;rw[kc1]at t0 t6;rw[kak]at t3 t4 t5;rw[kcg]at t2;rw[kbf]at t1;obtain⟨z0,e0,_,u0⟩:=DataW.trod_int Tryz.underlying5 t0;obtain⟨z3,e3,_,u3⟩:=DataW.trod_int Tryz.underlying3 t3;obtain⟨z4,e4,_,u4⟩:=DataW.trod_int Tryz.underlying3 t4;obtain⟨z5,e5,_,u5⟩:=DataW.trod_int Tryz.underlying3 t5;obtain⟨z6,e6,_,u6⟩:=DataW.trod_int Tryz.underlying5 t6;obtain⟨z2,e2,_⟩:=DataW.trod_bool Tryz.underlying4 t2;obtain⟨xs,n2,_,_,_,hlen2,hg⟩:=DataW.trod_struct Tryz.underlying40 t1;obtain⟨x0,x1,x2,x3,rfl⟩:∃x0 x1 x2 x3,xs=[x0,x1,x2,x3]:=by
  match xs,hlen2 with
  |[x0,x1,x2,x3],_=>exact⟨x0,x1,x2,x3,rfl⟩
 have r0:DataW.trod enc Tryz.prog w 0 (fun _=>true) true n2 3 (List.take (Tryz.prog.cellsOf 3) (List.drop 0 (List.take 4 (List.drop 1 [v0,v1,v2,v3,v4,v5,v6,v7,v8,v9]))))=some x0:=by have h:=hg 0 _ rfl;exact h
 have r1:DataW.trod enc Tryz.prog w 0 (fun _=>true) true n2 3 (List.take (Tryz.prog.cellsOf 3) (List.drop 1 (List.take 4 (List.drop 1 [v0,v1,v2,v3,v4,v5,v6,v7,v8,v9]))))=some x1:=by have h:=hg 1 _ rfl;exact h
 have r2:DataW.trod enc Tryz.prog w 0 (fun _=>true) true n2 3 (List.take (Tryz.prog.cellsOf 3) (List.drop 2 (List.take 4 (List.drop 1 [v0,v1,v2,v3,v4,v5,v6,v7,v8,v9]))))=some x2:=by have h:=hg 2 _ rfl;exact h
 have r3:DataW.trod enc Tryz.prog w 0 (fun _=>true) true n2 24 (List.take (Tryz.prog.cellsOf 24) (List.drop 3 (List.take 4 (List.drop 1 [v0,v1,v2,v3,v4,v5,v6,v7,v8,v9]))))=some x3:=by have h:=hg 3 _ rfl;exact h
 clear hg;rw[kak]at r0 r1 r2;rw[kb2]at r3;obtain⟨a0,f0,_,_⟩:=DataW.trod_int Tryz.underlying3 r0;obtain⟨a1,f1,_,_⟩:=DataW.trod_int Tryz.underlying3 r1;obtain⟨a2,f2,_,_⟩:=DataW.trod_int Tryz.underlying3 r2;obtain⟨a3,f3,_,w3⟩:=DataW.trod_int Tryz.underlying24 r3;have b0:=ka6 u0;have b3:=kcS w3;obtain⟨k,rfl⟩:∃k:Nat,z0=k:=⟨z0.toNat,zz1⟩;simp at e0 e2 e3 e4 e5 e6 f0 f1 f2 f3;subst e0 e2 e3 e4 e5 e6 f0 f1 f2 f3;exact⟨⟨k,a0,a1,a2,a3,z2,z3,z4,z5,z6⟩,rfl,(show k<256 by omega),b3.1,b3.2⟩
theorem Ops.open_{a:Option Addr}{len cap:Nat}{d:DataW H}{p:List MemPlace}(h:DataW.Trod enc Tryz.prog w 0 (fun _=>true) true 43 (.slice a len cap) d p):∃l,Ops w a len l/\len<=cap:=by
 obtain⟨fuel,hf⟩:=h;rcases open_slice Tryz.underlying43 hf with⟨hcs,_⟩|⟨x,l,c,m,n,D,Pl,hcs,_,hl,hm,hmm,_,hi⟩
 ·simp[Value.cells]at hcs
  obtain⟨rfl,rfl,rfl⟩:=hcs;exact⟨[],⟨rfl,zz6,fun h=>absurd rfl h⟩,Nat.le_refl _⟩
 ·simp[Value.cells]at hcs
  obtain⟨rfl,rfl,rfl⟩:=hcs;simp only[if_true]at hmm;subst hmm;rw[kbr]at hi;have key:∀k,∃q:OpV,k<len->(q.k<256/\0<=q.y/\q.y<=4294967295)/\∀j u,q.enc[j]? = some u->w.cell? (x.add (k*10+j))=some u:=by
   intro k;by_cases hk:k<len
   ·obtain⟨cs',hc,ht⟩:=hi k (Nat.lt_of_lt_of_le hk hl)
    obtain⟨_,hcl,hat⟩:=World.cells?_some hc;obtain⟨q,rfl,hq⟩:=k8t hcl ht;refine⟨q,fun _=>⟨hq,fun j u hu=>?_⟩⟩;have hj:j<10:=(List.getElem?_eq_some_iff.1 hu).1;rw[<- Go.Deep.add_add,hat j hj];exact hu
   ·exact⟨⟨0,0,0,0,0,false,0,0,0,0⟩,fun h=>absurd h hk⟩
  obtain⟨F,hF⟩:∃F:Nat->OpV,∀k,k<len->((F k).k<256/\0<=(F k).y/\(F k).y<=4294967295)/\∀j u,(F k).enc[j]? = some u->w.cell? (x.add (k*10+j))=some u:=⟨fun k=>(key k).choose,fun k=>(key k).choose_spec⟩;refine⟨(List.range len).map F,⟨zz6,fun q hq=>?_,fun _=>⟨x,rfl,fun i q hq=>?_⟩⟩,hl⟩
  ·obtain⟨k,hk,rfl⟩:=List.mem_map.1 hq
   exact(hF k (List.mem_range.1 hk)).1
  ·have hil:i<len:=by
    have:=(List.getElem?_eq_some_iff.1 hq).1;exact zz39
   rw[List.getElem?_map,List.getElem?_range hil]at hq;obtain rfl:=Option.some.inj hq;exact(hF i hil).2
end
end Go.Proofs.YtdopmlopafgonaaGreatDoor.Own
