/- TopOrder: of each flow what came is some of what was injected, in its order (a part of the walks and of the plain laws). -/
import Derived.Test.YtdopmlopafgonaaGreatDoorD0
import Derived.Test.YtdopmlopafgonaaGreatDoorD41
import Derived.Test.YtdopmlopafgonaaGreatDoorD47
set_option linter.unusedVariables false
set_option linter.unusedSimpArgs false
set_option maxHeartbeats 4000000
set_option maxRecDepth 100000
namespace Go.Proofs.YtdopmlopafgonaaGreatDoor.Own
open Go.RowKit Go.Proofs.YtdopmlopafgonaaGreatDoorW.PrintWords Go.Proofs.YtdopmlopafgonaaGreatDoorW.PrintLast Go.Proofs.YtdopmlopafgonaaGreatDoorW.PrintMore
section
variable{w:World}
theorem k5W(v0:Value)(a1 a2 s:Int)(A5:Option Addr)(c5 n:Nat)(hn:100<n)(hT:Tab w) :
 Calls Tryz.prog 4 #[v0,.int .u8 a1,.int .u8 a2,.int .u16 s,.slice A5 n c5] w fun e w'=>e=.returned (.bool true)/\Below w.heap.size w w':=by
 have ck:=k4k (w:=w) (k3F w) hT (k47 w);have e1:(100:Int)<(n:Int):=zz1
 clear hT;go_enter Tryz.func4,Tryz.ntmps4
 go_wp2_with(go_at_call 5;refine ck.mono ?_;rintro e w1 ⟨rfl,hb1⟩;have B1:=Ab hb1;clear hb1 ck)
 go_ret;exact⟨rfl,B1.1⟩
theorem k4J(A:Option Addr)(c:Nat)(l:List Nat)(hx:∀x∈l,x<256)(a1 a2 s:Nat)(h1:a1<256)(h2:a2<256)(h3:s<65536)(A5:Option Addr)(c5 nq:Nat)(q:List OpV)(hq:Ops w A5 nq q)(hqc:nq<=c5)(hq1:nq<=100)(hr:Kd.C (Kd.int .u8) w A (ints l).length (ints l))(hc:(ints l).length<=c)(hT:Tab w) :
 Calls Tryz.prog 4 #[.slice A (ints l).length c,.int .u8 a1,.int .u8 a2,.int .u16 s,.slice A5 nq c5] w fun e w'=>e=.returned (.bool true)/\Below w.heap.size w w':=by
 have ck:=k4k (w:=w) (k3F w) hT (k47 w);have HI:=Ac ((∀x∈l,x<256)/\a1<256/\a2<256/\s<65536/\Kd.C (Kd.int .u8) w A (ints l).length (ints l)/\(ints l).length<=c/\Tab w) (⟨hx,h1,h2,h3,hr,hc,hT⟩);have HQ:=Ab hq;have G:=k33 l a1 a2 s h3;obtain⟨D,hD⟩:∃D,D=k1A l a1 a2 s:=⟨_,rfl⟩;rw[<- hD]at G;obtain⟨P,W⟩:=G.ways;have hn0:=G.n0;have hn6:=G.n1;have HG:=Ac (Good D/\Ways D P/\D=k1A l a1 a2 s) (⟨G,W,hD⟩);obtain⟨n,hn⟩:∃n,n=D.nodes:=⟨_,rfl⟩;have HN:=Ab hn;rw[<- hn]at hn0 hn6;clear hx h1 h2 h3 hr hc hT hD W G hn hq;obtain⟨m,hm⟩:∃m,m=(ints l).length:=⟨_,rfl⟩;have HM:=Ab hm;rw[<- hm];clear hm;have e1:¬(100:Int)<(nq:Int):=zz1
 go_enter Tryz.func4,Tryz.ntmps4
 go_wp2_with fail
 go_at_call 5;refine ck.mono ?_;rintro e w1 ⟨rfl,hb1⟩;have B1:=Ab hb1;have F1:=Ac (Fresh (colA w) w1) ((k3F w).blw hb1);clear hb1 ck
 go_wp2_with fail
 go_at_call 6;have cb:=k7E (w:=w1) (o:=colA w) A c l HI.1.1 a1 a2 s HI.1.2.1 HI.1.2.2.1 HI.1.2.2.2.1 ((Kd.int .u8).C_below HI.1.2.2.2.2.1 B1.1) HI.1.2.2.2.2.2.1 F1.1 (HI.1.2.2.2.2.2.2.below B1.1) (k47 w 0 HI.1.2.2.2.2.2.2.lt);rw[HM.1];refine cb.mono ?_;rintro e w2 ⟨Y,rfl,o2,F,hP,hN⟩;rw[<- HG.1.2.2]at hP;have K2:=Ac (PlayAt w2 o2 D F Y (fst0 D) [] (.slice none 0 0) none 0/\Below w.heap.size w w2/\(∀b,b<w.heap.size->o2 b=.fix)) (⟨hP,B1.1.trans (hN.below.mono B1.1.size),fun b hb=>(hN.own b (Nat.lt_of_lt_of_le hb B1.1.size)).trans (k47 w b hb)⟩);clear hP hN cb
 go_wp2_with fail
 go_loopw [12] (fun s12 wr=>∃(i:Nat)(oc:Nat->Col)(st:FSt)(S:List Pk)(sv:Value)(gs:Option Nat)(ov:Int),i<=nq/\s12=.int .i64 i/\k07 (Holds D P S ((D.start:Int)+6*i) (6*i) st/\PlayAt wr oc D F Y st S sv gs ov/\Below w.heap.size w wr/\(∀b,b<w.heap.size->oc b=.fix)/\S.length<=i/\∀x∈S,Nn x)) (fun s12 _=>nq-ixOf s12)
 case atStart=>exact⟨0,o2,fst0 D,[],_,none,0,Nat.zero_le _,rfl,⟨by simpa using k5c HG.1.1 HG.1.2.1,K2.1.1,K2.1.2.1,K2.1.2.2,Nat.zero_le _,fun x hx=>by cases hx⟩⟩
 case round=>
  obtain⟨i,oc,st,S3,sv,g12,ov,hi,rfl,R⟩:=hrel;by_cases hlt:i<nq
  ·have e2:(i:Int)<(nq:Int):=by omega
   obtain⟨y,hy⟩:∃y,q[i]? = some y:=⟨_,List.getElem?_eq_getElem (by have:=HQ.1.1;omega)⟩;obtain⟨x,rfl,p0,p1,p2,p3,p4,p5,p6,p7,p8,p9⟩:=(HQ.1.below R.1.2.2.1).at hy;have hyb:=HQ.1.2.1 y (List.mem_of_getElem? hy);have cs:=ka3 P ((D.start:Int)+6*i) (6*i) y.k y.s y.d y.l y.y y.h y.kk y.ap y.b y.ib hyb.1 hyb.2.1 hyb.2.2 R.1.2.1 HG.1.1 HG.1.2.1 R.1.1 zz1 zz1 (by have:=R.1.2.2.2.2.1;omega);clear hy hyb
   go_wp2_with(go_at_call 10;refine cs.mono ?_;rintro e w8 ⟨rfl,o8,st8,S8,sv8,gs8,ov8,hh8,hP8,ht8,hl8,hn8⟩;have K8:=Ac (Holds D P S8 ((D.start:Int)+6*i+6) (6*i+6) st8/\PlayAt w8 o8 D F Y st8 S8 sv8 gs8 ov8/\Below w.heap.size w w8/\(∀b,b<w.heap.size->o8 b=.fix)/\S8.length<=i+1/\(∀x∈S8,Nn x)) (⟨hh8,hP8,ht8.oldA R.1.2.2.1 R.1.2.2.2.1 k78,fun b hb=>(ht8.own b (Nat.lt_of_lt_of_le hb R.1.2.2.1.size)).trans (R.1.2.2.2.1 b hb),by have:=R.1.2.2.2.2.1;omega,hn8 R.1.2.2.2.2.2⟩);clear hh8 hP8 ht8 hl8 hn8 cs p0 p1 p2 p3 p4 p5 p6 p7 p8 p9)
   refine⟨⟨i+1,o8,st8,S8,sv8,gs8,ov8,zz1,rfl,⟨?_,K8.1.2⟩⟩,?_⟩
   ·have hk:=K8.1.1
    rw[show(D.start:Int)+6*(i:Int)+6=(D.start:Int)+6*((i+1:Nat):Int) by omega]at hk;exact hk
   ·show nq-ixOf (.int .i64 ((i:Int)+1))<nq-ixOf (.int .i64 (i:Int))
    simp only[ixOf];exact zz1
  ·have e2:¬(i:Int)<(nq:Int):=by omega
   obtain rfl:nq=i:=by omega
   obtain⟨A12,c12,rfl,_⟩:=R.1.2.1.sent.size;obtain⟨w3,rfl⟩:∃w3,w3=wr:=⟨_,rfl⟩;have b0:=fun j=>k00 R.1.2.1.blk j
   rw[<- HN.1]at b0
   go_wp2_with fail
   go_loopw [13] (fun s13 wq=>∃(v:Nat),v<=n/\s13=.int .i64 v/\k07 (Below w3.heap.size w3 wq)) (fun s13 _=>n-ixOf s13)
   case atStart=>exact⟨0,Nat.zero_le _,rfl,⟨Below.refl _ _⟩⟩
   case round=>
    obtain⟨v,hv,rfl,Bq⟩:=hrel;have H2:=Ab (R.1.2.1.blw Bq.1);clear b0;have b0:=fun j=>k00 H2.1.blk j
    rw[<- HN.1]at b0;by_cases hlv:v<n
    ·have e3:(v:Int)<(n:Int):=by omega
     have hvd:v<D.nodes:=by rw[<- HN.1];exact hlv
     obtain⟨gl,hgl⟩:∃gl,gl=(st.node v).waits 3:=⟨_,rfl⟩;have hglen:gl.length<=10000:=by
      have h:=(R.1.1.fok v hvd).came;rw[<- hgl]at h;exact zz1
     have GL:=Ac ((∀x∈gl,x.dst=v)/\(∀f,List.Sublist (bod f gl) (bod f S3))) (by
      rw[hgl];exact⟨fun x hx=>((R.1.1.came HG.1.2.1 hvd).1 x hx).1,kcN HG.1.2.1 R.1.1 hvd R.1.2.2.2.2.2⟩)
     have cg:=k9c v H2.1.fab HG.1.1 hvd (by rw[<- hgl];exact hglen);rw[<- hgl]at cg;have HL:=Ab hglen;clear hgl hvd
     go_wp2_with(go_at_call 8;refine cg.mono ?_;rintro e w9 ⟨v9,g9,rfl,hr9,hb9,_⟩;obtain⟨A9,k9,rfl,_⟩:=hr9.size;have K9:=Ac (Row w9 (.slice A9 gl.length k9) 40 4 gl.length (k0J gl) g9/\Below w3.heap.size w3 w9) (⟨hr9,Bq.1.trans (hb9.mono Bq.1.size)⟩);clear hr9 hb9 cg b0)
     go_loopw [15] (fun s15 wq=>∃(a:Nat),a<=gl.length/\s15=.int .i64 a/\wq=w9) (fun s15 _=>gl.length-ixOf s15)
     case atStart=>exact⟨0,Nat.zero_le _,rfl,rfl⟩
     case round=>
      obtain⟨a,ha,rfl,hwr⟩:=hrel;subst hwr;by_cases hla:a<gl.length
      ·have e4:(a:Int)<(gl.length:Int):=by omega
       obtain⟨b,off,cap',hg,hv9,_,_,hc9⟩:=K9.1.1.open zz1;have g0:=(hc9 (a*4+1) (by rw[k1x];omega)).trans (k3x gl a 1 hla zz1);have hd:=GL.1.1 gl[a] (List.getElem_mem hla);have p1:wr.cell? ⟨b,off+a*4+1,none⟩=some (.int .i64 v):=by rw[<- hd];exact g0
       simp only[Value.slice.injEq]at hv9;obtain⟨rfl,_,rfl⟩:=hv9;clear hc9 g0 hd;go_wp2;refine⟨⟨a+1,zz1,rfl,trivial⟩,?_⟩;show gl.length-ixOf (.int .i64 ((a:Int)+1))<gl.length-ixOf (.int .i64 (a:Int));exact zz9
      ·have e4:¬(a:Int)<(gl.length:Int):=by omega
       clear ha hla
       go_wp2_with(go_at_call 11;refine(k6L _ gl g9 _ K9.1.1 HL.1).mono ?_;rintro e w10 ⟨v10,g10,fs,rfl,hlf,hr10,hb10,_⟩;obtain⟨A7,c7,rfl,_⟩:=hr10.size;have K10:=Ac (Row w10 (.slice A7 fs.length c7) 53 3 fs.length (encF fs) g10/\Below w3.heap.size w3 w10) (⟨hr10,K9.1.2.trans (hb10.mono K9.1.2.size)⟩);have ROWS:=Ac (Row w10 (.slice A9 gl.length k9) 40 4 gl.length (k0J gl) g9/\Row w10 (.slice A12 S3.length c12) 40 4 S3.length (k0J S3) g12/\gl.length<=10000/\S3.length<=10000) (⟨K9.1.1.below hb10,R.1.2.1.sent.below K10.1.2,HL.1,by have:=R.1.2.2.2.2.1;omega⟩);have SUB:=Ab GL.1.2;clear hr10 hb10)
       go_loopw [17] (fun s17 wq=>∃(j:Nat),j<=fs.length/\s17=.int .i64 j/\k07 (Below w10.heap.size w10 wq)) (fun s17 _=>fs.length-ixOf s17)
       case atStart=>exact⟨0,Nat.zero_le _,rfl,⟨Below.refl _ _⟩⟩
       case round=>
        obtain⟨j,hj,rfl,WB⟩:=hrel;by_cases hlj:j<fs.length
        ·have e5:(j:Int)<(fs.length:Int):=by omega
         obtain⟨b7,f7,c7',hg7,hv7,_,_,hc7⟩:=(K10.1.1.below WB.1).open zz1;have d0:=fun r hr=>(hc7 (j*3+r) (by rw[k1X];omega)).trans (k7Y fs j r hlj hr)
         obtain⟨f,hf⟩:∃f,f=fs[j]:=⟨_,rfl⟩;rw[<- hf]at d0;simp only[Value.slice.injEq]at hv7;obtain⟨rfl,_,rfl⟩:=hv7;have bz:=(R.1.2.1.blw (K10.1.2.trans (WB.1.mono K10.1.2.size))).blk;have HS:=Sat.mk (S:=fun(W:World)=>W.cell? ⟨b7,f7+j*3,none⟩=some (.int .i64 f.1)/\W.cell? ⟨b7,f7+j*3+1,none⟩=some (.int .i64 f.2.1)/\W.cell? ⟨b7,f7+j*3+2,none⟩=some (.int .i64 f.2.2)/\W.cell? ⟨Y.g,12,none⟩=some (.slice A12 S3.length c12)) (w:=wr) (⟨d0 0 zz1,d0 1 zz1,d0 2 zz1,k00 bz 12⟩);clear hc7 d0 hf bz
         go_wp2_with fail
         refine WpL.rg HS 99 zz2 ?_;refine WpL.E 0 HS.1 ?_;refine WpL.E 1 HS.1 ?_;refine WpL.E 2 HS.1 ?_;refine WpL.E 3 HS.1 ?_;refine WpL.E 4 HS.1 ?_;refine WpL.E 6 HS.1 ?_;refine WpL.E 7 HS.1 ?_;refine WpL.E 8 HS.1 ?_;refine WpL.E 9 HS.1 ?_;refine WpL.E 10 HS.1 ?_;refine WpL.E 11 HS.1 ?_;refine WpL.E 12 HS.1 ?_;refine WpL.E 13 HS.1 ?_;refine WpL.one (i:=5) zz2 rfl (fun K hK=>?_);go_simp;refine(k39 _ gl g9 f _ (ROWS.1.1.below WB.1).drew ROWS.1.2.2.1).mono ?_;rintro e w11 ⟨v11,g11,rfl,hr11,hb11,_⟩;obtain⟨A11,k11,rfl,_⟩:=hr11.size;have B11:=Ac (Below wr.heap.size wr w11) ((Below.refl _ wr).drew.trans hb11);have R11:=Ab hr11;have HS11:=HS.to w11 (by
          obtain⟨p0,p1,p2,p3⟩:=HS.1;exact⟨k01 B11.1 p0,k01 B11.1 p1,k01 B11.1 p2,k01 B11.1 p3⟩)
         clear hr11 hb11;simp only[];refine hK.out _ _ (fun _=>HS11.1) ?_;clear hK K
         try refine Sm ?_
         refine WpL.one (i:=14) zz2 rfl (fun K hK=>?_);go_simp;refine(k39 _ S3 g12 f _ ((ROWS.1.2.1.below WB.1).below B11.1) ROWS.1.2.2.2).mono ?_;rintro e w14 ⟨v14,g14,rfl,hr14,hb14,_⟩;obtain⟨A14,k14,rfl,_⟩:=hr14.size;have B14:=Ac (Below w11.heap.size w11 w14/\Below wr.heap.size wr w14) (⟨hb14,B11.1.trans (hb14.mono B11.1.size)⟩);have R14:=Ab hr14;have HS14:=HS.to w14 (by
          obtain⟨p0,p1,p2,p3⟩:=HS.1;exact⟨k01 B14.1.2 p0,k01 B14.1.2 p1,k01 B14.1.2 p2,k01 B14.1.2 p3⟩)
         clear hr14 hb14;simp only[];refine hK.out _ _ (fun _=>HS14.1) ?_;clear hK K
         try refine Sm ?_
         refine WpL.one (i:=15) zz2 rfl (fun K hK=>?_);go_simp;refine(k8o _ _ (bod f gl) (bod f S3) g11 g14 _ (R11.1.below B14.1.1) R14.1 (SUB.1 f) (Nat.le_trans (kci _ _) ROWS.1.2.2.2)).mono ?_;rintro e w15 ⟨rfl,hb15⟩;have B15:=Ac (Below wr.heap.size wr w15) (B14.1.2.trans (hb15.mono B14.1.2.size));have HS15:=HS.to w15 (by
          obtain⟨p0,p1,p2,p3⟩:=HS.1;exact⟨k01 B15.1 p0,k01 B15.1 p1,k01 B15.1 p2,k01 B15.1 p3⟩)
         clear hb15;simp only[];refine hK.out _ _ (fun _=>HS15.1) ?_;clear hK K
         try refine Sm ?_
         refine WpL.E 16 HS15.1 ?_;refine WpL.done zz2 ?_ _;go_wp2;refine⟨⟨j+1,zz1,rfl,⟨WB.1.trans (B15.1.mono WB.1.size)⟩⟩,?_⟩;show fs.length-ixOf (.int .i64 ((j:Int)+1))<fs.length-ixOf (.int .i64 (j:Int));exact zz9
        ·have e5:¬(j:Int)<(fs.length:Int):=by omega
         go_wp2;refine⟨⟨v+1,zz1,rfl,⟨K10.1.2.trans (WB.1.mono K10.1.2.size)⟩⟩,?_⟩;show n-ixOf (.int .i64 ((v:Int)+1))<n-ixOf (.int .i64 (v:Int));exact zz9
    ·have e3:¬(v:Int)<(n:Int):=by omega
     go_wp2;go_ret;exact⟨rfl,R.1.2.2.1.trans (Bq.1.mono R.1.2.2.1.size)⟩
end
end Go.Proofs.YtdopmlopafgonaaGreatDoor.Own
