/- TopOrder: of each flow what came is some of what was injected, in its order (a part of the walks and of the plain laws). -/
import Derived.Test.YtdopmlopafgonaaGreatDoorD0
import Derived.Test.YtdopmlopafgonaaGreatDoorD25
import Derived.Shelf.Slices.In.CompactI
import Derived.Shelf.Sort.Plain
import Derived.Sort.EveryDepth
set_option linter.unusedVariables false
set_option linter.unusedSimpArgs false
set_option maxHeartbeats 4000000
set_option maxRecDepth 100000
namespace Go.Proofs.YtdopmlopafgonaaGreatDoor.Own
open Go.RowKit Go.Proofs.YtdopmlopafgonaaGreatDoorW.PrintWords Go.Proofs.YtdopmlopafgonaaGreatDoorW.PrintLast Go.Proofs.YtdopmlopafgonaaGreatDoorW.PrintMore
open Go.Shelf Go.Sort
def Tryz.sortInts_ren:Go.Shelf.Ren:=⟨fun|189=>107|125=>140|257=>139|128=>164|129=>165|294=>155|295=>156|296=>157|297=>158|298=>159|299=>160|216=>161|300=>162|301=>163|328=>173|329=>174|330=>175|331=>176|332=>177|215=>178|343=>179|n=>n,fun|28=>29|3=>3|46=>235|0=>0|51=>24|53=>144|4=>4|183=>260|182=>259|131=>247|5=>5|9=>9|218=>275|222=>278|228=>281|229=>282|n=>n,fun|n=>n⟩
theorem Tryz.sortInts:Go.Proofs.Lays.n189 Tryz.prog Tryz.sortInts_ren where
 mixed:=by kernel_rfl
 f125:=Tryz.func140.trans (congrArg some zz2)
 f128:=Tryz.func164.trans (congrArg some zz2)
 f129:=Tryz.func165.trans (congrArg some zz2)
 f189:=Tryz.func107.trans (congrArg some zz2)
 f215:=Tryz.func178.trans (congrArg some zz2)
 f216:=Tryz.func161.trans (congrArg some zz2)
 f257:=Tryz.func139.trans (congrArg some zz2)
 f294:=Tryz.func155.trans (congrArg some zz2)
 f295:=Tryz.func156.trans (congrArg some zz2)
 f296:=Tryz.func157.trans (congrArg some zz2)
 f297:=Tryz.func158.trans (congrArg some zz2)
 f298:=Tryz.func159.trans (congrArg some zz2)
 f299:=Tryz.func160.trans (congrArg some zz2)
 f300:=Tryz.func162.trans (congrArg some zz2)
 f301:=Tryz.func163.trans (congrArg some zz2)
 f328:=Tryz.func173.trans (congrArg some zz2)
 f329:=Tryz.func174.trans (congrArg some zz2)
 f330:=Tryz.func175.trans (congrArg some zz2)
 f331:=Tryz.func176.trans (congrArg some zz2)
 f332:=Tryz.func177.trans (congrArg some zz2)
 f343:=Tryz.func179.trans (congrArg some zz2)
 t0:=Tryz.underlying0
 a0:=Tryz.isAgg0
 z0:=Tryz.sizeOf0
 v0:=Tryz.zeroValue0
 t3:=Tryz.underlying3
 a3:=Tryz.isAgg3
 z3:=Tryz.sizeOf3
 v3:=Tryz.zeroValue3
 t4:=Tryz.underlying4
 a4:=Tryz.isAgg4
 z4:=Tryz.sizeOf4
 v4:=Tryz.zeroValue4
 t5:=Tryz.underlying5
 a5:=Tryz.isAgg5
 z5:=Tryz.sizeOf5
 v5:=Tryz.zeroValue5
 t9:=Tryz.underlying9
 a9:=Tryz.isAgg9
 z9:=Tryz.sizeOf9
 v9:=Tryz.zeroValue9
 t28:=Tryz.underlying29
 a28:=Tryz.isAgg29
 z28:=Tryz.sizeOf29
 v28:=Tryz.zeroValue29
 t46:=Tryz.underlying235
 a46:=Tryz.isAgg235
 z46:=Tryz.sizeOf235
 v46:=Tryz.zeroValue235
 t51:=Tryz.underlying24
 a51:=Tryz.isAgg24
 z51:=Tryz.sizeOf24
 v51:=Tryz.zeroValue24
 t53:=Tryz.underlying144
 a53:=Tryz.isAgg144
 z53:=Tryz.sizeOf144
 v53:=Tryz.zeroValue144
 t131:=Tryz.underlying247
 a131:=Tryz.isAgg247
 z131:=Tryz.sizeOf247
 v131:=Tryz.zeroValue247
 t182:=Tryz.underlying259
 a182:=Tryz.isAgg259
 z182:=Tryz.sizeOf259
 v182:=Tryz.zeroValue259
 t183:=Tryz.underlying260
 a183:=Tryz.isAgg260
 z183:=Tryz.sizeOf260
 v183:=Tryz.zeroValue260
 t218:=Tryz.underlying275
 a218:=Tryz.isAgg275
 z218:=Tryz.sizeOf275
 v218:=Tryz.zeroValue275
 t222:=Tryz.underlying278
 a222:=Tryz.isAgg278
 z222:=Tryz.sizeOf278
 v222:=Tryz.zeroValue278
 t228:=Tryz.underlying281
 a228:=Tryz.isAgg281
 z228:=Tryz.sizeOf281
 v228:=Tryz.zeroValue281
 t229:=Tryz.underlying282
 a229:=Tryz.isAgg282
 z229:=Tryz.sizeOf282
 v229:=Tryz.zeroValue282
theorem k5z(b off cap:Nat)(zs:List Int)(w:World)(hH:Holds (Value.int .i64) w b off zs.toArray)(hb:b<w.heap.size)(hs:zs.length<1000) :
 Calls Tryz.prog 107 #[.slice (some ⟨b,off,none⟩) zs.length cap] w fun e w'=>
  e=.returned (.tuple #[])/\∃n os,w'=grow (putRow (Value.int .i64) (Sort.ahead w n) b off (zs.mergeSort fun x y=>decide (x<=y)).toArray) os:=
 Any.slices_Sort_int Tryz.sortInts b off cap zs w hH hb zz1
def Tryz.compactInts_ren:Go.Shelf.Ren:=⟨fun|20=>108|n=>n,fun|22=>29|3=>3|4=>4|0=>0|n=>n,fun|n=>n⟩
theorem Tryz.compactInts:Go.Proofs.Lays2.n20 Tryz.prog Tryz.compactInts_ren where
 mixed:=by kernel_rfl
 f20:=Tryz.func108.trans (congrArg some zz2)
 t0:=Tryz.underlying0
 a0:=Tryz.isAgg0
 z0:=Tryz.sizeOf0
 v0:=Tryz.zeroValue0
 t3:=Tryz.underlying3
 a3:=Tryz.isAgg3
 z3:=Tryz.sizeOf3
 v3:=Tryz.zeroValue3
 t4:=Tryz.underlying4
 a4:=Tryz.isAgg4
 z4:=Tryz.sizeOf4
 v4:=Tryz.zeroValue4
 t22:=Tryz.underlying29
 a22:=Tryz.isAgg29
 z22:=Tryz.sizeOf29
 v22:=Tryz.zeroValue29
 i3:=by kernel_rfl
theorem k5Z(b off cap:Nat)(zs:List Int)(w:World)(hH:Holds (Value.int .i64) w b off zs.toArray)(hs:zs.length<1000)(hc:zs.length<=cap) :
 Calls Tryz.prog 108 #[.slice (some ⟨b,off,none⟩) zs.length cap] w fun e w'=>
  e=.returned (.slice (some ⟨b,off,none⟩) (Lib.compact zs).length cap)/\∃q,w'=putRow (Value.int .i64) (Sort.ahead w q) b off (Lib.compact zs++List.replicate (zs.length-(Lib.compact zs).length) 0).toArray:=
 calls_of_every_depth fun D=>AnyS.slices_Compact_int_in Tryz.compactInts D b off cap zs w hH zz1 hc
theorem k6D(a:Option Addr)(cap:Nat)(w:World):Calls Tryz.prog 108 #[.slice a 0 cap] w fun e w'=>e=.returned (.slice a 0 cap)/\w'=w:=
 calls_of_every_depth fun D=>AnyS.slices_Compact_int_empty_in Tryz.compactInts D a cap w
theorem k7r{W:World}{pb po c n k:Nat}{cs:List Value}{os:Array Obj}(zs:List Int)(h:Row W (.slice (some ⟨pb,po,none⟩) n c) 3 1 n cs (some pb))(hn0:0<n)(hz:zs.length=n) :
 Row (grow (putRow (Value.int .i64) (Sort.ahead W k) pb po zs.toArray) os) (.slice (some ⟨pb,po,none⟩) n c) 3 1 n (zs.map (Value.int .i64)) (some pb)/\Only (fun b=>b=pb) W (grow (putRow (Value.int .i64) (Sort.ahead W k) pb po zs.toArray) os):=by
 obtain⟨hl,⟨_,h0,_⟩|⟨b,off,cap,cur,e,hv,hh,hc,hs,hr⟩⟩:=h
 ·exact zz1
 cases e;simp only[Value.slice.injEq,Option.some.injEq,Addr.mk.injEq,true_and,and_true]at hv;obtain⟨rfl,rfl⟩:=hv;have hlt:=k03 hh;have keep:∀b,b<W.heap.size->b≠pb->(grow (putRow (Value.int .i64) (Sort.ahead W k) pb po zs.toArray) os).heap[b]? = W.heap[b]?:=fun b hb hne=>by
  show((W.heap.modify pb _)++os)[b]? = _;rw[Array.getElem?_append_left (by simpa using hb),Array.getElem?_modify,if_neg (fun h=>hne h.symm)]
 have hnew:(grow (putRow (Value.int .i64) (Sort.ahead W k) pb po zs.toArray) os).heap[pb]? = some (.cells (putCells (Value.int .i64) po zs.toArray cur) 3 (0,0)):=by
  show((W.heap.modify pb _)++os)[pb]? = _;rw[Array.getElem?_append_left (by simpa using hlt),Array.getElem?_modify,if_pos rfl,hh];rfl
 refine⟨⟨by simp[hz],.inr ⟨pb,po,c,_,rfl,rfl,hnew,hc,by simp[putCells];omega,fun j hj=>?_⟩⟩,⟨rfl,rfl,rfl,by simp[grow,putRow,mapBlock,Sort.ahead],fun b hb hne=>keep b hb hne⟩⟩;have hj':j<zs.length:=by simpa using hj
 have hcs:po+j<cur.size:=zz1
 simp[putCells,hj',hcs]
theorem Row.first{w:World}{A:Addr}{c n m T sz:Nat}{cs:List Value}{g:Option Nat}(h:Row w (.slice (some A) n c) T sz n cs g)(hm:m<=n):Row w (.slice (some A) m c) T sz m (cs.take (m*sz)) g:=by
 obtain⟨hl,⟨hv,_⟩|⟨b,off,cap,cur,e,hv,hh,hc,hs,hr⟩⟩:=h
 ·simp at hv
 ·simp only[Value.slice.injEq,Option.some.injEq,true_and]at hv
  obtain⟨rfl,rfl⟩:=hv;have:m*sz<=n*sz:=Nat.mul_le_mul_right _ hm;refine⟨by rw[List.length_take];omega,.inr ⟨b,off,c,cur,e,rfl,hh,zz1,hs,fun j hj=>?_⟩⟩;rw[List.length_take]at hj;rw[List.getElem?_take_of_lt zz1];exact hr j zz1
end Go.Proofs.YtdopmlopafgonaaGreatDoor.Own
