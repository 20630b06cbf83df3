/- Parts of the proof. No condition. -/
import Derived.Shelf.SlicesE.Clone
import Derived.Test.YtfnopgdcaanaiaaGreatDoorProg
import Derived.Shelf.Strings.OnBuilder
import Derived.Shelf.Strconv.Itoa3
import Derived.Shelf.Strings.LastIndex
import Derived.Shelf.Strings.Prefix
import Derived.Shelf.SlSortCmp.NoneTotal
import Derived.Test.YtfnopgdcaanaiaaGreatDoorU01
set_option linter.all false
set_option maxRecDepth 100000
set_option maxHeartbeats 8000000
namespace Go.Proofs.YtfnopgdcaanaiaaGreatDoor
open Go.Proofs.Tryz
section
open Go.RowKit
def cmpVal(a b:List UInt8):Value:=if Np.aD a&&Np.aD b then .tuple #[.int .i64 (Np.aH a b),.int .i64 0] else .tuple #[.int .i64 0,.int .i64 11]
theorem compare_any(a b:ByteArray)(ha:a.size<=140737488355328)(hb:b.size<=140737488355328)(w:World) :
 Calls prog 137 #[.string a,.string b] w (aeJ w.heap.size w (cmpVal a.data.toList b.data.toList)):=
 (D.compare_any a b ha hb w).mono λ_ _ h=>⟨h.1,h.2.low⟩
end
end Go.Proofs.YtfnopgdcaanaiaaGreatDoor
namespace Go.Proofs
open YtfnopgdcaanaiaaGreatDoor
open Go.Shelf
def Tryz.sortSpan_ren:Go.Shelf.Ren:=⟨fun | 6=>121 | 15=>186 | 14=>205 | 28=>259 | 29=>260 | 20=>273 | 21=>274 | 22=>275 | 23=>276 | 24=>277 | 25=>278 | 26=>279 | 27=>280 | 46=>335 | 47=>322 | 48=>323 | 49=>336 | 50=>337 | 57=>359 | n=>n,fun | 22=>55 | 24=>110 | 25=>189 | 3=>3 | 39=>249 | 0=>0 | 53=>92 | 55=>48 | 4=>4 | 46=>305 | 45=>304 | 50=>214 | 5=>5 | 9=>9 | 66=>351 | 70=>355 | 76=>376 | 77=>377 | n=>n,fun | n=>n⟩
theorem Tryz.sortSpan:Go.Proofs.SlLaysF0.n6 Tryz.prog Tryz.sortSpan_ren:={
 mixed:=by kernel_rfl
 f6:=⟨Tryz.f121.name,by decide,Tryz.func121.trans (adQ)⟩
 f14:=⟨Tryz.f205.name,by decide,Tryz.func205.trans (adQ)⟩
 f15:=Tryz.func186.trans (adQ)
 f20:=⟨Tryz.f273.name,by decide,Tryz.func273.trans (adQ)⟩
 f21:=⟨Tryz.f274.name,by decide,Tryz.func274.trans (adQ)⟩
 f22:=⟨Tryz.f275.name,by decide,Tryz.func275.trans (adQ)⟩
 f23:=⟨Tryz.f276.name,by decide,Tryz.func276.trans (adQ)⟩
 f24:=⟨Tryz.f277.name,by decide,Tryz.func277.trans (adQ)⟩
 f25:=⟨Tryz.f278.name,by decide,Tryz.func278.trans (adQ)⟩
 f26:=⟨Tryz.f279.name,by decide,Tryz.func279.trans (adQ)⟩
 f27:=⟨Tryz.f280.name,by decide,Tryz.func280.trans (adQ)⟩
 f28:=Tryz.func259.trans (adQ)
 f29:=Tryz.func260.trans (adQ)
 f46:=⟨Tryz.f335.name,by decide,Tryz.func335.trans (adQ)⟩
 f47:=Tryz.func322.trans (adQ)
 f48:=Tryz.func323.trans (adQ)
 f49:=⟨Tryz.f336.name,by decide,Tryz.func336.trans (adQ)⟩
 f50:=⟨Tryz.f337.name,by decide,Tryz.func337.trans (adQ)⟩
 f57:=⟨Tryz.f359.name,by decide,Tryz.func359.trans (adQ)⟩
 t0:=Tryz.underlying0
 a0:=Tryz.isAgg0
 z0:=Tryz.sizeOf0
 v0:=Tryz.zeroValue0
 t3:=Tryz.underlying3
 a3:=Tryz.isAgg3
 z3:=Tryz.sizeOf3
 v3:=Tryz.zeroValue3
 t4:=Tryz.underlying4
 a4:=Tryz.isAgg4
 z4:=Tryz.sizeOf4
 v4:=Tryz.zeroValue4
 t5:=Tryz.underlying5
 a5:=Tryz.isAgg5
 z5:=Tryz.sizeOf5
 v5:=Tryz.zeroValue5
 t9:=Tryz.underlying9
 a9:=Tryz.isAgg9
 z9:=Tryz.sizeOf9
 v9:=Tryz.zeroValue9
 t22:=Tryz.underlying55
 a22:=Tryz.isAgg55
 z22:=Tryz.sizeOf55
 v22:=Tryz.zeroValue55
 t25:=Tryz.underlying189
 a25:=Tryz.isAgg189
 z25:=Tryz.sizeOf189
 v25:=Tryz.zeroValue189
 t39:=Tryz.underlying249
 a39:=Tryz.isAgg249
 z39:=Tryz.sizeOf249
 v39:=Tryz.zeroValue249
 t45:=Tryz.underlying304
 a45:=Tryz.isAgg304
 z45:=Tryz.sizeOf304
 v45:=Tryz.zeroValue304
 t46:=Tryz.underlying305
 a46:=Tryz.isAgg305
 z46:=Tryz.sizeOf305
 v46:=Tryz.zeroValue305
 t50:=Tryz.underlying214
 a50:=Tryz.isAgg214
 z50:=Tryz.sizeOf214
 v50:=Tryz.zeroValue214
 t53:=Tryz.underlying92
 a53:=Tryz.isAgg92
 z53:=Tryz.sizeOf92
 v53:=Tryz.zeroValue92
 t55:=Tryz.underlying48
 a55:=Tryz.isAgg48
 z55:=Tryz.sizeOf48
 v55:=Tryz.zeroValue48
 t66:=Tryz.underlying351
 a66:=Tryz.isAgg351
 z66:=Tryz.sizeOf351
 v66:=Tryz.zeroValue351
 t70:=Tryz.underlying355
 a70:=Tryz.isAgg355
 z70:=Tryz.sizeOf355
 v70:=Tryz.zeroValue355
 t76:=Tryz.underlying376
 a76:=Tryz.isAgg376
 z76:=Tryz.sizeOf376
 v76:=Tryz.zeroValue376
 t77:=Tryz.underlying377
 a77:=Tryz.isAgg377
 z77:=Tryz.sizeOf377
 v77:=Tryz.zeroValue377 }
end Go.Proofs
namespace Go.Proofs.YtfnopgdcaanaiaaGreatDoor
open Go.Proofs.Tryz
section
open Go.RowKit
section
variable {P:Program} {ops:Array Oper} {md:Region.Mode} {C:World->Prop}
end
end
end Go.Proofs.YtfnopgdcaanaiaaGreatDoor
namespace Go.Proofs
open YtfnopgdcaanaiaaGreatDoor
open Go.Shelf
def Tryz.laysSort6_ren:Go.Shelf.Ren:=⟨fun | 6=>135 | 15=>186 | 14=>213 | 28=>259 | 29=>260 | 20=>289 | 21=>290 | 22=>291 | 23=>292 | 24=>293 | 25=>294 | 26=>295 | 27=>296 | 46=>342 | 47=>322 | 48=>323 | 49=>343 | 50=>344 | 57=>362 | n=>n,fun | 22=>116 | 24=>9 | 25=>212 | 3=>3 | 39=>249 | 0=>0 | 53=>92 | 55=>48 | 4=>4 | 46=>305 | 45=>304 | 50=>214 | 5=>5 | 9=>9 | 66=>351 | 70=>355 | 76=>376 | 77=>377 | n=>n,fun | n=>n⟩
theorem Tryz.laysSort6:Go.Proofs.SlLaysF.n6 Tryz.prog Tryz.laysSort6_ren:={
 mixed:=by kernel_rfl
 f6:=⟨Tryz.f135.name,by decide,Tryz.func135.trans (adQ)⟩
 f14:=⟨Tryz.f213.name,by decide,Tryz.func213.trans (adQ)⟩
 f15:=Tryz.func186.trans (adQ)
 f20:=⟨Tryz.f289.name,by decide,Tryz.func289.trans (adQ)⟩
 f21:=⟨Tryz.f290.name,by decide,Tryz.func290.trans (adQ)⟩
 f22:=⟨Tryz.f291.name,by decide,Tryz.func291.trans (adQ)⟩
 f23:=⟨Tryz.f292.name,by decide,Tryz.func292.trans (adQ)⟩
 f24:=⟨Tryz.f293.name,by decide,Tryz.func293.trans (adQ)⟩
 f25:=⟨Tryz.f294.name,by decide,Tryz.func294.trans (adQ)⟩
 f26:=⟨Tryz.f295.name,by decide,Tryz.func295.trans (adQ)⟩
 f27:=⟨Tryz.f296.name,by decide,Tryz.func296.trans (adQ)⟩
 f28:=Tryz.func259.trans (adQ)
 f29:=Tryz.func260.trans (adQ)
 f46:=⟨Tryz.f342.name,by decide,Tryz.func342.trans (adQ)⟩
 f47:=Tryz.func322.trans (adQ)
 f48:=Tryz.func323.trans (adQ)
 f49:=⟨Tryz.f343.name,by decide,Tryz.func343.trans (adQ)⟩
 f50:=⟨Tryz.f344.name,by decide,Tryz.func344.trans (adQ)⟩
 f57:=⟨Tryz.f362.name,by decide,Tryz.func362.trans (adQ)⟩
 t0:=Tryz.underlying0
 a0:=Tryz.isAgg0
 z0:=Tryz.sizeOf0
 v0:=Tryz.zeroValue0
 t3:=Tryz.underlying3
 a3:=Tryz.isAgg3
 z3:=Tryz.sizeOf3
 v3:=Tryz.zeroValue3
 t4:=Tryz.underlying4
 a4:=Tryz.isAgg4
 z4:=Tryz.sizeOf4
 v4:=Tryz.zeroValue4
 t5:=Tryz.underlying5
 a5:=Tryz.isAgg5
 z5:=Tryz.sizeOf5
 v5:=Tryz.zeroValue5
 t9:=Tryz.underlying9
 a9:=Tryz.isAgg9
 z9:=Tryz.sizeOf9
 v9:=Tryz.zeroValue9
 t22:=Tryz.underlying116
 a22:=Tryz.isAgg116
 z22:=Tryz.sizeOf116
 v22:=Tryz.zeroValue116
 a24:=Tryz.isAgg9
 z24:=Tryz.sizeOf9
 t25:=Tryz.underlying212
 a25:=Tryz.isAgg212
 z25:=Tryz.sizeOf212
 v25:=Tryz.zeroValue212
 t39:=Tryz.underlying249
 a39:=Tryz.isAgg249
 z39:=Tryz.sizeOf249
 v39:=Tryz.zeroValue249
 t45:=Tryz.underlying304
 a45:=Tryz.isAgg304
 z45:=Tryz.sizeOf304
 v45:=Tryz.zeroValue304
 t46:=Tryz.underlying305
 a46:=Tryz.isAgg305
 z46:=Tryz.sizeOf305
 v46:=Tryz.zeroValue305
 t50:=Tryz.underlying214
 a50:=Tryz.isAgg214
 z50:=Tryz.sizeOf214
 v50:=Tryz.zeroValue214
 t53:=Tryz.underlying92
 a53:=Tryz.isAgg92
 z53:=Tryz.sizeOf92
 v53:=Tryz.zeroValue92
 t55:=Tryz.underlying48
 a55:=Tryz.isAgg48
 z55:=Tryz.sizeOf48
 v55:=Tryz.zeroValue48
 t66:=Tryz.underlying351
 a66:=Tryz.isAgg351
 z66:=Tryz.sizeOf351
 v66:=Tryz.zeroValue351
 t70:=Tryz.underlying355
 a70:=Tryz.isAgg355
 z70:=Tryz.sizeOf355
 v70:=Tryz.zeroValue355
 t76:=Tryz.underlying376
 a76:=Tryz.isAgg376
 z76:=Tryz.sizeOf376
 v76:=Tryz.zeroValue376
 t77:=Tryz.underlying377
 a77:=Tryz.isAgg377
 z77:=Tryz.sizeOf377
 v77:=Tryz.zeroValue377 }
def Tryz.laysSort06_ren:Go.Shelf.Ren:=⟨fun | 6=>135 | 15=>186 | 14=>213 | 28=>259 | 29=>260 | 20=>289 | 21=>290 | 22=>291 | 23=>292 | 24=>293 | 25=>294 | 26=>295 | 27=>296 | 46=>342 | 47=>322 | 48=>323 | 49=>343 | 50=>344 | 57=>362 | n=>n,fun | 22=>116 | 24=>9 | 25=>212 | 3=>3 | 39=>249 | 0=>0 | 53=>92 | 55=>48 | 4=>4 | 46=>305 | 45=>304 | 50=>214 | 5=>5 | 9=>9 | 66=>351 | 70=>355 | 76=>376 | 77=>377 | n=>n,fun | n=>n⟩
theorem Tryz.laysSort06:Go.Proofs.SlLaysF0.n6 Tryz.prog Tryz.laysSort06_ren:={
 mixed:=by kernel_rfl
 f6:=⟨Tryz.f135.name,by decide,Tryz.func135.trans (adQ)⟩
 f14:=⟨Tryz.f213.name,by decide,Tryz.func213.trans (adQ)⟩
 f15:=Tryz.func186.trans (adQ)
 f20:=⟨Tryz.f289.name,by decide,Tryz.func289.trans (adQ)⟩
 f21:=⟨Tryz.f290.name,by decide,Tryz.func290.trans (adQ)⟩
 f22:=⟨Tryz.f291.name,by decide,Tryz.func291.trans (adQ)⟩
 f23:=⟨Tryz.f292.name,by decide,Tryz.func292.trans (adQ)⟩
 f24:=⟨Tryz.f293.name,by decide,Tryz.func293.trans (adQ)⟩
 f25:=⟨Tryz.f294.name,by decide,Tryz.func294.trans (adQ)⟩
 f26:=⟨Tryz.f295.name,by decide,Tryz.func295.trans (adQ)⟩
 f27:=⟨Tryz.f296.name,by decide,Tryz.func296.trans (adQ)⟩
 f28:=Tryz.func259.trans (adQ)
 f29:=Tryz.func260.trans (adQ)
 f46:=⟨Tryz.f342.name,by decide,Tryz.func342.trans (adQ)⟩
 f47:=Tryz.func322.trans (adQ)
 f48:=Tryz.func323.trans (adQ)
 f49:=⟨Tryz.f343.name,by decide,Tryz.func343.trans (adQ)⟩
 f50:=⟨Tryz.f344.name,by decide,Tryz.func344.trans (adQ)⟩
 f57:=⟨Tryz.f362.name,by decide,Tryz.func362.trans (adQ)⟩
 t0:=Tryz.underlying0
 a0:=Tryz.isAgg0
 z0:=Tryz.sizeOf0
 v0:=Tryz.zeroValue0
 t3:=Tryz.underlying3
 a3:=Tryz.isAgg3
 z3:=Tryz.sizeOf3
 v3:=Tryz.zeroValue3
 t4:=Tryz.underlying4
 a4:=Tryz.isAgg4
 z4:=Tryz.sizeOf4
 v4:=Tryz.zeroValue4
 t5:=Tryz.underlying5
 a5:=Tryz.isAgg5
 z5:=Tryz.sizeOf5
 v5:=Tryz.zeroValue5
 t9:=Tryz.underlying9
 a9:=Tryz.isAgg9
 z9:=Tryz.sizeOf9
 v9:=Tryz.zeroValue9
 t22:=Tryz.underlying116
 a22:=Tryz.isAgg116
 z22:=Tryz.sizeOf116
 v22:=Tryz.zeroValue116
 t25:=Tryz.underlying212
 a25:=Tryz.isAgg212
 z25:=Tryz.sizeOf212
 v25:=Tryz.zeroValue212
 t39:=Tryz.underlying249
 a39:=Tryz.isAgg249
 z39:=Tryz.sizeOf249
 v39:=Tryz.zeroValue249
 t45:=Tryz.underlying304
 a45:=Tryz.isAgg304
 z45:=Tryz.sizeOf304
 v45:=Tryz.zeroValue304
 t46:=Tryz.underlying305
 a46:=Tryz.isAgg305
 z46:=Tryz.sizeOf305
 v46:=Tryz.zeroValue305
 t50:=Tryz.underlying214
 a50:=Tryz.isAgg214
 z50:=Tryz.sizeOf214
 v50:=Tryz.zeroValue214
 t53:=Tryz.underlying92
 a53:=Tryz.isAgg92
 z53:=Tryz.sizeOf92
 v53:=Tryz.zeroValue92
 t55:=Tryz.underlying48
 a55:=Tryz.isAgg48
 z55:=Tryz.sizeOf48
 v55:=Tryz.zeroValue48
 t66:=Tryz.underlying351
 a66:=Tryz.isAgg351
 z66:=Tryz.sizeOf351
 v66:=Tryz.zeroValue351
 t70:=Tryz.underlying355
 a70:=Tryz.isAgg355
 z70:=Tryz.sizeOf355
 v70:=Tryz.zeroValue355
 t76:=Tryz.underlying376
 a76:=Tryz.isAgg376
 z76:=Tryz.sizeOf376
 v76:=Tryz.zeroValue376
 t77:=Tryz.underlying377
 a77:=Tryz.isAgg377
 z77:=Tryz.sizeOf377
 v77:=Tryz.zeroValue377 }
open Go.RowKit Go.Lib Go.Sort in
theorem Tryz.slices_SortFunc_none{α:Type}[Inhabited α](p:Option Addr)(cap:Nat)(fv:Value)(w:World) :
 Calls Tryz.prog 135 #[.slice p 0 cap,fv] w λe w'=>e = .returned (.tuple #[])/\w'=w:=AnyF.slices_SortFunc_none Tryz.laysSort06 p cap fv w
open Go.RowKit Go.Lib Go.Sort in
theorem Tryz.slices_SortFunc_total{α:Type}[Inhabited α](enc:α->Value)(h1:OneCell enc)(cf:α->α->Int)(hO:SWO (ltOf cf))(g:Nat)(cb:Array Value)(blk off cap:Nat)(d:Array α)(w:World)(eg:∀ args w,(callFunc g args).run Tryz.prog w = .ok (.enter g args) w)(yD:CmpLays1 Tryz.prog g cb enc cf blk off d.size w)(hH:Holds enc w blk off d)(Tw:blk<w.heap.size)(al:d.size<4611686018427387904)(hT:∀ x y,(ltOf cf) x y=false->(ltOf cf) y x=false->x=y) :
 Calls Tryz.prog 135 #[.slice (some ⟨blk,off,none⟩) d.size cap,.func (.func g) #[] cb] w λe w'=>
  e = .returned (.tuple #[])/\∃ n os,w'=sortWorld enc w blk off n (d.toList.mergeSort λx y=>!(ltOf cf) y x).toArray os:=Any.slices_SortFunc_total Tryz.laysSort6 enc h1 cf hO g cb blk off cap d w eg yD hH Tw al hT
end Go.Proofs
namespace Go.Proofs.YtfnopgdcaanaiaaGreatDoor
open Go.Proofs.Tryz
section
open Go.RowKit
section
variable {P:Program} {ops:Array Oper} {md:Region.Mode} {C:World->Prop} {Q:Exit->Act->World->Prop}
theorem CZ(a:Act)(d:Nat)(v:Value)(h:d<a.tmps.size):(a.put (some d) v).eval (.tmp d)=v:=by
 simp[Act.put,Act.eval,h]
theorem tY(a:Act)(d j:Nat)(v:Value)(h:d≠j):(a.put (some d) v).eval (.tmp j)=a.eval (.tmp j):=by
 simp[Act.put,Act.eval,h,Array.getD_eq_getD_getElem?]
structure mw(ops:Array Oper)(D:List Nat)(dst:Nat->Nat)(val:Nat->Value)(base:List (Nat×Value))(m:Nat)(ds:List Deferred)(f:Nat)(listed:Array Bool)(a:Act):Prop where
 defs:a.defers=ds
 size:listed.size=ops.size
 left:listed.toList.count false=f
 not:∀ i,i<ops.size->i∉D->listed.getD i true=false
 val:∀ i∈D,listed.getD i false=true->a.eval (.tmp (dst i))=val i
 base:∀ q∈base,a.eval (.tmp q.1)=q.2
 tmps:a.tmps.size=m
theorem mw.step{ds:List Deferred}{D:List Nat}{dst:Nat->Nat}{val:Nat->Value}{base:List (Nat×Value)}{m f:Nat}{listed:Array Bool}{a:Act}{i:Nat}{o:Oper}(hg:mw ops D dst val base m ds (f+1) listed a)(hi:i∈D)(hr:listed.getD i true=false)(ho:ops[i]?=some o)(hd:o.dst=some (dst i))(aa:dst i<m)
 (tz:∀ j∈D,j≠i->dst i≠dst j) (hb:∀ q∈base,dst i≠q.1) (hy:YieldsIn P ops C o (val i) a):qOp P ops C i (mw ops D dst val base m ds f (listed.setIfInBounds i true)) a:=by
 refine hy.qOp ho ?_;rw[hd];have Ue:i<ops.size:=(eQ.1 ho).1;have dB:i<listed.size:=by rw[hg.size];exact Ue
 have ac:listed[i]=false:=by simpa [Array.getD,dB] using hr
 refine⟨by simp[Act.put,hg.defs],by simp[hg.size],?_,?_,?_,?_,?_⟩
 ·have h1:=hg.left;rw[Array.toList_setIfInBounds,List.count_set (by simpa using dB)];simp[ac,h1]
 ·intro j hj oJ;have hne:i≠j:=λe=>oJ (e ▸ hi)
  have:=hg.not j hj oJ
  simpa [Array.getD,hg.size,hj,Array.getElem_setIfInBounds,hne] using this
 ·intro j hj hl;by_cases hne:i=j
  ·subst hne;exact CZ a _ _ (by rw[hg.tmps];exact aa)
  ·rw[tY _ _ _ _ (tz j hj (λe=>hne e.symm))];refine hg.val j hj ?_;by_cases jZ:j<listed.size
   ·simpa [Array.getD,jZ,Array.getElem_setIfInBounds,hne] using hl
   ·simp[Array.getD,jZ] at hl
 ·intro q hq;rw[tY _ _ _ _ (hb q hq)];exact hg.base q hq
 ·simp[Act.put,hg.tmps]
theorem mw.none{ds:List Deferred}{D:List Nat}{dst:Nat->Nat}{val:Nat->Value}{base:List (Nat×Value)}{m:Nat}{listed:Array Bool}{a:Act}{p:Nat}(hp:p<ops.size)(mW:p∉D):¬ mw ops D dst val base m ds 0 listed a:=λhg=>by
 have h1:=hg.not p hp mW;have dB:p<listed.size:=by rw[hg.size];exact hp
 have ac:listed[p]=false:=by simpa [Array.getD,dB] using h1
 have h2:=hg.left;rw[List.count_eq_zero] at h2;exact h2 (by rw[<-ac];simp)
theorem mw.start{D:List Nat}{dst:Nat->Nat}{val:Nat->Value}{base:List (Nat×Value)}{m:Nat}{a:Act}(hb:∀ q∈base,a.eval (.tmp q.1)=q.2)(hm:a.tmps.size=m):mw ops D dst val base m a.defers ops.size (Array.replicate ops.size false) a:=
 ⟨rfl,by simp,by simp,λi hi _=>by simp[Array.getD,hi],λi _ h=>by simp[Array.getD] at h,hb,hm⟩
def Hv(ops:Array Oper)(D:List Nat)(p:Nat):Bool:=(List.range ops.size).all λi=>D.contains i||i == p||match ops[i]? with
 | some o=>o.after.any λe=>Region.binds .any e&&!D.contains e.on&&decide (e.on<ops.size)
 | none=>true
theorem ZM{D:List Nat}{p:Nat}(h:Hv ops D p=true):∀ (i:Nat) (o:Oper),ops[i]?=some o->i∉D->i≠p->∃ e∈o.after,Region.binds .any e=true/\e.on∉D/\e.on<ops.size:=by
 intro i o ho hD hp;unfold Hv at h;rw[List.all_eq_true] at h;have h1:=h i (by rw[List.mem_range];exact (eQ.1 ho).1);rw[ho] at h1;simp only[Bool.or_eq_true,List.contains_iff_mem,hD,beq_iff_eq,hp,false_or] at h1;rw[Array.any_eq_true'] at h1;obtain⟨e,he,h2⟩:=h1;simp only[Bool.and_eq_true,Bool.not_eq_true',Qa] at h2;have h3:e.on∉D:=λhm=>by
  have:=h2.1.2
  rw[List.contains_iff_mem.2 hm] at this
  cases this
 exact⟨e,he,h2.1.1,h3,h2.2⟩
end
section
variable {P:Program} {ops:Array Oper} {Q:Exit->Act->World->Prop}
structure Held(ops:Array Oper)(D A:List Nat)(dst:Nat->Nat)(val:Nat->Value)(base:List (Nat×Value))(m:Nat)(ds:List Deferred)(f:Nat)(listed:Array Bool)(a:Act):Prop where
 good:mw ops D dst val base m ds f listed a
 done:∀ i∈A,listed.getD i false=true
 clo:∀ j o,ops[j]?=some o->listed.getD j false=true->∀ e∈o.after,Region.binds .any e=true->listed.getD e.on false=true
theorem CL{listed:Array Bool}{i j:Nat}(h:(listed.setIfInBounds i true).getD j false=true):j=i\/listed.getD j false=true:=by
 by_cases dz:i=j
 ·exact .inl dz.symm
 ·rw[getD_set_ne false dz] at h;exact .inr h
theorem vK{listed:Array Bool}{i j:Nat}(h:listed.getD j false=true):(listed.setIfInBounds i true).getD j false=true:=by
 by_cases dz:i=j
 ·subst dz;have hl:i<listed.size:=by
   by_cases hl:i<listed.size
   ·exact hl
   ·simp[Array.getD,hl] at h
  simp[Array.getD,hl]
 ·rw[getD_set_ne false dz];exact h
theorem J1{listed:Array Bool}{i:Nat}(hr:i∈Region.ready .any ops listed)(h:∀ j o,ops[j]?=some o->listed.getD j false=true->∀ e∈o.after,Region.binds .any e=true->listed.getD e.on false=true) :
 ∀ j o,ops[j]?=some o->(listed.setIfInBounds i true).getD j false=true->∀ e∈o.after,Region.binds .any e=true->(listed.setIfInBounds i true).getD e.on false=true:=λj o ho hj e he hb=>by
 refine vK ?_;rcases CL hj with rfl | hj
 ·obtain⟨_,o',ho',aY⟩:=mem_ready.1 hr;rw[ho] at ho';cases ho';exact aY e he hb
 ·exact h j o ho hj e he hb
theorem Held.act{D A D':List Nat}{dst:Nat->Nat}{val val':Nat->Value}{base:List (Nat×Value)}{m p f:Nat}{ds:List Deferred}{listed:Array Bool}{a:Act}{v:Value}(h:Held ops D A dst val base m ds (f+1) listed a)(hp:p∈Region.ready .any ops listed)
 (mW:p∉D) (hD:∀ i,i∉D'->i∉D/\i≠p) (hval:∀ i∈D,val' i=val i) (Gx:val' p=v) (aa:dst p<m) (tz:∀ j∈D,dst p≠dst j) (hb:∀ q∈base,dst p≠q.1) (eC:p<ops.size) :
 Held ops D' (p::A) dst val' base m ds f (listed.setIfInBounds p true) (a.put (some (dst p)) v):=by
 have hg:=h.good;have eP:=(mem_ready.1 hp).1;have dB:p<listed.size:=by rw[hg.size];exact eC
 have ac:listed[p]=false:=by simpa [Array.getD,dB] using eP
 refine⟨⟨by simp[Act.put,hg.defs],by simp[hg.size],?_,?_,?_,?_,by simp[Act.put,hg.tmps]⟩,?_,J1 hp h.clo⟩
 ·have h1:=hg.left;rw[Array.toList_setIfInBounds,List.count_set (by simpa using dB)];simp[ac,h1]
 ·intro j hj oJ;obtain⟨h1,h2⟩:=hD j oJ
  have:=hg.not j hj h1
  rw[getD_set_ne true (λe=>h2 e.symm)];exact this
 ·intro j hj hl;rcases CL hl with rfl | hl
  ·rw[Gx];exact CZ a _ _ (by rw[hg.tmps];exact aa)
  ·have oJ:j∈D:=Decidable.byContradiction λoJ=>by
    by_cases yV:j<ops.size
    ·have h1:=hg.not j yV oJ;have h3:j<listed.size:=by rw[hg.size];exact yV
     simp[Array.getD,h3] at h1 hl;rw[h1] at hl;cases hl
    ·have h3:¬ j<listed.size:=by rw[hg.size];exact yV
     simp[Array.getD,h3] at hl
   rw[tY _ _ _ _ (tz j oJ),hval j oJ];exact hg.val j oJ hl
 ·intro q hq;rw[tY _ _ _ _ (hb q hq)];exact hg.base q hq
 ·intro i hi;rcases List.mem_cons.1 hi with rfl | hi
  ·simp[Array.getD,dB]
  ·exact vK (h.done i hi)
def CI(ops:Array Oper)(p:Nat):Bool:=(List.range ops.size).all λi=>i == p||(List.range ops.size).any λj=>decide (i<j)&&match ops[j]? with
 | some o=>o.after.any λe=>Region.binds .any e&&e.on == i
 | none=>false
theorem Held.all{D A:List Nat}{dst:Nat->Nat}{val:Nat->Value}{base:List (Nat×Value)}{m p f:Nat}{ds:List Deferred}{listed:Array Bool}{a:Act}(h:Held ops D A dst val base m ds (f+1) listed a)(hp:p∈Region.ready .any ops listed)(hl:CI ops p=true) :
 f=0/\∀ i,i<ops.size->i≠p->listed.getD i false=true:=by
 unfold CI at hl;rw[List.all_eq_true] at hl;have key:∀ k i,ops.size - i=k->i<ops.size->i≠p->listed.getD i false=true:=by
  intro k
  induction k using Nat.strongRecOn with
  | ind k ih=>
   intro i hk his hip;have h1:=hl i (by rw[List.mem_range];exact his);simp only[Bool.or_eq_true,beq_iff_eq,hip,false_or,List.any_eq_true,List.mem_range,Bool.and_eq_true,Qa] at h1;obtain⟨j,hj,dz,h2⟩:=h1;rw[pQ hj] at h2;simp only[Array.any_eq_true',Bool.and_eq_true,beq_iff_eq] at h2;obtain⟨e,he,hb,rfl⟩:=h2;by_cases yU:j=p
   ·subst yU;obtain⟨_,o,ho,aY⟩:=mem_ready.1 hp;rw[pQ hj] at ho
    cases ho
    exact aY e he hb
   ·exact h.clo j _ (pQ hj) (ih (ops.size - j) (by omega) j rfl hj yU) e he hb
 have eC:p<ops.size:=by
  obtain⟨_,o,ho,_⟩:=mem_ready.1 hp;exact (eQ.1 ho).1
 refine⟨?_,λi hi hne=>key _ i rfl hi hne⟩;have al:=h.good.size;have alY:=h.good.left;have hc:listed.toList.count false<=1:=by
  have tM:p<listed.toList.length:=by simp[al,eC]
  have aY:∀ j (hj:j<listed.toList.length),j≠p->listed.toList[j]=true:=λj hj hne=>by
   have hj':j<listed.size:=by simpa using hj
   have:=key _ j rfl (by rw[<-al];exact hj') hne
   simpa [Array.getD,hj'] using this
  have e:listed.toList=listed.toList.take p++listed.toList[p]::listed.toList.drop (p+1):=by
   rw[<-sQ tM,List.take_append_drop]
  rw[e,List.count_append,List.count_cons];have c1:(listed.toList.take p).count false=0:=List.count_eq_zero.2 λhm=>by
   obtain⟨j,hj,qa⟩:=nQ.1 hm;rw[List.getElem_take] at qa;rw[List.length_take] at hj;rw[aY j (by omega) (by omega)] at qa
   cases qa
  have c2:(listed.toList.drop (p+1)).count false=0:=List.count_eq_zero.2 λhm=>by
   obtain⟨j,hj,qa⟩:=nQ.1 hm;rw[List.getElem_drop] at qa;rw[List.length_drop] at hj;rw[aY _ (by omega) (by omega)] at qa
   cases qa
  rw[c1,c2];split <;> omega
 omega
theorem Held.start{D:List Nat}{dst:Nat->Nat}{val:Nat->Value}{base:List (Nat×Value)}{m:Nat}{a:Act}(hb:∀ q∈base,a.eval (.tmp q.1)=q.2)(hm:a.tmps.size=m):Held ops D [] dst val base m a.defers ops.size (Array.replicate ops.size false) a:=
 ⟨mw.start hb hm,(λ_ h=>by cases h),λj o ho hj=>by simp[Array.getD] at hj⟩
end
end
section
open Go.RowKit
theorem Nl{md:Region.Mode}{ops:Array Oper}{listed:Array Bool}(h:∀ i,i<ops.size->listed.getD i false=true)(hs:listed.size=ops.size):Region.ready md ops listed = []:=by
 apply List.eq_nil_iff_forall_not_mem.2;intro i hi;obtain⟨h1,o,ho,_⟩:=mem_ready.1 hi;have aa:=(eQ.1 ho).1;have h2:=h i aa;have h3:i<listed.size:=by rw[hs];exact aa
 simp[Array.getD,h3] at h1 h2;rw[h1] at h2;cases h2
def ni(a:Act):List (Nat×Value)->Act
 | []=>a
 | q::l=>ni (a.put (some q.1) q.2) l
theorem QY{a b:Act}(hs:a.tmps.size=b.tmps.size)(hd:a.defers=b.defers)(h:∀ j,a.eval (.tmp j)=b.eval (.tmp j)):a=b:=by
 obtain⟨t,d⟩:=a;obtain⟨t',d'⟩:=b;simp only at hs hd;subst hd;congr 1;apply Array.ext hs;intro i h1 h2
 have:=h i
 simpa [Act.eval,Array.getD_eq_getD_getElem?,h1,h2] using this
theorem Nd{a a0:Act}(hs:a.tmps.size=a0.tmps.size)(hd:a.defers=a0.defers):∀ (l:List (Nat×Value)),(∀ q∈l,q.1<a0.tmps.size)->(∀ q∈l,a.eval (.tmp q.1)=q.2)->(∀ j,(∀ q∈l,q.1≠j)->a.eval (.tmp j)=a0.eval (.tmp j))->a=ni a0 l:=by
 intro l
 induction l generalizing a0 with
 | nil=>intro _ _ h;exact QY hs hd (λj=>h j (λq hq=>by cases hq))
 | cons q l ih=>
  intro aa h1 h2;rw[ni];refine ih (by simpa [Act.put] using hs) (by simpa [Act.put] using hd) (λp hp=>by have:=aa p (mQ _ hp);simpa [Act.put] using this) (λp hp=>h1 p (mQ _ hp)) (λj hj=>?_);by_cases hq:q.1=j
  ·subst hq;rw[CZ _ _ _ (aa q (by simp))];exact h1 q (by simp)
  ·rw[tY _ _ _ _ hq];refine h2 j (λp hp=>?_);rcases List.mem_cons.1 hp with rfl | hp
   ·exact hq
   ·exact hj p hp
def mu(a0:Act)(m:Nat)(ds:List Nat):List (Nat×Value):=((List.range m).filter λj=>!ds.contains j).map λj=>(j,a0.eval (.tmp j))
theorem Yl{a0:Act}{m:Nat}{ds:List Nat} : ∀ q∈mu a0 m ds,a0.eval (.tmp q.1)=q.2:=λq hq=>by
 obtain⟨j,_,rfl⟩:=List.mem_map.1 hq;rfl
theorem G3{a0:Act}{m:Nat}{ds:List Nat}{d:Nat}(hd:d∈ds):∀ q∈mu a0 m ds,d≠q.1:=λq hq e=>by
 obtain⟨j,hj,rfl⟩:=List.mem_map.1 hq
 have:=(List.mem_filter.1 hj).2
 simp only at e;subst e;simp[hd] at this
theorem bC{a0 a:Act}{m:Nat}{ds:List Nat}(h:∀ q∈mu a0 m ds,a.eval (.tmp q.1)=q.2){j:Nat}(hj:j<m)(hd:j∉ds):a.eval (.tmp j)=a0.eval (.tmp j):=
 h (j,a0.eval (.tmp j)) (List.mem_map.2 ⟨j,List.mem_filter.2 ⟨List.mem_range.2 hj,by simpa using hd⟩,rfl⟩)
theorem Z6{P:Program}{c:Code}{Q:Exit->Act->World->Prop}{a:Act}{w:World}(h:∀ a0,a0=a->c.wp P Q a0 w):c.wp P Q a w:=h a rfl
variable {ops:Array Oper}
theorem Held.frame{D A:List Nat}{dst:Nat->Nat}{val:Nat->Value}{m f:Nat}{listed:Array Bool}{a a0:Act}(h:Held ops D A dst val (mu a0 m (D.map dst)) m a0.defers f listed a)(hm:a0.tmps.size=m)(aY:∀ i∈D,listed.getD i false=true)(aa:∀ i∈D,dst i<m) :
 a=ni a0 (D.map λi=>(dst i,val i)):=by
 refine Nd (by rw[h.good.tmps,hm]) h.good.defs _ (λq hq=>?_) (λq hq=>?_) (λj hj=>?_)
 ·obtain⟨i,hi,rfl⟩:=List.mem_map.1 hq;rw[hm];exact aa i hi
 ·obtain⟨i,hi,rfl⟩:=List.mem_map.1 hq;exact h.good.val i hi (aY i hi)
 ·by_cases yT:j<m
  ·refine bC h.good.base yT (λhd=>?_);obtain⟨i,hi,rfl⟩:=List.mem_map.1 hd;exact hj _ (List.mem_map.2 ⟨i,hi,rfl⟩) rfl
  ·have h1:=h.good.tmps;simp[Act.eval,Array.getD_eq_getD_getElem?,h1,hm,yT]
theorem adK{a0 a:Act}{m:Nat}{ds:List Nat}(h:∀ q∈mu a0 m ds,a.eval (.tmp q.1)=q.2){j:Nat}{v:Value}(e:a0.eval (.tmp j)=v)(hj:j<m:=by decide)(hd:j∉ds:=by decide):a.eval (.tmp j)=v:=(bC h hj hd).trans e
end
section
open Go.RowKit
section
variable {P:Program} {ops:Array Oper} {Q:Exit->Act->World->Prop}
theorem Nm{listed:Array Bool}(hw:∀ (i:Nat) (o:Oper),ops[i]?=some o->∀ e∈o.after,Region.binds .any e=true->e.on<i)(al:listed.size=ops.size):∀ p,p<ops.size->listed.getD p true=false->Region.ready .any ops listed≠[]:=by
 intro p
 induction p using Nat.strongRecOn with
 | _ p ih=>
  intro hp hl;by_cases aY:∀ e∈(ops[p]).after,Region.binds .any e=true->listed.getD e.on false=true
  ·intro h0
   have:p∈Region.ready .any ops listed:=mem_ready.2 ⟨hl,ops[p],pQ hp,aY⟩
   rw[h0] at this
   cases this
  ·simp only[Classical.not_forall] at aY;obtain⟨e,he,hb,hne⟩:=aY;have aa:=hw p _ (pQ hp) e he hb;refine ih e.on aa (by omega) ?_;have h1:e.on<listed.size:=by omega
   simpa [Array.getD,h1] using hne
def Hw(ops:Array Oper):Bool:=(List.range ops.size).all λi=>match ops[i]? with
 | some o=>o.after.all λe=>!Region.binds .any e||decide (e.on<i)
 | none=>true
theorem OA(h:Hw ops=true):∀ (i:Nat) (o:Oper),ops[i]?=some o->∀ e∈o.after,Region.binds .any e=true->e.on<i:=by
 intro i o ho e he hb;unfold Hw at h;rw[List.all_eq_true] at h;have h1:=h i (by rw[List.mem_range];exact (eQ.1 ho).1);rw[ho] at h1;simp only[Array.all_eq_true_iff_forall_mem,Bool.or_eq_true,Qa,Bool.not_eq_true'] at h1;exact (h1 e he).resolve_left (by rw[hb];simp)
theorem ZQ{w:World}{D A:List Nat}{dst:Nat->Nat}{val:Nat->Value}{base:List (Nat×Value)}{m p:Nat}{ds:List Deferred}
 (hw:∀ (i:Nat) (o:Oper),ops[i]?=some o->∀ e∈o.after,Region.binds .any e=true->e.on<i) (hp:p<ops.size) (mW:p∉D)
 (Vg:∀ (i:Nat) (o:Oper),ops[i]?=some o->i∉D->i≠p->∃ e∈o.after,Region.binds .any e=true/\e.on∉D/\e.on<ops.size)
 (FX:∀ i∈D,i∉A->∃ o:Oper,ops[i]?=some o/\o.dst=some (dst i)) (aa:∀ i∈D,dst i<m) (tz:∀ i∈D,∀ j∈D,j≠i->dst i≠dst j) (l4:∀ i∈D,∀ q∈base,dst i≠q.1)
 (hy:∀ i∈D,i∉A->∀ o:Oper,ops[i]?=some o->∀ a:Act,(∀ q∈base,a.eval (.tmp q.1)=q.2)->(∀ e∈o.after,Region.binds .any e=true->e.on∈D->a.eval (.tmp (dst e.on))=val e.on)->YieldsIn P ops (λw'=>w'=w) o (val i) a)
 (FF:∀ f listed a,Held ops D A dst val base m ds (f+1) listed a->p∈Region.ready .any ops listed->wpOp P ops Q p (wpAny P .any ops Q f (listed.setIfInBounds p true)) a w) :
 ∀ f listed a,Held ops D A dst val base m ds f listed a->wpAny P .any ops Q f listed a w:=by
 intro f
 induction f with
 | zero=>intro listed a h;exact absurd h.good (mw.none hp mW)
 | succ f ih=>
  intro listed a h;have hg:=h.good;refine⟨λh0=>absurd h0 (Nm hw hg.size p hp (hg.not p hp mW)),λi hi=>?_⟩;obtain⟨hr,o,ho,aY⟩:=mem_ready.1 hi;by_cases hip:i=p
  ·subst hip;exact FF f listed a h hi
  ·have rj:i∈D:=Decidable.byContradiction λrj=>by
    obtain⟨e,he,FL,iv,hes⟩:=Vg i o ho rj hip;have h1:=aY e he FL;have h2:=hg.not e.on hes iv;have h3:e.on<listed.size:=by rw[hg.size];exact hes
    simp[Array.getD,h3] at h1 h2;rw[h1] at h2
    cases h2
   have de:i∉A:=λhA=>by
    have h1:=h.done i hA;have h3:i<listed.size:=by rw[hg.size];exact (eQ.1 ho).1
    simp[Array.getD,h3] at h1 hr;rw[h1] at hr;cases hr
   obtain⟨o',ho',hd⟩:=FX i rj de;rw[ho] at ho';cases ho';have TM:∀ e∈o.after,Region.binds .any e=true->e.on∈D->a.eval (.tmp (dst e.on))=val e.on:=λe he FL hD=>hg.val _ hD (aY e he FL);have hq:=mw.step (P:=P) hg rj hr ho hd (aa i rj) (tz i rj) (l4 i rj) (hy i rj de o ho a hg.base TM);exact wpOp_of_qOp (C:=λw'=>w'=w) rfl (λa' w' hw' h'=>by subst hw';exact ih _ a' ⟨h',λj hj=>vK (h.done j hj),J1 hi h.clo⟩) hq
def G0(ops:Array Oper)(R:List Nat)(p:Nat):Bool:=(List.range ops.size).all λi=>i == p||R.contains i||(List.range ops.size).any λj=>decide (i<j)&&!R.contains j&&match ops[j]? with
 | some o=>o.after.any λe=>Region.binds .any e&&e.on == i
 | none=>false
theorem Held.most{D A R:List Nat}{dst:Nat->Nat}{val:Nat->Value}{base:List (Nat×Value)}{m p f:Nat}{ds:List Deferred}{listed:Array Bool}{a:Act}(h:Held ops D A dst val base m ds (f+1) listed a)(hp:p∈Region.ready .any ops listed)(hl:G0 ops R p=true) :
 ∀ i,i<ops.size->i≠p->i∉R->listed.getD i false=true:=by
 unfold G0 at hl;rw[List.all_eq_true] at hl;have key:∀ k i,ops.size - i=k->i<ops.size->i≠p->i∉R->listed.getD i false=true:=by
  intro k
  induction k using Nat.strongRecOn with
  | ind k ih=>
   intro i hk his hip rk;have h1:=hl i (by rw[List.mem_range];exact his);simp only[Bool.or_eq_true,beq_iff_eq,hip,List.contains_iff_mem,rk,false_or,List.any_eq_true,List.mem_range,Bool.and_eq_true,Qa,Bool.not_eq_true'] at h1;obtain⟨j,hj,⟨dz,Cl⟩,h2⟩:=h1;have Cl:j∉R:=λe=>by rw[List.contains_iff_mem.2 e] at Cl;cases Cl
   rw[pQ hj] at h2;simp only[Array.any_eq_true',Bool.and_eq_true,beq_iff_eq] at h2;obtain⟨e,he,hb,rfl⟩:=h2;by_cases yU:j=p
   ·subst yU;obtain⟨_,o,ho,aY⟩:=mem_ready.1 hp;rw[pQ hj] at ho
    cases ho
    exact aY e he hb
   ·exact h.clo j _ (pQ hj) (ih (ops.size - j) (by omega) j rfl hj yU Cl) e he hb
 exact λi hi hne hR=>key _ i rfl hi hne hR
structure Rest(ops:Array Oper)(R D:List Nat)(dst:Nat->Nat)(val:Nat->Value)(base:List (Nat×Value))(m:Nat)(ds:List Deferred)(f:Nat)(listed:Array Bool)(a:Act):Prop where
 defs:a.defers=ds
 size:listed.size=ops.size
 left:listed.toList.count false=f
 val:∀ i∈D,listed.getD i false=true->a.eval (.tmp (dst i))=val i
 base:∀ q∈base,a.eval (.tmp q.1)=q.2
 tmps:a.tmps.size=m
 out:∀ i,i<ops.size->i∉R->listed.getD i false=true
theorem Held.rest{D A R:List Nat}{dst:Nat->Nat}{val:Nat->Value}{base:List (Nat×Value)}{m p f:Nat}{ds:List Deferred}{listed:Array Bool}{a:Act}(h:Held ops D A dst val base m ds (f+1) listed a)(hp:p∈Region.ready .any ops listed)(mW:p∉D)(hl:G0 ops R p=true) :
 Rest ops R D dst val base m ds f (listed.setIfInBounds p true) a:=by
 have hg:=h.good;obtain⟨eP,o,ho,_⟩:=mem_ready.1 hp;have eC:p<ops.size:=(eQ.1 ho).1;have dB:p<listed.size:=by rw[hg.size];exact eC
 have ac:listed[p]=false:=by simpa [Array.getD,dB] using eP
 refine⟨hg.defs,by simp[hg.size],?_,λi hi hl=>?_,hg.base,hg.tmps,λi hi hR=>?_⟩
 ·have h1:=hg.left;rw[Array.toList_setIfInBounds,List.count_set (by simpa using dB)];simp[ac,h1]
 ·rcases CL hl with rfl | hl
  ·exact absurd hi mW
  ·exact hg.val i hi hl
 ·by_cases hip:i=p
  ·subst hip;simp[Array.getD,dB]
  ·exact vK (h.most hp hl i hi hip hR)
theorem ZR{w:World}{R D:List Nat}{dst:Nat->Nat}{val:Nat->Value}{a0:Act}{m:Nat}(hm:a0.tmps.size=m)
 (hw:∀ (i:Nat) (o:Oper),ops[i]?=some o->∀ e∈o.after,Region.binds .any e=true->e.on<i) (Fz:∀ i∈R,i∈D) (S7:∀ i∈D,i<ops.size)
 (FX:∀ i∈R,∃ o:Oper,ops[i]?=some o/\o.dst=some (dst i)) (aa:∀ i∈D,dst i<m) (tz:∀ i∈D,∀ j∈D,j≠i->dst i≠dst j) (hrel:∀ i∈R,∀ o:Oper,ops[i]?=some o->∀ e∈o.after,Region.binds .any e=true->e.on∈D)
 (hy:∀ i∈R,∀ o:Oper,ops[i]?=some o->∀ a:Act,(∀ e∈o.after,Region.binds .any e=true->a.eval (.tmp (dst e.on))=val e.on)->YieldsIn P ops (λw'=>w'=w) o (val i) a)
 (pY:Q .normal (ni a0 (D.map λi=>(dst i,val i))) w) :
 ∀ f listed a,Rest ops R D dst val (mu a0 m (D.map dst)) m a0.defers f listed a->wpAny P .any ops Q f listed a w:=by
 intro f
 induction f with
 | zero=>
  intro listed a h;have aY:∀ i,i<ops.size->listed.getD i false=true:=λi hi=>by
   have h1:=h.left;have dB:i<listed.size:=by rw[h.size];exact hi
   rw[List.count_eq_zero] at h1
   cases hb:listed[i] with
   | true=>simp[Array.getD,dB,hb]
   | false=>exact absurd (by rw[<-hb];simp) h1
  refine⟨Nl aY h.size,?_⟩;have e:a=ni a0 (D.map λi=>(dst i,val i)):=by
   refine Nd (by rw[h.tmps,hm]) h.defs _ (λq hq=>?_) (λq hq=>?_) (λj hj=>?_)
   ·obtain⟨i,hi,rfl⟩:=List.mem_map.1 hq;rw[hm];exact aa i hi
   ·obtain⟨i,hi,rfl⟩:=List.mem_map.1 hq;exact h.val i hi (aY i (S7 i hi))
   ·by_cases yT:j<m
    ·refine bC h.base yT (λhd=>?_);obtain⟨i,hi,rfl⟩:=List.mem_map.1 hd;exact hj _ (List.mem_map.2 ⟨i,hi,rfl⟩) rfl
    ·have h1:=h.tmps;simp[Act.eval,Array.getD_eq_getD_getElem?,h1,hm,yT]
  rw[e];exact pY
 | succ f ih=>
  intro listed a h;refine⟨λh0=>?_,λi hi=>?_⟩
  ·have h1:=h.left;have h2:false∈listed.toList:=by rw[<-List.count_pos_iff];omega
   obtain⟨i,hi,he⟩:=nQ.1 h2;have dB:i<listed.size:=by simpa using hi
   exact absurd h0 (Nm hw h.size i (by rw[<-h.size];exact dB) (by simpa [Array.getD,dB] using he))
  ·obtain⟨hr,o,ho,aY⟩:=mem_ready.1 hi;have Lm:=(eQ.1 ho).1;have dB:i<listed.size:=by rw[h.size];exact Lm
   have rk:i∈R:=Decidable.byContradiction λhR=>by
    have h1:=h.out i Lm hR;simp[Array.getD,dB] at h1 hr;rw[h1] at hr;cases hr
   have ac:listed[i]=false:=by simpa [Array.getD,dB] using hr
   obtain⟨o',ho',hd⟩:=FX i rk;rw[ho] at ho';cases ho';have hq:qOp P ops (λw'=>w'=w) i (Rest ops R D dst val (mu a0 m (D.map dst)) m a0.defers f (listed.setIfInBounds i true)) a:=by
    refine (hy i rk o ho a (λe he hb=>h.val _ (hrel i rk o ho e he hb) (aY e he hb))).qOp ho ?_;rw[hd];refine⟨by simp[Act.put,h.defs],by simp[h.size],?_,λj hj hl=>?_,λq hq=>?_,by simp[Act.put,h.tmps],λj hj hR=>vK (h.out j hj hR)⟩
    ·have h1:=h.left;rw[Array.toList_setIfInBounds,List.count_set (by simpa using dB)];simp[ac,h1]
    ·by_cases hne:i=j
     ·subst hne;exact CZ a _ _ (by rw[h.tmps];exact aa i (Fz i rk))
     ·rw[tY _ _ _ _ (tz i (Fz i rk) j hj (λe=>hne e.symm))];refine h.val j hj ?_;rcases CL hl with rfl | hl
      ·exact absurd rfl hne
      ·exact hl
    ·rw[tY _ _ _ _ (G3 (List.mem_map.2 ⟨i,Fz i rk,rfl⟩) q hq)];exact h.base q hq
   exact wpOp_of_qOp (C:=λw'=>w'=w) rfl (λa' w' hw' h'=>by subst hw';exact ih _ a' h') hq
end
section
variable {P:Program} {ops:Array Oper} {Q:Exit->Act->World->Prop}
end
section
variable {P:Program} {ops:Array Oper} {Q:Exit->Act->World->Prop}
def stB(ops:Array Oper)(ord D A:List Nat)(p:Nat)(dst:Nat->Nat):Bool:=
 Hw ops&&Hv ops D p&&decide (p<ops.size)&&!D.contains p&&D.all λi=>ord.contains i&&(A.contains i||match ops[i]? with
  | some o=>o.dst == some (dst i)
  | none=>false)
def Kk(ops:Array Oper)(D:List Nat)(p k:Nat):Bool:=D.contains k&&match ops[p]? with
 | some o=>o.after.any λe=>Region.binds .any e&&e.on == k
 | none=>false
theorem jC{w:World}{ord D A:List Nat}{dst:Nat->Nat}{val:Nat->Value}{a0:Act}{m:Nat}(p:Nat){dsts:List Nat}{ds:List Deferred}{f:Nat}{listed:Array Bool}{a:Act}
 (h1:∀ i∈ord,dst i<m/\dst i∈dsts) (h2:∀ i∈ord,∀ j∈ord,j≠i->dst i≠dst j)
 (h:Held ops D A dst val (mu a0 m dsts) m ds f listed a) (hB:stB ops ord D A p dst=true)
 (hy:∀ i∈D,i∉A->∀ o:Oper,ops[i]?=some o->∀ a:Act,(∀ q∈mu a0 m dsts,a.eval (.tmp q.1)=q.2)->(∀ e∈o.after,Region.binds .any e=true->e.on∈D->a.eval (.tmp (dst e.on))=val e.on)->YieldsIn P ops (λw'=>w'=w) o (val i) a)
 (FF:∀ f listed a,Held ops D A dst val (mu a0 m dsts) m ds (f+1) listed a->p∈Region.ready .any ops listed->((k:Nat)->(_:Kk ops D p k=true:=by kernel_rfl)->a.eval (.tmp (dst k))=val k)->wpOp P ops Q p (wpAny P .any ops Q f (listed.setIfInBounds p true)) a w) :
 wpAny P .any ops Q f listed a w:=by
 simp only[stB,Bool.and_eq_true,Qa,Bool.not_eq_true',List.all_eq_true,List.contains_iff_mem,Bool.or_eq_true] at hB;obtain⟨⟨⟨⟨b1,b2⟩,b3⟩,b4⟩,b5⟩:=hB;have mW:p∉D:=λe=>by rw[List.contains_iff_mem.2 e] at b4;cases b4
 refine ZQ (OA b1) b3 mW (ZM b2) (λi hi hA=>?_) (λi hi=>(h1 i (b5 i hi).1).1) (λi hi j hj=>h2 i (b5 i hi).1 j (b5 j hj).1) (λi hi=>G3 (h1 i (b5 i hi).1).2) hy (λf listed a hH hr=>FF f listed a hH hr (λk hk=>?_)) f listed a h
 ·have:=(b5 i hi).2.resolve_left hA
  cases ho:ops[i]? with
  | none=>rw[ho] at this;cases this
  | some o=>rw[ho] at this;exact⟨o,rfl,by simpa using this⟩
 ·obtain⟨_,o,ho,aY⟩:=mem_ready.1 hr;simp only[Kk,ho,Bool.and_eq_true,List.contains_iff_mem] at hk;obtain⟨Un,hk⟩:=hk;rw[Array.any_eq_true'] at hk;obtain⟨e,he,h3⟩:=hk;simp only[Bool.and_eq_true,beq_iff_eq] at h3;obtain⟨h4,rfl⟩:=h3;exact hH.good.val _ Un (aY e he h4)
theorem yJ{D:List Nat}{dst:Nat->Nat}{val:Nat->Value}{m:Nat}{dsts:List Nat}{a:Act}(hm:a.tmps.size=m):Held ops D [] dst val (mu a m dsts) m a.defers ops.size (Array.replicate ops.size false) a:=Held.start (λq hq=>Yl q hq) hm
def nxB(ops:Array Oper)(ord D D':List Nat)(p:Nat):Bool:=ord.contains p&&decide (p<ops.size)&&!D.contains p&&D'.contains p&&D.all λi=>D'.contains i&&ord.contains i
theorem Held.next{ord D A D':List Nat}{dst:Nat->Nat}{val val':Nat->Value}{a0:Act}{m p f:Nat}{dsts:List Nat}{ds:List Deferred}{listed:Array Bool}{a:Act}{v:Value}(h:Held ops D A dst val (mu a0 m dsts) m ds (f+1) listed a)
 (h1:∀ i∈ord,dst i<m/\dst i∈dsts) (h2:∀ i∈ord,∀ j∈ord,j≠i->dst i≠dst j) (hp:p∈Region.ready .any ops listed) (Gx:val' p=v:=by rfl) (hB:nxB ops ord D D' p=true:=by kernel_rfl)
 (hval:∀ i∈D,val' i=val i:=by intro i hi;(repeat' (rcases hi with _ | ⟨_,hi⟩)) <;> rfl) :
 Held ops D' (p::A) dst val' (mu a0 m dsts) m ds f (listed.setIfInBounds p true) (a.put (some (dst p)) v):=by
 simp only[nxB,Bool.and_eq_true,Qa,Bool.not_eq_true',List.all_eq_true,List.contains_iff_mem] at hB;obtain⟨⟨⟨⟨b1,b2⟩,b3⟩,b4⟩,b5⟩:=hB;have mW:p∉D:=λe=>by rw[List.contains_iff_mem.2 e] at b3;cases b3
 exact h.act hp mW (λi hi=>⟨λe=>hi (b5 i e).1,λe=>hi (e ▸ b4)⟩) hval Gx (h1 p b1).1 (λj hj=>h2 p b1 j (b5 j hj).2 (λe=>mW (e ▸ hj))) (G3 (h1 p b1).2) b2
theorem Dp{w:World}{D A:List Nat}{dst:Nat->Nat}{val:Nat->Value}{a0 a b:Act}{m p f:Nat}{dsts:List Nat}{listed:Array Bool}(h:Held ops D A dst val (mu a0 m (D.map dst)) m a0.defers (f+1) listed a)(hp:p∈Region.ready .any ops listed)(hm:a0.tmps.size=m)
 (h1:∀ i∈D,dst i<m/\dst i∈dsts) (hl:(CI ops p&&D.all λi=>decide (i<ops.size)&&i != p)=true) (pY:a=ni a0 (D.map λi=>(dst i,val i))->Q .normal b w):wpAny P .any ops Q f (listed.setIfInBounds p true) b w:=by
 simp only[Bool.and_eq_true,List.all_eq_true,Qa,bne_iff_ne] at hl;obtain⟨rfl,y8⟩:=h.all hp hl.1;have hG:=h.good;have hf:=Held.frame h hm (λi hi=>y8 i (hl.2 i hi).1 (hl.2 i hi).2) (λi hi=>(h1 i hi).1);refine⟨Nl (λi hi=>?_) (by rw[Array.size_setIfInBounds];exact hG.size),?_⟩
 ·by_cases hip:i=p
  ·subst hip;have hs:i<listed.size:=by rw[hG.size];exact hi
   simp[Array.getD,hs]
  ·exact vK (y8 i hi hip)
 ·exact pY hf
theorem iX{A B:Prop}{w:World}{R:World->Prop}(h:A)(k:R w):(A/\∀ w',w'=w->R w')\/B:=.inl ⟨h,λw' e=>e ▸ k⟩
end
def eK(D:Nat->Prop)(w W:World):Prop:=w.heap.size<=W.heap.size/\∀ k,D k->k<w.heap.size/\W.heap[k]?=w.heap[k]?
theorem eK.refl{D:Nat->Prop}{w:World}(h:∀ k,D k->k<w.heap.size):eK D w w:=⟨bQ _,λk e=>⟨h k e,rfl⟩⟩
theorem eK.trans{D:Nat->Prop}{a b c:World}(h:eK D a b)(k:eK D b c):eK D a c:=⟨yQ h.1 k.1,λi e=>⟨(h.2 i e).1,((k.2 i e).2).trans (h.2 i e).2⟩⟩
theorem eK.of_below{D:Nat->Prop}{a b c:World}(h:eK D a b)(k:Below b.heap.size b c):eK D a c:=⟨yQ h.1 k.size,λi e=>⟨(h.2 i e).1,(k.block i (lQ (h.2 i e).1 h.1)).trans (h.2 i e).2⟩⟩
theorem eK.cell{D:Nat->Prop}{w W:World}(h:eK D w W){p:Addr}(hp:D p.block):W.cell? p=w.cell? p:=iQ (h.2 _ hp).2
theorem eK.round{D S:Nat->Prop}{a b c:World}(h:eK D a b)(k:RdStep S b c)(hS:∀ i,S i->¬ D i):eK D a c:=⟨yQ h.1 k.size,λi e=>⟨(h.2 i e).1,(k.keep i (lQ (h.2 i e).1 h.1) (λhs=>hS i hs e)).trans (h.2 i e).2⟩⟩
def Bq{α:Type}(P:Program)(gf:FuncId)(mk:Value->Array Value)(encs:α->Array Value)(xs:List α)(Dr:Nat->Prop)(w:World):Prop:=
 ∀ (l:Nat) (J Jx:List α->(Nat->Prop)->World->Prop) (S:Nat->Prop) (W:World),eK Dr w W->
   eq W.heap.size J->eq W.heap.size Jx->
   (∀ pre x S1 W1,pre ++ [x] <+: xs->J pre S1 W1->(∀ k,S1 k->k<W1.heap.size)->W.heap.size<=W1.heap.size->
     YieldAt Fence.wide 0 P l (encs x) W1 (Bu J Jx pre x S1 W1))->
   (∀ k,S k->¬ Dr k)->(∀ k,S k->k<W.heap.size)->J [] S W->
   CallsIn Fence.wide 0 P gf (mk (.func (.yield l) #[] #[])) W λe W'=>(∃ v,e = .returned v)/\
    ((∃ S',J xs S' W'/\(∀ k,S' k->S k\/W.heap.size<=k))\/(∃ pre S',pre <+: xs/\Jx pre S' W'/\(∀ k,S' k->S k\/W.heap.size<=k)))
theorem ZT{α:Type}{P:Program}{g:Operand}{ps:Array Tmp}{assign body:Code}{Q:Exit->Act->World->Prop}{a:Act}{w:World}
 {gf:FuncId} {first captured:Array Value} (hg:a.eval g = .func (.func gf) first captured) (eg:∀ args w,(callFunc gf args).run P w = .ok (.enter gf args) w)
 {mk:Value->Array Value} {encs:α->Array Value} {xs:List α} {Dr:Nat->Prop} {w0:World} (fu:∀ y,mk y=first ++ #[y]++captured)
 (hit:Bq P gf mk encs xs Dr w0) (br:eK Dr w0 w) (eC:∀ x,(encs x).size=ps.size)
 (I:List α->(Nat->Prop)->World->Prop) (Ix:Code->List α->(Nat->Prop)->World->Prop) (A:List α->α->(Nat->Prop)->Act->World->Prop)
 (hI:eq w.heap.size I) (gR:∀ c,eq w.heap.size (Ix c)) (hA:∀ pre x S a' W W',A pre x S a' W->ItStep w.heap.size S W W'->A pre x S a' W')
 (S0:Nat->Prop) (nK:∀ k,S0 k->¬ Dr k) (jk:∀ k,S0 k->k<w.heap.size) (h0:I [] S0 w)
 (yp:∀ (l:Nat) (pre:List α) (x:α) (S:Nat->Prop) (W:World),pre ++ [x] <+: xs->I pre S W->(∀ k,S k->k<W.heap.size)->
   assign.wpIn (Fence.wide.inRound l) 0 P (Exit.then (λa₁ W₁=>∃ S',RdStep S W W₁/\(∀ k,S' k->S k\/W.heap.size<=k)/\(∀ k,S' k->k<W₁.heap.size)/\A pre x S' a₁ W₁) (λ_ _ _=>False))
    { tmps:=(ps.zip (encs x)).foldl (λt (p,v)=>t.setIfInBounds p v) a.tmps,defers:=[] } W)
 (yx:∀ (l:Nat) (pre:List α) (x:α) (S:Nat->Prop) (a₁:Act) (W:World),pre ++ [x] <+: xs->A pre x S a₁ W->(∀ k,S k->k<W.heap.size)->
   body.wpIn (Fence.wide.inRound l) 0 P (lV I Ix (pre ++ [x]) S W) a₁ W)
 (l7:∀ (D:Nat) (S:Nat->Prop) (W:World),w.heap.size<=D->¬ S D->(∀ k,S k->S0 k\/w.heap.size<=k)->I xs S W->W.heap[D]?=some (.deferred (some []))->
   Q .normal { a with defers:={ target:=.collected D,args:=#[] } :: a.defers } W)
 (kE:∀ (D:Nat) (c:Code) (pre:List α) (S:Nat->Prop) (W:World),w.heap.size<=D->¬ S D->(∀ k,S k->S0 k\/w.heap.size<=k)->pre <+: xs->Ix c pre S W->W.heap[D]?=some (.deferred (some []))->
   c.wpIn Fence.wide 0 P Q { a with defers:={ target:=.collected D,args:=#[] } :: a.defers } W) :
 (Code.rangeFunc g ps assign body).wpIn Fence.wide 0 P Q a w:=by
 refine wpIn_rangeFunc ?_;intro fn gT;show ∃ (l:Nat) (mark:List Deferred) (w₁:World) (d:Deferred) (w₁':World) (f:FuncId) (args:Array Value) (w₂:World),(Instr.enterLoop fn a.tmps ps assign body none).run P w = .ok (l,mark) w₁/\_;obtain⟨rec,eh⟩:∃ rec:LoopState->Option Code->Loop,rec=λst pe=>{ state:=st,pending:=pe,fn,tmps:=a.tmps,params:=ps,assign,body,defers:=w.heap.size }:=⟨_,rfl⟩;obtain⟨W1,am⟩:=abK ((w.alloc (.deferred (some []))).alloc (.loop (rec .ready none)));have al:W1.heap.size=w.heap.size+2:=by rw[<-am];simp
 have lk:W1.heap[w.heap.size+1]?=some (.loop (rec .ready none)):=by
  rw[<-am];have:=World.alloc_heap_new (w.alloc (.deferred (some []))) (.loop (rec .ready none));rwa [World.size_alloc] at this
 have yc:W1.heap[w.heap.size]?=some (.deferred (some [])):=by
  rw[<-am];exact (Below.heap_alloc _ _ _ (by simp)).trans (World.alloc_heap_new w _)
 have nJ:I [] S0 W1:=by rw[<-am];exact hI _ _ _ _ (hI _ _ _ _ h0 (qy _)) (qy _)
 have an:eK Dr w0 W1:=by
  rw[<-am];exact br.of_below (((vQ _ w).alloc (bQ _) _).alloc (by simp) _)
 refine⟨w.heap.size+1,[{ target:=.collected w.heap.size,args:=#[] }],W1,{ target:=.fn (.func gf) captured,args:=first ++ #[.func (.yield (w.heap.size+1)) #[] #[]] },W1,gf,
  first ++ #[.func (.yield (w.heap.size+1)) #[] #[]]++captured,W1,?_,?_,?_,?_,λh=>by simp[Fence.wide] at h,?_⟩
 ·rw[<-am,eh];exact run_enterLoop_outer _ _ _ _ _
 ·simp only[resolve,hg];simp[go_sem]
 ·intro f' _;trivial
 ·simp[invoke,go_sem,eg]
 ·rw[<-fu];have key:=hit (w.heap.size+1)
   (λpre Si W=>∃ S:Nat->Prop,(∀ k,Si k↔S k\/k=w.heap.size+1)/\(¬ S w.heap.size)/\(¬ S (w.heap.size+1))/\(∀ k,S k->S0 k\/w.heap.size<=k)/\I pre S W/\W.heap[w.heap.size+1]?=some (.loop (rec .ready none))/\W.heap[w.heap.size]?=some (.deferred (some [])))
   (λpre Si W=>∃ (S:Nat->Prop) (c:Code),(∀ k,Si k↔S k\/k=w.heap.size+1)/\(¬ S w.heap.size)/\(¬ S (w.heap.size+1))/\(∀ k,S k->S0 k\/w.heap.size<=k)/\Ix c pre S W/\W.heap[w.heap.size+1]?=some (.loop (rec .done (some c)))/\W.heap[w.heap.size]?=some (.deferred (some [])))
   (λk=>S0 k\/k=w.heap.size+1) W1 an ?_ ?_ ?_ ?_ ?_ ?_
  ·refine key.mono ?_;rintro e W2 ⟨⟨v,rfl⟩,(⟨S',⟨S,cG,hD,hL,aM,hi,hl,hk⟩,_⟩ | ⟨pre,S',gD,⟨S,c,cG,hD,hL,aM,hi,hl,hk⟩,_⟩)⟩
   ·refine⟨none,_,by have:=run_endLoop (P:=P) hl (by rw[eh];simp);rw[eh] at this;exact this,?_⟩;exact l7 _ S _ (bQ _) hD aM (hI _ _ _ _ hi (iy _ (by omega) hL)) ((zQ (by omega)).trans hk)
   ·refine⟨some c,_,by have:=run_endLoop (P:=P) hl (by rw[eh];simp);rw[eh] at this;exact this,?_⟩;exact kE _ c pre S _ (bQ _) hD aM gD ((gR c) _ _ _ _ hi (iy _ (by omega) hL)) ((zQ (by omega)).trans hk)
  ·rintro pre Si A1 B1 ⟨S,cG,hD,hL,aM,hi,hl,hk⟩ av;have aa:w.heap.size+1<A1.heap.size:=(eQ.1 hl).1;exact⟨S,cG,hD,hL,aM,hI _ _ _ _ hi (av.weaken (by omega) (λk e=>(cG k).2 (.inl e))),(av.keep _ aa (.inl (by omega))).trans hl,(av.keep _ (by omega) (.inl (by omega))).trans hk⟩
  ·rintro pre Si A1 B1 ⟨S,c,cG,hD,hL,aM,hi,hl,hk⟩ av;have aa:w.heap.size+1<A1.heap.size:=(eQ.1 hl).1;exact⟨S,c,cG,hD,hL,aM,gR c _ _ _ _ hi (av.weaken (by omega) (λk e=>(cG k).2 (.inl e))),(av.keep _ aa (.inl (by omega))).trans hl,(av.keep _ (by omega) (.inl (by omega))).trans hk⟩
  ·
   rintro pre x Si W aU ⟨S,cG,hD,hL,aM,hi,hl,hk⟩ eW FB;have aa:w.heap.size+1<W.heap.size:=(eQ.1 hl).1;have yk:∀ k,S k->k<W.heap.size:=λk e=>eW k ((cG k).2 (.inl e));have hy:=run_yield (P:=P) (args:=encs x) hl (by rw[eh];exact eC x);rw[eh] at hy;refine⟨fn,_,assign,body,hy,roundIn_of_wpIn gT (wpIn_mono (yp _ pre x S W aU hi yk) ?_)⟩;intro e a1 Wa hq
   cases e with
   | normal=>
    obtain⟨S1,fe,bd,zu,ra⟩:=hq;have rq:¬ S1 w.heap.size:=λe=>by rcases bd _ e with e | e;exact hD e;omega
    have nT:¬ S1 (w.heap.size+1):=λe=>by rcases bd _ e with e | e;exact hL e;omega
    have mU:Wa.heap[w.heap.size+1]?=some (.loop (rec .ready none)):=(fe.keep _ aa hL).trans hl;have yW:Wa.heap[w.heap.size]?=some (.deferred (some [])):=(fe.keep _ (by omega) hD).trans hk;have rp:w.heap.size+1<Wa.heap.size:=(eQ.1 mU).1;refine⟨_,run_beginRound mU (by rw[eh]),?_⟩;have hb:=yx (w.heap.size+1) pre x S1 a1 (Wa.putObj (w.heap.size+1) (.loop { rec .ready none with state:=.busy })) aU (hA _ _ _ _ _ _ ra (iy _ (by omega) nT)) (λk e=>by simpa using zu k e);refine wpIn_mono hb ?_;have fin:∀ (jump:Option Code) (W3:World) (S3:Nat->Prop),RdStep S1 (Wa.putObj (w.heap.size+1) (.loop { rec .ready none with state:=.busy })) W3->(∀ k,S3 k->S1 k\/(Wa.putObj (w.heap.size+1) (.loop { rec .ready none with state:=.busy })).heap.size<=k)->(∀ k,S3 k->k<W3.heap.size)->
     (Instr.endRound (w.heap.size+1) jump).run P W3 = .ok (.bool jump.isNone) (W3.putObj (w.heap.size+1) (.loop (rec (if jump.isNone then .ready else .done) jump)))/\
     (W3.putObj (w.heap.size+1) (.loop (rec (if jump.isNone then .ready else .done) jump))).heap[w.heap.size+1]?=some (.loop (rec (if jump.isNone then .ready else .done) jump))/\
     (W3.putObj (w.heap.size+1) (.loop (rec (if jump.isNone then .ready else .done) jump))).heap[w.heap.size]?=some (.deferred (some []))/\
     ¬ S3 w.heap.size/\¬ S3 (w.heap.size+1)/\(∀ k,S3 k->S k\/W.heap.size<=k)/\
     RdStep Si W (W3.putObj (w.heap.size+1) (.loop (rec (if jump.isNone then .ready else .done) jump))):=λjump W3 S3 cC cR cD=>by
     have cY:(Wa.putObj (w.heap.size+1) (.loop { rec .ready none with state:=.busy })).heap[w.heap.size+1]?=some (.loop { rec .ready none with state:=.busy }):=World.putObj_heap_same rp;have ir:(Wa.putObj (w.heap.size+1) (.loop { rec .ready none with state:=.busy })).heap[w.heap.size]?=some (.deferred (some [])):=(zQ (by omega)).trans yW;have mb:=(cC.keep _ (by simpa using rp) nT).trans cY;have lz:=(cC.keep _ (by simp;omega) rq).trans ir;have dH:=(eQ.1 mb).1
     have:=run_endRound (P:=P) jump mb
     rw[eh] at this |-;have j9:=cC.size;have tP:=fe.size;simp only[World.putObj_size] at j9 cR;refine⟨this,World.putObj_heap_same dH,(zQ (by omega)).trans lz,λe=>?_,λe=>?_,λk e=>?_,?_⟩
     ·rcases cR _ e with e | e;exact rq e;omega
     ·rcases cR _ e with e | e;exact nT e;omega
     ·rcases cR _ e with e | e
      ·exact bd _ e
      ·right;omega
     ·refine⟨cC.os.trans fe.os,cC.tape.trans fe.tape,cC.output.trans fe.output,by simp;omega,λk hk' rr=>?_⟩;have lA:k≠w.heap.size+1:=λe=>rr ((cG k).2 (.inr e));have rt:¬ S k:=λe=>rr ((cG k).2 (.inl e));have zd:¬ S1 k:=λe=>by rcases bd _ e with e | e;exact rt e;omega
      exact (zQ lA).trans ((cC.keep k (by simp;omega) zd).trans ((zQ lA).trans (fe.keep k hk' rt)))
    have fin2:∀ (S3:Nat->Prop) (W3:World) (o:Obj),(∀ k,S3 k->k<W3.heap.size)->W.heap.size<=W3.heap.size->(∀ k,S3 k->S k\/W.heap.size<=k)->
     (∀ k,(S3 k\/k=w.heap.size+1)->Si k\/W.heap.size<=k)/\(∀ k,(S3 k\/k=w.heap.size+1)->k<(W3.putObj (w.heap.size+1) o).heap.size):=λS3 W3 o h1 h2 h3=>
     ⟨λk e=>by rcases e with e | e;exact (h3 k e).imp (λe'=>(cG k).2 (.inl e')) id;exact .inl ((cG k).2 (.inr e)),λk e=>by
      simp only[World.putObj_size];rcases e with e | e
      ·exact h1 k e
      ·omega⟩
    have sub3:∀ (S3:Nat->Prop),(∀ k,S3 k->S k\/W.heap.size<=k)->∀ k,S3 k->S0 k\/w.heap.size<=k:=λS3 h k e=>by
     rcases h k e with e | e
     ·exact aM k e
     ·right;omega
    rintro e a3 W3 hp
    cases e with
    | normal=>
     obtain⟨S3,cC,cR,cD,jl⟩:=hp;obtain⟨hr,jm,iT,iv,eZ,dm,aA⟩:=fin none W3 S3 cC cR cD;have al:W.heap.size<=W3.heap.size:=by simpa using aA.size
     refine⟨_,_,hr,λk=>S3 k\/k=w.heap.size+1,aA,(fin2 S3 W3 (.deferred none) cD al dm).1,(fin2 S3 W3 _ cD al dm).2,.inl ⟨rfl,S3,λ_=>Iff.rfl,iv,eZ,sub3 S3 dm,hI _ _ _ _ jl (iy _ (by omega) eZ),jm,iT⟩⟩
    | ret=>
     obtain⟨S3,cC,cR,cD,jl⟩:=hp;obtain⟨hr,jm,iT,iv,eZ,dm,aA⟩:=fin (some .ret) W3 S3 cC cR cD;have al:W.heap.size<=W3.heap.size:=by simpa using aA.size
     refine⟨_,_,hr,λk=>S3 k\/k=w.heap.size+1,aA,(fin2 S3 W3 (.deferred none) cD al dm).1,(fin2 S3 W3 _ cD al dm).2,.inr ⟨rfl,S3,.ret,λ_=>Iff.rfl,iv,eZ,sub3 S3 dm,gR _ _ _ _ _ jl (iy _ (by omega) eZ),jm,iT⟩⟩
    | exit id=>
     obtain⟨S3,cC,cR,cD,jl⟩:=hp;obtain⟨hr,jm,iT,iv,eZ,dm,aA⟩:=fin (some (.exit id)) W3 S3 cC cR cD;have al:W.heap.size<=W3.heap.size:=by simpa using aA.size
     refine⟨_,_,hr,λk=>S3 k\/k=w.heap.size+1,aA,(fin2 S3 W3 (.deferred none) cD al dm).1,(fin2 S3 W3 _ cD al dm).2,.inr ⟨rfl,S3,.exit id,λ_=>Iff.rfl,iv,eZ,sub3 S3 dm,gR _ _ _ _ _ jl (iy _ (by omega) eZ),jm,iT⟩⟩
    | goto t=>exact hp.elim
    | panic ch=>exact hp.elim
    | outgrown=>exact hp.elim
   | ret=>exact hq.elim
   | exit id=>exact hq.elim
   | goto t=>exact hq.elim
   | panic ch=>exact hq.elim
   | outgrown=>exact hq.elim
  ·rintro k (e | rfl)
   ·exact nK k e
   ·exact λh=>by have h1:=(br.2 _ h).1;have h2:=br.1;omega
  ·rintro k (e | rfl)
   ·have:=jk k e;omega
   ·omega
  ·exact⟨S0,λ_=>Iff.rfl,λe=>by have:=jk _ e;omega,λe=>by have:=jk _ e;omega,λ_ e=>.inl e,nJ,lk,yc⟩
theorem OD{α:Type}{P:Program}{g:Operand}{ps:Array Tmp}{assign body:Code}{Q:Exit->Act->World->Prop}{a:Act}{w:World}
 {gf:FuncId} {first captured:Array Value} (hg:a.eval g = .func (.func gf) first captured) (eg:∀ args w,(callFunc gf args).run P w = .ok (.enter gf args) w)
 {mk:Value->Array Value} {encs:α->Array Value} {xs:List α} {Dr:Nat->Prop} {w0:World} (fu:∀ y,mk y=first ++ #[y]++captured)
 (hit:Bq P gf mk encs xs Dr w0) (br:eK Dr w0 w) (eC:∀ x,(encs x).size=ps.size)
 (I:List α->(Nat->Prop)->World->Prop) (Ix:Code->List α->(Nat->Prop)->World->Prop)
 (hI:eq w.heap.size I) (gR:∀ c,eq w.heap.size (Ix c))
 (S0:Nat->Prop) (nK:∀ k,S0 k->¬ Dr k) (jk:∀ k,S0 k->k<w.heap.size) (h0:I [] S0 w)
 (zt:∀ (l0:Nat) (pre:List α) (x:α) (S:Nat->Prop) (W:World),pre ++ [x] <+: xs->I pre S W->(∀ k,S k->k<W.heap.size)->
   assign.wpIn (Fence.wide.inRound l0) 0 P (Exit.then (λa₁ W₁=>∃ S',RdStep S W W₁/\(∀ k,S' k->S k\/W.heap.size<=k)/\(∀ k,S' k->k<W₁.heap.size)/\
    ∀ l W₂,ItStep w.heap.size S' W₁ W₂->body.wpIn (Fence.wide.inRound l) 0 P (lV I Ix (pre ++ [x]) S' W₂) a₁ W₂) (λ_ _ _=>False))
    { tmps:=(ps.zip (encs x)).foldl (λt (p,v)=>t.setIfInBounds p v) a.tmps,defers:=[] } W)
 (l7:∀ (D:Nat) (S:Nat->Prop) (W:World),w.heap.size<=D->¬ S D->(∀ k,S k->S0 k\/w.heap.size<=k)->I xs S W->W.heap[D]?=some (.deferred (some []))->
   Q .normal { a with defers:={ target:=.collected D,args:=#[] } :: a.defers } W)
 (kE:∀ (D:Nat) (c:Code) (pre:List α) (S:Nat->Prop) (W:World),w.heap.size<=D->¬ S D->(∀ k,S k->S0 k\/w.heap.size<=k)->pre <+: xs->Ix c pre S W->W.heap[D]?=some (.deferred (some []))->
   c.wpIn Fence.wide 0 P Q { a with defers:={ target:=.collected D,args:=#[] } :: a.defers } W) :
 (Code.rangeFunc g ps assign body).wpIn Fence.wide 0 P Q a w:=
 ZT hg eg fu hit br eC I Ix (λpre x S a₁ W=>∀ l W₂,ItStep w.heap.size S W W₂->body.wpIn (Fence.wide.inRound l) 0 P (lV I Ix (pre ++ [x]) S W₂) a₁ W₂)
  hI gR (λ_ _ _ _ _ _ h hs l W₂ h2=>h l W₂ (hs.trans h2)) S0 nK jk h0 zt (λl _ _ _ _ W _ h _=>h l W (ItStep.refl _ _ _)) l7 kE
def Ou(e:Nat->Value)(p:Nat)(v:Value)(i:Nat):Value:=if i=p then v else e i
section
variable {P:Program} {ops:Array Oper} {Q:Exit->Act->World->Prop}
structure InvS(ops:Array Oper)(ord T:List Nat)(p0 m:Nat)(dep:Nat->List Nat)(dst:Nat->Nat):Prop where
 well:∀ (i:Nat) (o:Oper),ops[i]?=some o->∀ e∈o.after,e.on<i
 p0s:p0<ops.size
 p0o:p0∉ord
 last:CI ops p0=true
 all:∀ i,i<ops.size->i=p0\/i∈ord
 tord:∀ p∈T,p∈ord/\dep p = [p]
 depT:∀ i∈ord,∀ j∈dep i,j∈T
 size:∀ i∈ord,i<ops.size
 qdst:∀ i∈ord,i∉T->∃ o,ops[i]?=some o/\o.dst=some (dst i)
 qon:∀ i∈ord,i∉T->∀ o,ops[i]?=some o->∀ j∈dep i,∃ e∈o.after,Region.binds .any e=true/\j∈dep e.on/\e.on<ops.size
 qall:∀ i∈ord,i∉T->∀ o,ops[i]?=some o->∀ e∈o.after,Region.binds .any e=true->e.on∈ord/\∀ j∈dep e.on,j∈dep i
 p0on:∀ o,ops[p0]?=some o->∀ j∈T,∃ e∈o.after,Region.binds .any e=true/\j∈dep e.on/\e.on<ops.size
 lt:∀ i∈ord,dst i<m
 inj:∀ i∈ord,∀ j∈ord,j≠i->dst i≠dst j
end
end
end Go.Proofs.YtfnopgdcaanaiaaGreatDoor
