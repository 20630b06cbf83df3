/- Parts of the proof. No condition. -/
import Derived.Shelf.Strings.Builder1
import Derived.Shelf.Strings.Builder2
import Derived.Shelf.Strings.OnBuilder
import Derived.Shelf.Small.Bits
import Derived.Shelf.Small.Strs
import Derived.Shelf.Strconv.Itoa0
import Derived.Shelf.Strconv.Itoa1
import Derived.Shelf.LaysM
import Derived.Shelf.Strconv.Itoa2
import Derived.Shelf.Strconv.Itoa3
import Derived.Shelf.Strings.Search1
import Derived.Shelf.Strings.LastIndex
import Derived.Shelf.Strings.Prefix
import Derived.Ground.SlsfProg
import Derived.Shelf.SlSortCmp.Insertion
import Derived.Shelf.SlSortCmp.SiftDown1
import Derived.Shelf.SlSortCmp.HeapSort1
import Derived.Shelf.SlSortCmp.Insertion1
import Derived.Shelf.SlSortCmp.Median1
import Derived.Shelf.SlSortCmp.Pivot1
import Derived.Shelf.SlSortCmp.ReverseRange1
import Derived.Shelf.SlSortCmp.PartialInsertion1
import Derived.Shelf.SlSortCmp.PartitionEqual1
import Derived.Shelf.SlSortCmp.Partition1
import Derived.Shelf.SlSortCmp.Pdq1
import Derived.Shelf.SlSortCmp.Whole1
import Derived.Shelf.SlSortCmp.NoneTotal
import Derived.Test.YtfnopgdcaanaiaaGreatDoorProg
import Derived.Lib.AppendIntMem
import Derived.Test.YtfnopgdcaanaiaaGreatDoorK01
set_option linter.all false
set_option maxRecDepth 100000
set_option maxHeartbeats 8000000
namespace Go.Proofs.YtfnopgdcaanaiaaGreatDoor
open Go.Proofs.Tryz
namespace Np

structure IsGap(g:List UInt8):Prop where
 skip:∀ x p k,od (g++x) p k=od x (p+g.length) k
 stop:∃ c r,g=c::r/\rX c=false
 rest:∀ p k,od (g.drop (g.takeWhile P5).length) p k=([],0,0)
def mH(n:Nat):List UInt8:=if n<10 then [UInt8.ofNat (48+n)] else mH (n / 10) ++ [UInt8.ofNat (48+n % 10)]
theorem VO(t:List UInt8)(c:UInt8):dec (t ++ [c])=10 * dec t+(c.toNat - 48):=by simp[dec]
theorem XC{t u:List UInt8}(h:t≠[]):(t++u).head?=t.head?:=by
 cases t with
 | nil=>exact absurd rfl h
 | cons a t=>rfl
def R4(y:List UInt8):Prop:=y = []\/y.head?=some 32
def DD(t:Tok):Tok:={ t with pos:=0 }
def ko(x:List UInt8)(t:Tok):Prop:=∃ c r,x=c::r/\¬ (cls c=1\/cls c=2)/\(∀ y,R4 y->RK (x++y)=x.length)/\(CC (cls c) x).1=0/\DD (CC (cls c) x).2=DD t
end Np
end Go.Proofs.YtfnopgdcaanaiaaGreatDoor
namespace Go.Proofs
open YtfnopgdcaanaiaaGreatDoor
open Go.Shelf
def Tryz.laysSort6_ren:Go.Shelf.Ren:=⟨fun | 6=>135 | 15=>186 | 14=>213 | 28=>259 | 29=>260 | 20=>289 | 21=>290 | 22=>291 | 23=>292 | 24=>293 | 25=>294 | 26=>295 | 27=>296 | 46=>342 | 47=>322 | 48=>323 | 49=>343 | 50=>344 | 57=>362 | n=>n,fun | 22=>116 | 24=>9 | 25=>212 | 3=>3 | 39=>249 | 0=>0 | 53=>92 | 55=>48 | 4=>4 | 46=>305 | 45=>304 | 50=>214 | 5=>5 | 9=>9 | 66=>351 | 70=>355 | 76=>376 | 77=>377 | n=>n,fun | n=>n⟩
theorem Tryz.laysSort6:Go.Proofs.SlLaysF.n6 Tryz.prog Tryz.laysSort6_ren:={
 mixed:=by kernel_rfl
 f6:=⟨Tryz.f135.name,by decide,Tryz.func135.trans (Qd some (by kernel_rfl))⟩
 f14:=⟨Tryz.f213.name,by decide,Tryz.func213.trans (Qd some (by kernel_rfl))⟩
 f15:=Tryz.func186.trans (Qd some (by kernel_rfl))
 f20:=⟨Tryz.f289.name,by decide,Tryz.func289.trans (Qd some (by kernel_rfl))⟩
 f21:=⟨Tryz.f290.name,by decide,Tryz.func290.trans (Qd some (by kernel_rfl))⟩
 f22:=⟨Tryz.f291.name,by decide,Tryz.func291.trans (Qd some (by kernel_rfl))⟩
 f23:=⟨Tryz.f292.name,by decide,Tryz.func292.trans (Qd some (by kernel_rfl))⟩
 f24:=⟨Tryz.f293.name,by decide,Tryz.func293.trans (Qd some (by kernel_rfl))⟩
 f25:=⟨Tryz.f294.name,by decide,Tryz.func294.trans (Qd some (by kernel_rfl))⟩
 f26:=⟨Tryz.f295.name,by decide,Tryz.func295.trans (Qd some (by kernel_rfl))⟩
 f27:=⟨Tryz.f296.name,by decide,Tryz.func296.trans (Qd some (by kernel_rfl))⟩
 f28:=Tryz.func259.trans (Qd some (by kernel_rfl))
 f29:=Tryz.func260.trans (Qd some (by kernel_rfl))
 f46:=⟨Tryz.f342.name,by decide,Tryz.func342.trans (Qd some (by kernel_rfl))⟩
 f47:=Tryz.func322.trans (Qd some (by kernel_rfl))
 f48:=Tryz.func323.trans (Qd some (by kernel_rfl))
 f49:=⟨Tryz.f343.name,by decide,Tryz.func343.trans (Qd some (by kernel_rfl))⟩
 f50:=⟨Tryz.f344.name,by decide,Tryz.func344.trans (Qd some (by kernel_rfl))⟩
 f57:=⟨Tryz.f362.name,by decide,Tryz.func362.trans (Qd some (by kernel_rfl))⟩
 t0:=Tryz.underlying0
 a0:=Tryz.isAgg0
 z0:=Tryz.sizeOf0
 v0:=Tryz.zeroValue0
 t3:=Tryz.underlying3
 a3:=Tryz.isAgg3
 z3:=Tryz.sizeOf3
 v3:=Tryz.zeroValue3
 t4:=Tryz.underlying4
 a4:=Tryz.isAgg4
 z4:=Tryz.sizeOf4
 v4:=Tryz.zeroValue4
 t5:=Tryz.underlying5
 a5:=Tryz.isAgg5
 z5:=Tryz.sizeOf5
 v5:=Tryz.zeroValue5
 t9:=Tryz.underlying9
 a9:=Tryz.isAgg9
 z9:=Tryz.sizeOf9
 v9:=Tryz.zeroValue9
 t22:=Tryz.underlying116
 a22:=Tryz.isAgg116
 z22:=Tryz.sizeOf116
 v22:=Tryz.zeroValue116
 a24:=Tryz.isAgg9
 z24:=Tryz.sizeOf9
 t25:=Tryz.underlying212
 a25:=Tryz.isAgg212
 z25:=Tryz.sizeOf212
 v25:=Tryz.zeroValue212
 t39:=Tryz.underlying249
 a39:=Tryz.isAgg249
 z39:=Tryz.sizeOf249
 v39:=Tryz.zeroValue249
 t45:=Tryz.underlying304
 a45:=Tryz.isAgg304
 z45:=Tryz.sizeOf304
 v45:=Tryz.zeroValue304
 t46:=Tryz.underlying305
 a46:=Tryz.isAgg305
 z46:=Tryz.sizeOf305
 v46:=Tryz.zeroValue305
 t50:=Tryz.underlying214
 a50:=Tryz.isAgg214
 z50:=Tryz.sizeOf214
 v50:=Tryz.zeroValue214
 t53:=Tryz.underlying92
 a53:=Tryz.isAgg92
 z53:=Tryz.sizeOf92
 v53:=Tryz.zeroValue92
 t55:=Tryz.underlying48
 a55:=Tryz.isAgg48
 z55:=Tryz.sizeOf48
 v55:=Tryz.zeroValue48
 t66:=Tryz.underlying351
 a66:=Tryz.isAgg351
 z66:=Tryz.sizeOf351
 v66:=Tryz.zeroValue351
 t70:=Tryz.underlying355
 a70:=Tryz.isAgg355
 z70:=Tryz.sizeOf355
 v70:=Tryz.zeroValue355
 t76:=Tryz.underlying376
 a76:=Tryz.isAgg376
 z76:=Tryz.sizeOf376
 v76:=Tryz.zeroValue376
 t77:=Tryz.underlying377
 a77:=Tryz.isAgg377
 z77:=Tryz.sizeOf377
 v77:=Tryz.zeroValue377 }
def Tryz.laysSort06_ren:Go.Shelf.Ren:=⟨fun | 6=>135 | 15=>186 | 14=>213 | 28=>259 | 29=>260 | 20=>289 | 21=>290 | 22=>291 | 23=>292 | 24=>293 | 25=>294 | 26=>295 | 27=>296 | 46=>342 | 47=>322 | 48=>323 | 49=>343 | 50=>344 | 57=>362 | n=>n,fun | 22=>116 | 24=>9 | 25=>212 | 3=>3 | 39=>249 | 0=>0 | 53=>92 | 55=>48 | 4=>4 | 46=>305 | 45=>304 | 50=>214 | 5=>5 | 9=>9 | 66=>351 | 70=>355 | 76=>376 | 77=>377 | n=>n,fun | n=>n⟩
theorem Tryz.laysSort06:Go.Proofs.SlLaysF0.n6 Tryz.prog Tryz.laysSort06_ren:={
 mixed:=by kernel_rfl
 f6:=⟨Tryz.f135.name,by decide,Tryz.func135.trans (Qd some (by kernel_rfl))⟩
 f14:=⟨Tryz.f213.name,by decide,Tryz.func213.trans (Qd some (by kernel_rfl))⟩
 f15:=Tryz.func186.trans (Qd some (by kernel_rfl))
 f20:=⟨Tryz.f289.name,by decide,Tryz.func289.trans (Qd some (by kernel_rfl))⟩
 f21:=⟨Tryz.f290.name,by decide,Tryz.func290.trans (Qd some (by kernel_rfl))⟩
 f22:=⟨Tryz.f291.name,by decide,Tryz.func291.trans (Qd some (by kernel_rfl))⟩
 f23:=⟨Tryz.f292.name,by decide,Tryz.func292.trans (Qd some (by kernel_rfl))⟩
 f24:=⟨Tryz.f293.name,by decide,Tryz.func293.trans (Qd some (by kernel_rfl))⟩
 f25:=⟨Tryz.f294.name,by decide,Tryz.func294.trans (Qd some (by kernel_rfl))⟩
 f26:=⟨Tryz.f295.name,by decide,Tryz.func295.trans (Qd some (by kernel_rfl))⟩
 f27:=⟨Tryz.f296.name,by decide,Tryz.func296.trans (Qd some (by kernel_rfl))⟩
 f28:=Tryz.func259.trans (Qd some (by kernel_rfl))
 f29:=Tryz.func260.trans (Qd some (by kernel_rfl))
 f46:=⟨Tryz.f342.name,by decide,Tryz.func342.trans (Qd some (by kernel_rfl))⟩
 f47:=Tryz.func322.trans (Qd some (by kernel_rfl))
 f48:=Tryz.func323.trans (Qd some (by kernel_rfl))
 f49:=⟨Tryz.f343.name,by decide,Tryz.func343.trans (Qd some (by kernel_rfl))⟩
 f50:=⟨Tryz.f344.name,by decide,Tryz.func344.trans (Qd some (by kernel_rfl))⟩
 f57:=⟨Tryz.f362.name,by decide,Tryz.func362.trans (Qd some (by kernel_rfl))⟩
 t0:=Tryz.underlying0
 a0:=Tryz.isAgg0
 z0:=Tryz.sizeOf0
 v0:=Tryz.zeroValue0
 t3:=Tryz.underlying3
 a3:=Tryz.isAgg3
 z3:=Tryz.sizeOf3
 v3:=Tryz.zeroValue3
 t4:=Tryz.underlying4
 a4:=Tryz.isAgg4
 z4:=Tryz.sizeOf4
 v4:=Tryz.zeroValue4
 t5:=Tryz.underlying5
 a5:=Tryz.isAgg5
 z5:=Tryz.sizeOf5
 v5:=Tryz.zeroValue5
 t9:=Tryz.underlying9
 a9:=Tryz.isAgg9
 z9:=Tryz.sizeOf9
 v9:=Tryz.zeroValue9
 t22:=Tryz.underlying116
 a22:=Tryz.isAgg116
 z22:=Tryz.sizeOf116
 v22:=Tryz.zeroValue116
 t25:=Tryz.underlying212
 a25:=Tryz.isAgg212
 z25:=Tryz.sizeOf212
 v25:=Tryz.zeroValue212
 t39:=Tryz.underlying249
 a39:=Tryz.isAgg249
 z39:=Tryz.sizeOf249
 v39:=Tryz.zeroValue249
 t45:=Tryz.underlying304
 a45:=Tryz.isAgg304
 z45:=Tryz.sizeOf304
 v45:=Tryz.zeroValue304
 t46:=Tryz.underlying305
 a46:=Tryz.isAgg305
 z46:=Tryz.sizeOf305
 v46:=Tryz.zeroValue305
 t50:=Tryz.underlying214
 a50:=Tryz.isAgg214
 z50:=Tryz.sizeOf214
 v50:=Tryz.zeroValue214
 t53:=Tryz.underlying92
 a53:=Tryz.isAgg92
 z53:=Tryz.sizeOf92
 v53:=Tryz.zeroValue92
 t55:=Tryz.underlying48
 a55:=Tryz.isAgg48
 z55:=Tryz.sizeOf48
 v55:=Tryz.zeroValue48
 t66:=Tryz.underlying351
 a66:=Tryz.isAgg351
 z66:=Tryz.sizeOf351
 v66:=Tryz.zeroValue351
 t70:=Tryz.underlying355
 a70:=Tryz.isAgg355
 z70:=Tryz.sizeOf355
 v70:=Tryz.zeroValue355
 t76:=Tryz.underlying376
 a76:=Tryz.isAgg376
 z76:=Tryz.sizeOf376
 v76:=Tryz.zeroValue376
 t77:=Tryz.underlying377
 a77:=Tryz.isAgg377
 z77:=Tryz.sizeOf377
 v77:=Tryz.zeroValue377 }
open Go.RowKit Go.Lib Go.Sort in
theorem Tryz.slices_SortFunc_none{α:Type}[Inhabited α](p:Option Addr)(cap:Nat)(fv:Value)(w:World) :
 Calls Tryz.prog 135 #[.slice p 0 cap,fv] w λe w'=>e = .returned (.tuple #[])/\w'=w:=AnyF.slices_SortFunc_none Tryz.laysSort06 p cap fv w
open Go.RowKit Go.Lib Go.Sort in
theorem Tryz.slices_SortFunc_total{α:Type}[Inhabited α](enc:α->Value)(h1:OneCell enc)(cf:α->α->Int)(hO:SWO (ltOf cf))(g:Nat)(cb:Array Value)(blk off cap:Nat)(d:Array α)(w:World)(eg:∀ args w,(callFunc g args).run Tryz.prog w = .ok (.enter g args) w)(Bm:CmpLays1 Tryz.prog g cb enc cf blk off d.size w)(hH:Holds enc w blk off d)(Xj:blk<w.heap.size)(ap:d.size<4611686018427387904)(hT:∀ x y,(ltOf cf) x y=false->(ltOf cf) y x=false->x=y) :
 Calls Tryz.prog 135 #[.slice (some ⟨blk,off,none⟩) d.size cap,.func (.func g) #[] cb] w λe w'=>
  e = .returned (.tuple #[])/\∃ n os,w'=sortWorld enc w blk off n (d.toList.mergeSort λx y=>!(ltOf cf) y x).toArray os:=Any.slices_SortFunc_total Tryz.laysSort6 enc h1 cf hO g cb blk off cap d w eg Bm hH Xj ap hT
end Go.Proofs
namespace Go.Proofs
open YtfnopgdcaanaiaaGreatDoor
open Go.Shelf
def Tryz.laysM171_ren:Go.Shelf.Ren:=⟨fun | 171=>132 | 243=>211 | 246=>284 | 283=>285 | 284=>286 | 285=>287 | 286=>288 | 129=>260 | 317=>338 | 318=>339 | 319=>340 | 320=>341 | 337=>360 | 338=>361 | n=>n,fun | 3=>3 | 9=>9 | 2=>2 | 4=>4 | 171=>328 | 0=>0 | 53=>48 | 37=>196 | 5=>5 | 173=>330 | 212=>368 | 51=>92 | 20=>20 | 213=>369 | 46=>249 | 232=>384 | 233=>385 | n=>n,fun | 17=>1 | 18=>3 | 19=>4 | n=>n⟩
theorem Tryz.laysM171:Go.Proofs.LaysM.n171 Tryz.prog Tryz.laysM171_ren:={
 mixed:=by kernel_rfl
 f129:=Tryz.func260.trans (Qd some (by kernel_rfl))
 f171:=Tryz.func132.trans (Qd some (by kernel_rfl))
 f243:=Tryz.func211.trans (Qd some (by kernel_rfl))
 f246:=Tryz.func284.trans (Qd some (by kernel_rfl))
 f283:=Tryz.func285.trans (Qd some (by kernel_rfl))
 f284:=Tryz.func286.trans (Qd some (by kernel_rfl))
 f285:=Tryz.func287.trans (Qd some (by kernel_rfl))
 f286:=Tryz.func288.trans (Qd some (by kernel_rfl))
 f317:=Tryz.func338.trans (Qd some (by kernel_rfl))
 f318:=Tryz.func339.trans (Qd some (by kernel_rfl))
 f319:=Tryz.func340.trans (Qd some (by kernel_rfl))
 f320:=Tryz.func341.trans (Qd some (by kernel_rfl))
 f337:=Tryz.func360.trans (Qd some (by kernel_rfl))
 f338:=Tryz.func361.trans (Qd some (by kernel_rfl))
 t0:=Tryz.underlying0
 a0:=Tryz.isAgg0
 z0:=Tryz.sizeOf0
 v0:=Tryz.zeroValue0
 t2:=Tryz.underlying2
 a2:=Tryz.isAgg2
 z2:=Tryz.sizeOf2
 v2:=Tryz.zeroValue2
 t3:=Tryz.underlying3
 a3:=Tryz.isAgg3
 z3:=Tryz.sizeOf3
 v3:=Tryz.zeroValue3
 t4:=Tryz.underlying4
 a4:=Tryz.isAgg4
 z4:=Tryz.sizeOf4
 v4:=Tryz.zeroValue4
 t5:=Tryz.underlying5
 a5:=Tryz.isAgg5
 z5:=Tryz.sizeOf5
 v5:=Tryz.zeroValue5
 t9:=Tryz.underlying9
 a9:=Tryz.isAgg9
 z9:=Tryz.sizeOf9
 v9:=Tryz.zeroValue9
 t20:=Tryz.underlying20
 a20:=Tryz.isAgg20
 z20:=Tryz.sizeOf20
 v20:=Tryz.zeroValue20
 t37:=Tryz.underlying196
 a37:=Tryz.isAgg196
 z37:=Tryz.sizeOf196
 v37:=Tryz.zeroValue196
 t46:=Tryz.underlying249
 a46:=Tryz.isAgg249
 z46:=Tryz.sizeOf249
 v46:=Tryz.zeroValue249
 t51:=Tryz.underlying92
 a51:=Tryz.isAgg92
 z51:=Tryz.sizeOf92
 v51:=Tryz.zeroValue92
 t53:=Tryz.underlying48
 a53:=Tryz.isAgg48
 z53:=Tryz.sizeOf48
 v53:=Tryz.zeroValue48
 t171:=Tryz.underlying328
 a171:=Tryz.isAgg328
 z171:=Tryz.sizeOf328
 v171:=Tryz.zeroValue328
 t173:=Tryz.underlying330
 a173:=Tryz.isAgg330
 z173:=Tryz.sizeOf330
 v173:=Tryz.zeroValue330
 t212:=Tryz.underlying368
 a212:=Tryz.isAgg368
 z212:=Tryz.sizeOf368
 v212:=Tryz.zeroValue368
 t213:=Tryz.underlying369
 a213:=Tryz.isAgg369
 z213:=Tryz.sizeOf369
 t232:=Tryz.underlying384
 a232:=Tryz.isAgg384
 z232:=Tryz.sizeOf384
 v232:=Tryz.zeroValue384
 t233:=Tryz.underlying385
 a233:=Tryz.isAgg385
 z233:=Tryz.sizeOf385
 v233:=Tryz.zeroValue385
 g17:=by kernel_rfl
 g18:=by kernel_rfl
 g19:=by kernel_rfl
 i0:=by kernel_rfl
 i2:=by kernel_rfl
 i3:=by kernel_rfl
 i4:=by kernel_rfl
 i5:=by kernel_rfl
 i9:=by kernel_rfl
 i20:=by kernel_rfl
 i37:=by kernel_rfl
 i46:=by kernel_rfl
 i51:=by kernel_rfl
 i53:=by kernel_rfl
 i171:=by kernel_rfl
 i173:=by kernel_rfl
 i212:=by kernel_rfl
 i232:=by kernel_rfl
 i233:=by kernel_rfl
 m17:=by kernel_rfl
 m18:=by kernel_rfl
 m19:=by kernel_rfl }
open Go.RowKit Go.Sort Go.Lib in
theorem Tryz.strconv_Itoa(n:Int)(h0 : -9223372036854775808<=n)(h1:n<=9223372036854775807)(w:World)(B9:Lib.TabIs Tryz.prog w "internal/strconv.uint64pow10" .u64 Lib.pow10Tab) :
 Calls Tryz.prog 132 #[.int .i64 n] w λe w'=>e = .returned (.string ⟨(Lib.itoa n).toArray⟩)/\∃ k os,w'=grow (w.drewN k) os:=Any.strconv_Itoa Tryz.laysM171 n h0 h1 w B9
end Go.Proofs
namespace Go.Proofs.YtfnopgdcaanaiaaGreatDoor
open Go.Proofs.Tryz
section
open Go.RowKit Go.Sort Go.Lib
theorem Wh(u:Nat)(Cb:u<18446744073709551616)(w:World)(B9:Lib.TabIs prog w "internal/strconv.uint64pow10" .u64 Lib.pow10Tab) :
 Calls prog 212 #[.int .u64 u,.int .i64 10] w λe w'=>e = .returned (.string ⟨(Lib.decDigits u).toArray⟩)/\∃ k os,w'=grow (w.drewN k) os:=by
 have vV:∀ w,1<=u->Lib.TabIs prog w "internal/strconv.uint64pow10" .u64 Lib.pow10Tab->Calls prog 286 #[.int .u64 u] w λe w'=>e = .returned (.int .i64 (Lib.nDigits u))/\w'=w:=λw h1 h=>Any.internal_strconv_numDigits { Tryz.laysM171 with } u h1 Cb w h;by_cases hs:u<100
 ·have Jg:∀ w,Calls prog 285 #[.int .i64 u] w λe w'=>e = .returned (.string ⟨(Lib.decDigits u).toArray⟩)/\w'=w:=λw=>Any.internal_strconv_small { Tryz.laysM171 with } u hs w;go_enter func212,ntmps212;go_wp2_with fail;refine (Jg _).mono ?_;rintro e w' ⟨rfl,rfl⟩;go_wp2_with fail;go_ret;exact⟨rfl,0,#[],by simp[World.drewN_zero]⟩
 ·have tS:1<=u:=by omega
  have aZZ:Lib.nDigits u<=20:=by have:=Lib.numDigits_eq u tS Cb;split at this <;> omega
  have am:Lib.nDigits u<=24:=by omega
  have kD:prog.arrayLen 328=24:=by simp[Program.arrayLen,underlying328]
  have da:∀ W,(Instr.sliceAt 328 (.pointer (some ⟨w.heap.size,0,none⟩)) none (some (.int .i64 (Lib.nDigits u:Int))) none).run prog W = .ok (.slice (some ⟨w.heap.size,0,none⟩) (Lib.nDigits u) 24) W:=λW=>by
   rw[run_sliceAt_array_h W 328 ⟨w.heap.size,0,none⟩ (by simp[Program.arrayLen,Program.elem,underlying328]) .i64 (Lib.nDigits u:Int) (by omega) (by rw[kD];omega)];go_simp
  have Id:=Lib.holds_zero0 w 328 (Lib.nDigits u) (by omega);have N5:Calls prog 287 #[.slice (some ⟨w.heap.size,0,none⟩) (Array.replicate (Lib.nDigits u) (0:UInt8)).size 24,.int .u64 u] (w.alloc (.cells Lib.zeros24 328)) λe w'=>e = .returned (.tuple #[])/\∃ (n v':Nat) (dk:Array UInt8),w'=(putRow (λ(b:UInt8)=>Value.int .u8 (b.toNat:Int)) (w.alloc (.cells Lib.zeros24 328)) w.heap.size 0 dk).drewN n/\FmtInv (Array.replicate (Lib.nDigits u) (0:UInt8)).size u 0 v' dk:=Any.internal_strconv_formatBase10 { Tryz.laysM171 with } w.heap.size 0 24 u (Array.replicate (Lib.nDigits u) 0) (w.alloc (.cells Lib.zeros24 328)) Id (by rw[Array.size_replicate];exact Lib.lt_pow_nDigits u) Cb (by rw[Array.size_replicate];omega);rw[Array.size_replicate] at N5;have Gg:=jq Id;clear Id kD;go_enter func212,ntmps212;go_wp2_with fail;refine (vV _ tS (Lib.tabIs_alloc B9 _)).mono ?_;rintro e w' ⟨rfl,rfl⟩;go_wp2_with fail;refine N5.mono ?_;rintro e w' ⟨rfl,k,v',dk,rfl,hF⟩;have hcv:(convert 196 9 (.slice (some ⟨w.heap.size,0,none⟩) (Lib.nDigits u) 24)).run prog ((putRow (λ(b:UInt8)=>Value.int .u8 (b.toNat:Int)) (w.alloc (.cells Lib.zeros24 328)) w.heap.size 0 dk).drewN k) = .ok (.string ⟨(Lib.decDigits u).toArray⟩) ((putRow (λ(b:UInt8)=>Value.int .u8 (b.toNat:Int)) (w.alloc (.cells Lib.zeros24 328)) w.heap.size 0 dk).drewN k):=by
   have h:=run_convert_bytes_back (P:=prog) ((putRow (λ(b:UInt8)=>Value.int .u8 (b.toNat:Int)) (w.alloc (.cells Lib.zeros24 328)) w.heap.size 0 dk).drewN k) 196 9 5 ⟨w.heap.size,0,none⟩ 24 (Lib.decDigits u) underlying196 underlying5 underlying9 (λj hj=>by
    rw[Lib.row_is_numeral hF j hj,Lib.add_plain,World.cell?_drewN];exact cell?_putRow (λ(b:UInt8)=>Value.int .u8 (b.toNat:Int)) _ w.heap.size 0 _ dk Gg.out (by rw[hF.size,Array.size_replicate]) j (by rw[hF.size];rw[Lib.decDigits_length] at hj;exact hj))
   rw[Lib.decDigits_length] at h;exact h
  go_wp2;go_ret;obtain⟨os,eo⟩:=Lib.fin_at w (.cells Lib.zeros24 328) dk k 0;exact⟨rfl,k,os,eo⟩
theorem Wi(u:Nat)(Cb:u<18446744073709551616)(w:World)(B9:Lib.TabIs prog w "internal/strconv.uint64pow10" .u64 Lib.pow10Tab) :
 Calls prog 133 #[.int .u64 u,.int .i64 10] w λe w'=>e = .returned (.string ⟨(Lib.decDigits u).toArray⟩)/\∃ k os,w'=grow (w.drewN k) os:=by
 go_enter func133,ntmps133;go_wp2_with fail;refine (Wh u Cb w B9).mono ?_;rintro e w' ⟨rfl,k,os,rfl⟩;go_wp2_with fail;go_ret;exact⟨rfl,k,os,rfl⟩
end
end Go.Proofs.YtfnopgdcaanaiaaGreatDoor
