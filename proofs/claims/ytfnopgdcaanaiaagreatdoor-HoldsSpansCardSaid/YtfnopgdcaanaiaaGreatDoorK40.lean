/- Parts of the proof. No condition. -/
import Derived.Test.YtfnopgdcaanaiaaGreatDoorK24
import Derived.Test.YtfnopgdcaanaiaaGreatDoorK29
set_option linter.all false
set_option maxRecDepth 100000
set_option maxHeartbeats 8000000
namespace Go.Proofs.YtfnopgdcaanaiaaGreatDoor
section
open Go.RowKit
structure VerAt(n:Nat)(w:World)(b b1 b2:Nat)(k:Int):Prop where
 row:OneAt n w b [.string ⟨#[120]⟩,.int .i64 2,.int .i64 60,.slice (some ⟨b1,0,none⟩) 1 1,.slice none 0 0,.string ⟨#[120]⟩,.int .i64 4,.int .i64 60,.slice (some ⟨b2,0,none⟩) 1 1,.slice none 0 0]
 d1:OneAt n w b1 [.string ⟨#[97,46,110,115]⟩,.int .i64 0,.int .i64 0]
 d2:OneAt n w b2 [.string ⟨#[]⟩,.int .i64 k,.int .i64 9]
theorem VerAt.keep{n:Nat}{w w':World}{b b1 b2:Nat}{k:Int}(h:VerAt n w b b1 b2 k)(hb:Below w.heap.size w w'):VerAt n w' b b1 b2 k:=⟨h.row.keep hb,h.d1.keep hb,h.d2.keep hb⟩
theorem OneAt.off{n:Nat}{w:World}{b:Nat}{l:List Value}(h:OneAt n w b l){M:Nat->Prop}(hM:∀ k,M k->0<=k/\k<n):ai (bi w M) b 0 l:=h.cells.off (λe=>by have:=hM b e;have:=h.lo;omega)
theorem aGK{w:World}{B b:Nat}(hb:b<B)(h:ai w b 0 [.string ⟨#[97,46,110,115]⟩,.int .i64 0,.int .i64 0]):SlR bF 3 w B (.slice (some ⟨b,0,none⟩) 1 1) Np.RF.set.data:=
 iY (R:=bF) [.string ⟨#[97,46,110,115]⟩,.int .i64 0,.int .i64 0] hb h ⟨⟨#[97,46,110,115]⟩,rfl,by decide,rfl⟩
theorem aGX{w:World}{B b:Nat}{k:Int}(hb:b<B)(h:ai w b 0 [.string ⟨#[]⟩,.int .i64 k,.int .i64 9]):SlR bF 3 w B (.slice (some ⟨b,0,none⟩) 1 1) (Np.RG k).set.data:=
 iY (R:=bF) [.string ⟨#[]⟩,.int .i64 k,.int .i64 9] hb h ⟨⟨#[]⟩,rfl,by decide,rfl⟩
theorem VerAt.around{n:Nat}{w:World}{b b1 b2:Nat}{k:Int}(h:VerAt n w b b1 b2 k):gq bk 5 0 n w (.slice (some ⟨b,0,none⟩) 2 2) (Np.Fm k).sets:=λM hM=>
 abQ (R:=bk) [.string ⟨#[120]⟩,.int .i64 2,.int .i64 60,.slice (some ⟨b1,0,none⟩) 1 1,.slice none 0 0] [.string ⟨#[120]⟩,.int .i64 4,.int .i64 60,.slice (some ⟨b2,0,none⟩) 1 1,.slice none 0 0] rfl h.row.hi (h.row.off hM)
  ⟨⟨#[120]⟩,_,_,rfl,by decide,aGK h.d1.hi (h.d1.off hM),kU _ _ _ _,rfl⟩
  ⟨⟨#[120]⟩,_,_,rfl,by decide,aGX h.d2.hi (h.d2.off hM),kU _ _ _ _,rfl⟩
end
end Go.Proofs.YtfnopgdcaanaiaaGreatDoor
