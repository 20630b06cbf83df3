/- Parts of the proof. No condition. -/
import Derived.Test.YtfnopgdcaanaiaaGreatDoorH44
set_option linter.all false
set_option maxRecDepth 100000
set_option maxHeartbeats 8000000
namespace Go.Proofs.YtfnopgdcaanaiaaGreatDoor
section
open Go.RowKit
structure ExAt(n:Nat)(w:World)(e:List Value)(hb cb db ib v1 v2 v3:Nat):Prop where
 val:e = [.slice (some ⟨hb,0,none⟩) 2 2,.slice (some ⟨cb,0,none⟩) 3 3,.string ⟨#[46]⟩,.int .i64 6,.int .i64 60,.slice (some ⟨db,0,none⟩) 1 1,.slice (some ⟨ib,0,none⟩) 1 1,.int .i64 0,.int .i64 40]
 hosts:OneAt n w hb [.string ⟨#[97,46,110,115]⟩,.int .i64 1,.int .i64 0,.string ⟨#[98,46,110,115]⟩,.int .i64 2,.int .i64 0]
 copies:OneAt n w cb [.int .i64 0,.int .i64 0,.int .i64 10,.string ⟨#[120]⟩,.slice (some ⟨v1,0,none⟩) 2 2,.int .i64 0,.int .i64 10,.int .i64 30,.string ⟨#[120]⟩,.slice (some ⟨v2,0,none⟩) 2 2,.int .i64 1,.int .i64 5,.int .i64 20,.string ⟨#[120]⟩,.slice (some ⟨v3,0,none⟩) 2 2]
 obj:w.heap[cb]?=some (.cells #[.int .i64 0,.int .i64 0,.int .i64 10,.string ⟨#[120]⟩,.slice (some ⟨v1,0,none⟩) 2 2,.int .i64 0,.int .i64 10,.int .i64 30,.string ⟨#[120]⟩,.slice (some ⟨v2,0,none⟩) 2 2,.int .i64 1,.int .i64 5,.int .i64 20,.string ⟨#[120]⟩,.slice (some ⟨v3,0,none⟩) 2 2] 46)
 data:OneAt n w db [.string ⟨#[]⟩,.int .i64 1,.int .i64 1]
 hints:OneAt n w ib [.int .i64 1]
 ne:hb≠cb/\db≠cb/\ib≠cb
 z1:∀ M:Nat->Prop,(∀ k,M k->k<n\/k=cb)->SlR bh 5 (bd w M) w.heap.size (.slice (some ⟨v1,0,none⟩) 2 2) (Np.tW 1).sets
 z2:∀ M:Nat->Prop,(∀ k,M k->k<n\/k=cb)->SlR bh 5 (bd w M) w.heap.size (.slice (some ⟨v2,0,none⟩) 2 2) (Np.tW 2).sets
 z3:∀ M:Nat->Prop,(∀ k,M k->k<n\/k=cb)->SlR bh 5 (bd w M) w.heap.size (.slice (some ⟨v3,0,none⟩) 2 2) (Np.tW 1).sets
theorem ExAt.rhist{n:Nat}{w:World}{e:List Value}{hb cb db ib v1 v2 v3:Nat}(h:ExAt n w e hb cb db ib v1 v2 v3):ed w w.heap.size e Np.exH:=by
 have hF:∀ k,(λ_:Nat=>False) k->k<n\/k=cb:=λ_ e=>e.elim;exact⟨_,_,⟨#[46]⟩,_,_,h.val,rfl,by decide,Mn (R:=iG) [.string ⟨#[97,46,110,115]⟩,.int .i64 1,.int .i64 0] [.string ⟨#[98,46,110,115]⟩,.int .i64 2,.int .i64 0] rfl h.hosts.hi h.hosts.cells ⟨⟨#[97,46,110,115]⟩,rfl,by decide,rfl⟩ ⟨⟨#[98,46,110,115]⟩,rfl,by decide,rfl⟩,Gi (R:=fU) [.int .i64 0,.int .i64 0,.int .i64 10,.string ⟨#[120]⟩,.slice (some ⟨v1,0,none⟩) 2 2] [.int .i64 0,.int .i64 10,.int .i64 30,.string ⟨#[120]⟩,.slice (some ⟨v2,0,none⟩) 2 2] [.int .i64 1,.int .i64 5,.int .i64 20,.string ⟨#[120]⟩,.slice (some ⟨v3,0,none⟩) 2 2] rfl rfl h.copies.hi h.copies.cells ⟨⟨#[120]⟩,_,rfl,by decide,((h.z1 _ hF).all mb),rfl⟩ ⟨⟨#[120]⟩,_,rfl,by decide,((h.z2 _ hF).all mb),rfl⟩ ⟨⟨#[120]⟩,_,rfl,by decide,((h.z3 _ hF).all mb),rfl⟩,gL (R:=bn) [.string ⟨#[]⟩,.int .i64 1,.int .i64 1] h.data.hi h.data.cells ⟨⟨#[]⟩,rfl,by decide,rfl⟩,gL (R:=jn) [.int .i64 1] h.hints.hi h.hints.cells rfl⟩
end
end Go.Proofs.YtfnopgdcaanaiaaGreatDoor
