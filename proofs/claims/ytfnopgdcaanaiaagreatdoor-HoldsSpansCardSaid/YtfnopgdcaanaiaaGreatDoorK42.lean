/- Parts of the proof. No condition. -/
import Derived.Test.YtfnopgdcaanaiaaGreatDoorK40
set_option linter.all false
set_option maxRecDepth 100000
set_option maxHeartbeats 8000000
namespace Go.Proofs.YtfnopgdcaanaiaaGreatDoor
section
open Go.RowKit
structure ExAt(n:Nat)(w:World)(e:List Value)(hb cb db ib v1 v2 v3:Nat):Prop where
 val:e = [.slice (some ⟨hb,0,none⟩) 2 2,.slice (some ⟨cb,0,none⟩) 3 3,.string ⟨#[46]⟩,.int .i64 6,.int .i64 60,.slice (some ⟨db,0,none⟩) 1 1,.slice (some ⟨ib,0,none⟩) 1 1,.int .i64 0,.int .i64 40]
 hosts:OneAt n w hb [.string ⟨#[97,46,110,115]⟩,.int .i64 1,.int .i64 0,.string ⟨#[98,46,110,115]⟩,.int .i64 2,.int .i64 0]
 copies:OneAt n w cb [.int .i64 0,.int .i64 0,.int .i64 10,.string ⟨#[120]⟩,.slice (some ⟨v1,0,none⟩) 2 2,.int .i64 0,.int .i64 10,.int .i64 30,.string ⟨#[120]⟩,.slice (some ⟨v2,0,none⟩) 2 2,.int .i64 1,.int .i64 5,.int .i64 20,.string ⟨#[120]⟩,.slice (some ⟨v3,0,none⟩) 2 2]
 obj:w.heap[cb]?=some (.cells #[.int .i64 0,.int .i64 0,.int .i64 10,.string ⟨#[120]⟩,.slice (some ⟨v1,0,none⟩) 2 2,.int .i64 0,.int .i64 10,.int .i64 30,.string ⟨#[120]⟩,.slice (some ⟨v2,0,none⟩) 2 2,.int .i64 1,.int .i64 5,.int .i64 20,.string ⟨#[120]⟩,.slice (some ⟨v3,0,none⟩) 2 2] 46)
 data:OneAt n w db [.string ⟨#[]⟩,.int .i64 1,.int .i64 1]
 hints:OneAt n w ib [.int .i64 1]
 ne:hb≠cb/\db≠cb/\ib≠cb
 z1:∀ M:Nat->Prop,(∀ k,M k->k<n\/k=cb)->SlR bk 5 (bi w M) w.heap.size (.slice (some ⟨v1,0,none⟩) 2 2) (Np.Fm 1).sets
 z2:∀ M:Nat->Prop,(∀ k,M k->k<n\/k=cb)->SlR bk 5 (bi w M) w.heap.size (.slice (some ⟨v2,0,none⟩) 2 2) (Np.Fm 2).sets
 z3:∀ M:Nat->Prop,(∀ k,M k->k<n\/k=cb)->SlR bk 5 (bi w M) w.heap.size (.slice (some ⟨v3,0,none⟩) 2 2) (Np.Fm 1).sets
end
end Go.Proofs.YtfnopgdcaanaiaaGreatDoor
