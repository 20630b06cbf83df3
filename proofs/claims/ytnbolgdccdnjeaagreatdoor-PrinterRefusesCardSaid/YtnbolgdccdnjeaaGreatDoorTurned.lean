/- One block is turned, and nothing else. No condition. -/
import Derived.Test.YtnbolgdccdnjeaaGreatDoorOwn
import Derived.Lib.ConvBytes
namespace Go.Proofs.YtnbolgdccdnjeaaGreatDoor
open Go.RowKit
/-- Only block b has turned. -/
structure Turned (b : Nat) (w w' : World) : Prop where
  os : w'.os = w.os
  tape : w'.tape = w.tape
  output : w'.output = w.output
  size : w'.heap.size = w.heap.size
  block : ∀ i, i ≠ b → w'.heap[i]? = w.heap[i]?
theorem Turned.refl (b : Nat) (w : World) : Turned b w w := ⟨rfl, rfl, rfl, rfl, fun _ _ => rfl⟩
theorem Turned.trans {b : Nat} {u v w : World} (h : Turned b u v) (k : Turned b v w) : Turned b u w := ⟨k.os.trans h.os, k.tape.trans h.tape, k.output.trans h.output, k.size.trans h.size, fun i hi => (k.block i hi).trans (h.block i hi)⟩
theorem Turned.cell {b : Nat} {w w' : World} (h : Turned b w w') {p : Addr} (hp : p.block ≠ b) : w'.cell? p = w.cell? p := by
  unfold World.cell?
  rw [h.block _ hp]
theorem turned_set (w : World) (b : Nat) (v : Value) : Turned b w (w.setCell ⟨b, 0, none⟩ v) :=
  ⟨rfl, rfl, rfl, by simp [World.setCell], fun i hi => by simp [World.setCell, Array.getElem?_modify, Ne.symm hi]⟩
theorem Turned.grown {b : Nat} {w w' : World} (h : Turned b w w') : w.grownBy w' (some b) := ⟨h.os, h.tape, h.output, by rw [h.size]; exact Nat.le_refl _, fun i _ hne => h.block i (fun e => hne (by rw [e]))⟩
theorem Turned.below {b n : Nat} {w w' : World} (h : Turned b w w') (hn : n ≤ b) : Below n w w' := ⟨h.os, h.tape, h.output, by rw [h.size]; exact Nat.le_refl _, fun i hi => h.block i (by omega)⟩
theorem below_bytes (w : World) (t : TypeId) (z : ByteArray) {n : Nat} (hn : n ≤ w.heap.size) : Below n w (Lib.bytesWorld w t z) := by
  refine ⟨?_, ?_, ?_, by rw [Lib.bytesWorld_size]; omega, fun i hi => Lib.bytesWorld_at_old _ _ _ _ (by omega)⟩ <;> (unfold Lib.bytesWorld World.freeze; rfl)
end Go.Proofs.YtnbolgdccdnjeaaGreatDoor
