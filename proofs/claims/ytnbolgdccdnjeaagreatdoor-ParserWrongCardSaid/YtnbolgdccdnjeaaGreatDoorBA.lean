/- Joined by program from: AppStr, Bld, Bld2, Entry, Entry2. No condition. -/
import Derived.Test.YtnbolgdccdnjeaaGreatDoorKA
import Derived.Lib.AppendStr
import Derived.Test.YtnbolgdccdnjeaaGreatDoorProg
import Derived.Test.YtnbolgdccdnjeaaGreatDoorRf2
import Derived.Lib.Builder
import Derived.Lib.UnsafeStr
import Derived.Laws.Externs
import Derived.Laws.EntriesVeiled
import Derived.RegionTactic
import Derived.Test.YtnbolgdccdnjeaaGreatDoorPA
import Derived.Test.YtnbolgdccdnjeaaGreatDoorNB
import Derived.Test.YtnbolgdccdnjeaaGreatDoorShelf5
import Derived.Deep.DeepCutAuto
import Derived.Lib.AppendIntMem
/- A string that is appended to bytes of the call's own: where they lie behind it. No condition. -/
namespace Go.Proofs.YtnbolgdccdnjeaaGreatDoor
open Go.RowKit
section
variable {P : Program} (w : World)
end

end Go.Proofs.YtnbolgdccdnjeaaGreatDoor
/- A strings.Builder of the call's own, in a block of its own or at the head of a struct: what its methods do. -/
namespace Go.Proofs.YtnbolgdccdnjeaaGreatDoor
open Go.RowKit
/-- A type of two cells with a Builder at its head. -/
structure BldT (T : TypeId) : Prop where
  lies : liesAt Tryz.prog Tryz.prog.depth T (2 / Tryz.prog.cellsOf T) 0 83 1 = true
  ne : T ≠ 5
/-- The builder in block b holds the bytes l; r: the block of its buffer; all that is its own lies from B on. -/
def Bld (T : TypeId) (B b : Nat) (r : Option Nat) (l : List UInt8) (w : World) : Prop :=
  ∃ p v, (p = .pointer none ∨ p = .pointer (some ⟨b, 0, none⟩)) ∧ B ≤ b ∧ w.heap[b]? = some (.cells #[p, v] T (0, 0)) ∧ w.ownsRow B 5 1 v l.length (Lib.byteCells l) ∧ v.ownBlock = r ∧ r ≠ some b ∧ (l = [] → v = .slice none 0 0)
/-- What a step of a builder leaves alone. -/
structure BS (b : Nat) (r : Option Nat) (w : World) (r' : Option Nat) (w' : World) : Prop where
  os : w'.os = w.os
  tape : w'.tape = w.tape
  output : w'.output = w.output
  size : w.heap.size ≤ w'.heap.size
  keep : ∀ k, k < w.heap.size → k ≠ b → r ≠ some k → w'.heap[k]? = w.heap[k]?
  at_ : r' = r ∨ ∃ k, w.heap.size ≤ k ∧ r' = some k
theorem BS.refl (b : Nat) (r : Option Nat) (w : World) : BS b r w r w := ⟨rfl, rfl, rfl, Nat.le_refl _, fun _ _ _ _ => rfl, .inl rfl⟩
theorem BS.trans {b : Nat} {r r' r'' : Option Nat} {w w' w'' : World} (h : BS b r w r' w') (k : BS b r' w' r'' w'') : BS b r w r'' w'' := by
  refine ⟨k.os.trans h.os, k.tape.trans h.tape, k.output.trans h.output, Nat.le_trans h.size k.size, fun i hi hb hr => ?_, ?_⟩
  · refine (k.keep i (Nat.lt_of_lt_of_le hi h.size) hb (fun e => ?_)).trans (h.keep i hi hb hr)
    rcases h.at_ with e' | ⟨j, hj, e'⟩
    · rw [e'] at e; exact hr e
    · rw [e'] at e; simp at e; omega
  · rcases k.at_ with e | ⟨j, hj, e⟩
    · rcases h.at_ with e' | ⟨j, hj, e'⟩
      · exact .inl (e.trans e')
      · exact .inr ⟨j, hj, e.trans e'⟩
    · exact .inr ⟨j, Nat.le_trans h.size hj, e⟩
theorem BS.of_below {b : Nat} {r : Option Nat} {w w' : World} (h : Below w.heap.size w w') : BS b r w r w' := ⟨h.os, h.tape, h.output, h.size, fun k hk _ _ => h.block k hk, .inl rfl⟩
theorem BS.after {b : Nat} {r r' : Option Nat} {w w' w'' : World} (h : BS b r w r' w') (k : Below w'.heap.size w' w'') : BS b r w r' w'' := h.trans (BS.of_below k)
theorem BS.below {b : Nat} {r r' : Option Nat} {w w' : World} {n : Nat} (h : BS b r w r' w') (hb : n ≤ b) (hr : ∀ k, r = some k → n ≤ k) (hn : n ≤ w.heap.size) : Below n w w' :=
  ⟨h.os, h.tape, h.output, h.size, fun k hk => h.keep k (by omega) (by omega) (fun e => by have := hr k e; omega)⟩
theorem BS.cell {b : Nat} {r r' : Option Nat} {w w' : World} (h : BS b r w r' w') {k : Nat} (hk : k < w.heap.size) (hb : k ≠ b) (hr : r ≠ some k) (o : Nat) : w'.cell? ⟨k, o, none⟩ = w.cell? ⟨k, o, none⟩ := World.cell?_of_block (w := w) (h.keep k hk hb hr)
theorem BS.free {b : Nat} {r r' : Option Nat} {w w' : World} (h : BS b r w r' w') {k : Nat} (hk : k < w.heap.size) (hr : r ≠ some k) : r' ≠ some k := fun e => by
  rcases h.at_ with e' | ⟨j, hj, e'⟩
  · rw [e'] at e; exact hr e
  · rw [e'] at e; simp at e; omega
theorem Bld.row {T : TypeId} {B b : Nat} {r : Option Nat} {l : List UInt8} {w : World} (h : Bld T B b r l w) : B ≤ b ∧ b < w.heap.size ∧ ∀ k, r = some k → B ≤ k ∧ k < w.heap.size := by
  obtain ⟨p, v, _, hB, hb, ho, rfl, _, _⟩ := h
  exact ⟨hB, (Array.getElem?_eq_some_iff.1 hb).1, fun k hk => ho.lt k hk⟩
theorem Bld.keep {T : TypeId} {B b : Nat} {r : Option Nat} {l : List UInt8} {w w' : World} (h : Bld T B b r l w) (hb : Below w.heap.size w w') : Bld T B b r l w' := by
  have hrow := h.row
  obtain ⟨p, v, hp, hB, hh, ho, rfl, hne, hn⟩ := h
  refine ⟨p, v, hp, hB, (hb.block b hrow.2.1).trans hh, ownsRow_keep ho (fun g hg => hb.block g (hrow.2.2 g hg).2), rfl, hne, hn⟩
end Go.Proofs.YtnbolgdccdnjeaaGreatDoor
/- The text of a strings.Builder; a line of words. -/
namespace Go.Proofs.YtnbolgdccdnjeaaGreatDoor
open Go.RowKit
/-- A builder whose bytes can be read, written or not since they were read. -/
def BldR (T : TypeId) (B b : Nat) (l : List UInt8) (w : World) : Prop :=
  ∃ p v, B ≤ b ∧ w.heap[b]? = some (.cells #[p, v] T (0, 0)) ∧ ((v = .slice none 0 0 ∧ l = []) ∨ ∃ g cap cur fr, v = .slice (some ⟨g, 0, none⟩) l.length cap ∧ l ≠ [] ∧ B ≤ g ∧ g ≠ b ∧ w.heap[g]? = some (.cells cur 5 fr) ∧ l.length ≤ cur.size ∧ l.length ≤ cap ∧ l.length ≤ 9223372036854775807 ∧ cur.toList.take l.length = Lib.byteCells l)
theorem Bld.read {T : TypeId} {B b : Nat} {r : Option Nat} {l : List UInt8} {w : World} (h : Bld T B b r l w) : BldR T B b l w := by
  obtain ⟨p, v, _, hB, hb, ho, hr, hne, hn⟩ := h
  refine ⟨p, v, hB, hb, ?_⟩
  by_cases h0 : l = []
  · exact .inl ⟨hn h0, h0⟩
  · right
    rcases ho.2 with ⟨_, h1⟩ | ⟨g, cap, cur, rfl, hbg, hg, hnc, hcm, hcs, ht⟩
    · exact absurd (List.eq_nil_of_length_eq_zero h1) h0
    · refine ⟨g, cap, cur, _, rfl, h0, hbg, fun e => hne ?_, hg, by omega, hnc, by unfold maxLen at hcm; omega, by simpa using ht⟩
      rw [← hr, e]; rfl
theorem BldR.keep {T : TypeId} {B b : Nat} {l : List UInt8} {w w' : World} (h : BldR T B b l w) (hb : Below w.heap.size w w') : BldR T B b l w' := by
  obtain ⟨p, v, hB, hh, hv⟩ := h
  refine ⟨p, v, hB, (hb.block b (Array.getElem?_eq_some_iff.1 hh).1).trans hh, ?_⟩
  rcases hv with hv | ⟨g, cap, cur, fr, h1, h2, h3, h4, h5, h6⟩
  · exact .inl hv
  · exact .inr ⟨g, cap, cur, fr, h1, h2, h3, h4, (hb.block g (Array.getElem?_eq_some_iff.1 h5).1).trans h5, h6⟩
/-- A slice of texts that lies apart from a builder. -/
def StrsX (b : Nat) (r : Option Nat) (w : World) (v : Value) (ws : List (List UInt8)) : Prop :=
  ∃ A c, v = .slice A ws.length c ∧ ws.length ≤ c ∧ ws.length ≤ 1000000 ∧ ∀ i x, ws[i]? = some x → ∃ g o, A = some ⟨g, o, none⟩ ∧ g < w.heap.size ∧ g ≠ b ∧ r ≠ some g ∧ w.cell? ⟨g, o + i, none⟩ = some (strs x)
theorem StrsX.step {b : Nat} {r r' : Option Nat} {w w' : World} {v : Value} {ws : List (List UInt8)} (h : StrsX b r w v ws) (hs : BS b r w r' w') : StrsX b r' w' v ws := by
  obtain ⟨A, c, h1, h2, h3, h4⟩ := h
  refine ⟨A, c, h1, h2, h3, fun i x hx => ?_⟩
  obtain ⟨g, o, h5, h6, h7, h8, h9⟩ := h4 i x hx
  exact ⟨g, o, h5, Nat.lt_of_lt_of_le h6 hs.size, h7, hs.free h6 h8, (hs.cell h6 h7 h8 _).trans h9⟩
end Go.Proofs.YtnbolgdccdnjeaaGreatDoor
/- Contracts of package printer: the words of a line. -/
namespace Go.Proofs.YtnbolgdccdnjeaaGreatDoor
open Go.RowKit
/-- The table of powers of ten lies in memory. -/
def PowIn (w : World) : Prop := Lib.TabIs Tryz.prog w "internal/strconv.uint64pow10" .u64 Lib.pow10Tab
theorem gPow : Tryz.prog.globalNamed "internal/strconv.uint64pow10" = some 7 := by kernel_rfl
theorem PowIn.keep {w w' : World} (h : PowIn w) (hb : Below w.heap.size w w') : PowIn w' := by
  unfold PowIn Lib.TabIs World.var? at h ⊢
  rw [gPow] at h ⊢
  simp only [Option.bind_some] at h ⊢
  have hg : 7 < w.heap.size := by
    cases hh : w.heap[7]? with
    | none => rw [hh] at h; cases h
    | some o => exact (Array.getElem?_eq_some_iff.1 hh).1
  rw [hb.block _ hg]; exact h
theorem PowIn.lt {w : World} (h : PowIn w) : 7 < w.heap.size := by
  unfold PowIn Lib.TabIs World.var? at h
  rw [gPow] at h
  simp only [Option.bind_some] at h
  cases hh : w.heap[7]? with
  | none => rw [hh] at h; cases h
  | some o => exact (Array.getElem?_eq_some_iff.1 hh).1
/-- The table of words lies in memory, below B. -/
def WordsIn (w : World) (B : Nat) : Prop := 2 < B ∧ ∀ k : Nat, k < 9 → w.cell? ⟨2, k, none⟩ = some (strs (Np.wordOf k))
theorem WordsIn.keep {w w' : World} {B : Nat} (h : WordsIn w B) (hb : Below B w w') : WordsIn w' B := ⟨h.1, fun k hk => (hb.cell (p := ⟨2, k, none⟩) h.1).trans (h.2 k hk)⟩
theorem WordsIn.more {w : World} {B B' : Nat} (h : WordsIn w B) (hB : B ≤ B') : WordsIn w B' := ⟨Nat.lt_of_lt_of_le h.1 hB, h.2⟩
theorem str_eta (s : ByteArray) : Value.string s = strs s.data.toList := by cases s; rfl
theorem arr_app (a b : List UInt8) : (⟨(a ++ b).toArray⟩ : ByteArray) = ⟨a.toArray⟩ ++ ⟨b.toArray⟩ := by
  apply str_ext
  rw [ByteArray.data_append, Array.toList_append]
theorem strs_app (a b : List UInt8) : Value.string ((⟨a.toArray⟩ : ByteArray) ++ ⟨b.toArray⟩) = strs (a ++ b) := congrArg _ (arr_app a b).symm
theorem strs_app3 (a b c : List UInt8) : Value.string ((⟨a.toArray⟩ : ByteArray) ++ ⟨b.toArray⟩ ++ ⟨c.toArray⟩) = strs (a ++ b ++ c) := by
  rw [← arr_app a b]; exact strs_app _ _
end Go.Proofs.YtnbolgdccdnjeaaGreatDoor
/- Contract of printer.entry. -/
namespace Go.Proofs.YtnbolgdccdnjeaaGreatDoor
open Go.RowKit
end Go.Proofs.YtnbolgdccdnjeaaGreatDoor
