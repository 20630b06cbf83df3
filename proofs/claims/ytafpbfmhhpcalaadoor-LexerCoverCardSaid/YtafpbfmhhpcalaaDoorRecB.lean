/- record.Bytes, plain part: what a valid set's numbers are. -/
import Derived.Test.YtafpbfmhhpcalaaDoorSum2
import Derived.Test.YtafpbfmhhpcalaaDoorRec3
namespace Go.Proofs.YtafpbfmhhpcalaaDoor
open Go.RowKit
namespace Np
theorem validName_len {l : List UInt8} (h : validName l = true) : l.length ≤ 60 := by
  unfold validName at h
  split at h
  · rename_i h1; subst h1; simp
  · split at h
    · cases h
    · omega
theorem validText_len {k : Int} {l : List UInt8} (h : validText k l = true) : l.length ≤ 60 := by
  unfold validText at h
  split at h
  · simp at h; exact validName_len h.1
  · split at h
    · exact validName_len h
    · split at h
      · simp [isFree] at h; omega
      · simp at h; subst h; simp
/-- The rules' least numbers are not negative, and the greatest are small. -/
def ruleOk (r : Rule) : Bool := decide (0 ≤ r.leastN) && decide (0 ≤ r.leastM) && decide (r.mostN ≤ 1000000) && decide (r.mostM ≤ 1000000)
theorem ruleOf_ok (k : Int) : ruleOk (ruleOf k) = true := by
  have h : ∀ i : Nat, ruleOk (rules.getD i ⟨0, 0, 0, 0, 0, false, false, false⟩) = true := by
    intro i
    by_cases hi : i < 9
    · rcases (by omega : i = 0 ∨ i = 1 ∨ i = 2 ∨ i = 3 ∨ i = 4 ∨ i = 5 ∨ i = 6 ∨ i = 7 ∨ i = 8) with rfl | rfl | rfl | rfl | rfl | rfl | rfl | rfl | rfl <;> rfl
    · rw [List.getD_eq_getElem?_getD, List.getElem?_eq_none (by simp [rules]; omega)]; rfl
  exact h _
structure DatumOk (d : Datum) : Prop where
  text : d.text.length ≤ 60
  n0 : 0 ≤ d.n
  n1 : d.n ≤ 1000000
  m0 : 0 ≤ d.m
  m1 : d.m ≤ 1000000
theorem validDatum_ok {r : Rule} {d : Datum} (hr : ruleOk r = true) (h : validDatum r d = true) : DatumOk d := by
  simp [ruleOk] at hr
  simp only [validDatum, Bool.and_eq_true, decide_eq_true_eq] at h
  exact ⟨validText_len h.2, by omega, by omega, by omega, by omega⟩
theorem goodData_ok {r : Rule} (hr : ruleOk r = true) : ∀ {ds : List Datum} {p : Option Datum}, goodData r p ds = true → ∀ d ∈ ds, DatumOk d
  | [], _, _ => by simp
  | d :: ds, p, h => by
    simp only [goodData, Bool.and_eq_true] at h
    intro x hx
    rcases List.mem_cons.1 hx with rfl | hx
    · exact validDatum_ok hr h.1.1
    · exact goodData_ok hr h.2 x hx
structure SetOk (s : DSet) : Prop where
  name : s.name.length ≤ 60
  ty0 : 1 ≤ s.type
  ty1 : s.type ≤ 8
  li0 : 0 ≤ s.life
  li1 : s.life ≤ 100000
  len : s.data.length ≤ 8
  data : ∀ d ∈ s.data, DatumOk d
theorem validSet_ok {s : DSet} (h : validSet s = true) : SetOk s := by
  simp only [validSet, Bool.and_eq_true, decide_eq_true_eq] at h
  obtain ⟨⟨⟨⟨⟨⟨h1, h2⟩, h3⟩, h4⟩, _⟩, _⟩, h7⟩ := h
  exact ⟨validName_len h1, h2.1, h2.2, h3.1, h3.2, h4.2, goodData_ok (ruleOf_ok _) h7⟩

def text (l : List UInt8) : List UInt8 := UInt8.ofNat l.length :: l
def num (n : Int) : List UInt8 := (List.range 8).map fun i => UInt8.ofNat (n.toNat / 2 ^ (56 - 8 * i))
def datumBytes (d : Datum) : List UInt8 := text d.text ++ num d.n ++ num d.m
def headBytes (s : DSet) : List UInt8 := text s.name ++ num s.type ++ num s.life ++ [UInt8.ofNat s.data.length]
def recBytes (s : DSet) : List UInt8 := headBytes s ++ s.data.flatMap datumBytes
theorem num_len (n : Int) : (num n).length = 8 := by simp [num]
theorem datumBytes_len {d : Datum} (h : DatumOk d) : (datumBytes d).length ≤ 80 := by
  have := h.text
  simp [datumBytes, text, num_len]; omega
theorem flat_len : ∀ {ds : List Datum}, (∀ d ∈ ds, DatumOk d) → (ds.flatMap datumBytes).length ≤ 80 * ds.length
  | [], _ => by simp
  | d :: ds, h => by
    have h1 := datumBytes_len (h d (by simp))
    have h2 := flat_len (ds := ds) (fun x hx => h x (by simp [hx]))
    simp only [List.flatMap_cons, List.length_append, List.length_cons]
    omega
end Np
/-- The contracts, with the plain words. -/
theorem appendText_np (base : Nat) (v : Value) (bs : List UInt8) (s : ByteArray) (hl : bs.length ≤ 1000000) (hs : s.data.toList.length ≤ 60) (w : World) (hb : base ≤ w.heap.size) (h : OwnB w base v bs) :
    Calls Tryd.prog 71 #[v, .string s] w (GivesB base v (bs ++ Np.text s.data.toList) w) := by
  have := appendText_any base v bs s hl (by simp at hs; omega) w hb h
  simpa [Np.text] using this
theorem appendNumber_np (base : Nat) (v : Value) (bs : List UInt8) (n : Int) (hl : bs.length ≤ 1000000) (h0 : 0 ≤ n) (h1 : n ≤ 1000000) (w : World) (hb : base ≤ w.heap.size) (h : OwnB w base v bs) :
    Calls Tryd.prog 72 #[v, .int .i64 n] w (GivesB base v (bs ++ Np.num n) w) := by
  obtain ⟨m, rfl⟩ := Int.eq_ofNat_of_zero_le h0
  exact appendNumber_any base v bs m hl (by omega) w hb h
theorem OwnB.bytes {w : World} {base : Nat} {v : Value} {bs : List UInt8} (h : OwnB w base v bs) (hl : bs.length ≤ 1000000) : BytesAt w w.heap.size v (bs.map fun c => (c.toNat : Int)) := by
  rcases h.2 with ⟨rfl, h0⟩ | ⟨g, cap, cur, rfl, hb, hg, hnc, _, _, htake⟩
  · have : bs = [] := List.eq_nil_of_length_eq_zero h0
    subst this
    exact ⟨none, 0, rfl, by simp, by simp, fun i x hx => by simp at hx⟩
  · refine ⟨some ⟨g, 0, none⟩, cap, by simp, by simp; omega, by simpa using hnc, fun i x hx => ⟨g, 0, rfl, ?_, (Array.getElem?_eq_some_iff.1 hg).1, ?_⟩⟩
    · have := (Array.getElem?_eq_some_iff.1 hg).1; omega
    · have := h.cells (g := g) rfl i (.int .u8 x) (by simp at hx ⊢; exact hx)
      by_cases hi : i = 0
      · subst hi; simpa [Addr.add] using this
      · simpa [Addr.add, hi] using this
end Go.Proofs.YtafpbfmhhpcalaaDoor
