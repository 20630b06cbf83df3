/- The plain functions that the contracts name: no program in sight. -/
import GoSem.Op.String
namespace Go.Proofs.YtnbolgdccdnjeaaGreatDoor.Np

def isLow (c : UInt8) : Bool := 97 ≤ c && c ≤ 122
def isDig (c : UInt8) : Bool := 48 ≤ c && c ≤ 57
def labelByte (c : UInt8) : Bool := isLow c || isDig c || c == 45
def isLabel (l : List UInt8) : Bool := decide (1 ≤ l.length) && decide (l.length ≤ 12) && !(l.head? == some 45) && !(l.getLast? == some 45) && l.all labelByte

/-- Where a byte stands last. -/
def LastAt (l : List UInt8) (c : UInt8) (r : Int) : Prop := (r = -1 ∧ c ∉ l) ∨ ∃ a b, l = a ++ c :: b ∧ c ∉ b ∧ r = a.length

/-- What stands between the dots. -/
def splitDots : List UInt8 → List (List UInt8)
  | [] => [[]]
  | c :: r => if c = 46 then [] :: splitDots r else match splitDots r with
    | x :: xs => (c :: x) :: xs
    | [] => [[c]]

theorem splitDots_ne (l : List UInt8) : splitDots l ≠ [] := by
  cases l with
  | nil => simp [splitDots]
  | cons c r =>
    unfold splitDots
    split
    · simp
    · split <;> simp

theorem splitDots_none {l : List UInt8} (h : 46 ∉ l) : splitDots l = [l] := by
  induction l with
  | nil => rfl
  | cons c r ih =>
    have h1 : c ≠ 46 := fun e => h (by simp [e])
    have h2 : 46 ∉ r := fun e => h (by simp [e])
    unfold splitDots
    rw [if_neg h1, ih h2]

theorem splitDots_app (a b : List UInt8) : splitDots (a ++ 46 :: b) = splitDots a ++ splitDots b := by
  induction a with
  | nil => simp [splitDots]
  | cons c r ih =>
    rw [List.cons_append]
    by_cases h : c = 46
    · rw [splitDots, if_pos h, splitDots, if_pos h, ih]; rfl
    · rw [splitDots, if_neg h, splitDots, if_neg h, ih]
      have hne := splitDots_ne r
      cases hr : splitDots r with
      | nil => exact absurd hr hne
      | cons x xs => rfl

/-- The labels of a text, the last one first. -/
def back (l : List UInt8) : List (List UInt8) := if l = [46] then [] else (splitDots l).reverse

/-- What 'valid' does with the labels, one after the other. -/
def goodFrom : List (List UInt8) → Nat → Bool → Bool
  | [], _, _ => true
  | x :: xs, n, wild => if wild || decide (8 < n + 1) then false else if x = [42] then goodFrom xs (n + 1) true else if isLabel x then goodFrom xs (n + 1) false else false

def validName (l : List UInt8) : Bool := if l = [46] then true else if 60 < l.length then false else goodFrom (splitDots l).reverse 0 false

theorem splitDots_len {l y : List UInt8} (h : y ∈ splitDots l) : y.length ≤ l.length := by
  induction l generalizing y with
  | nil => simp [splitDots] at h; subst h; simp
  | cons c r ih =>
    unfold splitDots at h
    split at h
    · rcases List.mem_cons.1 h with e | e
      · subst e; simp
      · have := ih e; simp; omega
    · split at h
      · rename_i x xs hx
        rcases List.mem_cons.1 h with e | e
        · subst e; have := ih (y := x) (by rw [hx]; simp); simp; omega
        · have := ih (y := y) (by rw [hx]; simp [e]); simp; omega
      · simp at h; subst h; simp
theorem back_len {l y : List UInt8} (h : y ∈ back l) : y.length ≤ l.length := by
  unfold back at h
  split at h
  · cases h
  · exact splitDots_len (List.mem_reverse.1 h)

def freeByte (c : UInt8) : Bool := isLow c || isDig c || c == 32
def isFree (l : List UInt8) : Bool := decide (1 ≤ l.length) && decide (l.length ≤ 40) && !(l.head? == some 32) && !(l.getLast? == some 32) && l.all freeByte
def isWild (l : List UInt8) : Bool := l.head? == some 42

structure Rule where
  text : Int
  leastN : Int
  mostN : Int
  leastM : Int
  mostM : Int
  even : Bool
  single : Bool
  wild : Bool

structure Datum where
  text : List UInt8
  n : Int
  m : Int
deriving DecidableEq

def validText (k : Int) (l : List UInt8) : Bool := if k = 1 then validName l && !isWild l else if k = 2 then validName l else if k = 3 then isFree l else l == []
def validDatum (r : Rule) (d : Datum) : Bool :=
  (decide (r.leastN ≤ d.n) && decide (d.n ≤ r.mostN)) && (decide (r.leastM ≤ d.m) && decide (d.m ≤ r.mostM)) && !(r.even && (d.n.tmod 2 != 0)) && validText r.text d.text

def cmpS (a b : List UInt8) : Int := if Go.Op.bytesLess a b then -1 else if a = b then 0 else 1
def cmpI (a b : Int) : Int := if a < b then -1 else if b < a then 1 else 0
def cmpD (a b : Datum) : Int := if cmpS a.text b.text ≠ 0 then cmpS a.text b.text else if cmpI a.n b.n ≠ 0 then cmpI a.n b.n else cmpI a.m b.m

def rules : List Rule := [⟨0, 0, 0, 0, 0, false, false, false⟩, ⟨0, 1, 1000000, 0, 0, false, false, true⟩, ⟨1, 0, 0, 0, 0, false, false, false⟩, ⟨1, 0, 0, 0, 0, false, true, false⟩, ⟨0, 0, 65535, 0, 100000, false, true, false⟩,
  ⟨3, 0, 0, 0, 0, false, false, true⟩, ⟨0, 1, 1000000, 1, 3, false, false, false⟩, ⟨0, 1, 1000000, 1, 3, false, false, false⟩, ⟨2, 2, 510, 0, 0, true, false, true⟩]
def ruleOf (k : Int) : Rule := rules.getD k.toNat ⟨0, 0, 0, 0, 0, false, false, false⟩

structure DSet where
  name : List UInt8
  type : Int
  life : Int
  data : List Datum
deriving DecidableEq

/-- The data of a set: each one valid, and in order. -/
def goodData (r : Rule) : Option Datum → List Datum → Bool
  | _, [] => true
  | p, d :: ds => validDatum r d && (match p with | none => true | some q => decide (cmpD q d < 0)) && goodData r (some d) ds

def validSet (s : DSet) : Bool :=
  validName s.name && (decide (1 ≤ s.type) && decide (s.type ≤ 8)) && (decide (0 ≤ s.life) && decide (s.life ≤ 100000)) && (decide (1 ≤ s.data.length) && decide (s.data.length ≤ 8)) &&
  !((ruleOf s.type).single && decide (s.data.length ≠ 1)) && !(isWild s.name && !(ruleOf s.type).wild) && goodData (ruleOf s.type) none s.data

theorem goodData_bad {r : Rule} {p : Option Datum} {ds : List Datum} {j : Nat} {d : Datum} (hd : ds[j]? = some d) (h : validDatum r d = false) : goodData r p (ds.drop j) = false := by
  rw [List.drop_eq_getElem_cons (List.getElem?_eq_some_iff.1 hd).1, (List.getElem?_eq_some_iff.1 hd).2]
  simp [goodData, h]
theorem goodData_first {r : Rule} {ds : List Datum} {d : Datum} (hd : ds[0]? = some d) (h : validDatum r d = true) : goodData r (ds.take 0).getLast? (ds.drop 0) = goodData r (ds.take 1).getLast? (ds.drop 1) := by
  cases ds with
  | nil => simp at hd
  | cons x r => simp at hd; subst hd; simp [goodData, h]
theorem goodData_next {r : Rule} {ds : List Datum} {j : Nat} {q d : Datum} (hq : ds[j]? = some q) (hd : ds[j + 1]? = some d) (h : validDatum r d = true) :
    goodData r (ds.take (j + 1)).getLast? (ds.drop (j + 1)) = if cmpD q d < 0 then goodData r (ds.take (j + 1 + 1)).getLast? (ds.drop (j + 1 + 1)) else false := by
  have h1 := (List.getElem?_eq_some_iff.1 hq)
  have h2 := (List.getElem?_eq_some_iff.1 hd)
  rw [List.drop_eq_getElem_cons h2.1, h2.2, List.take_succ_eq_append_getElem h1.1, h1.2, List.take_succ_eq_append_getElem h2.1, h2.2]
  simp only [List.getLast?_append, List.getLast?_singleton, Option.some_or, goodData, h]
  split <;> rename_i hc <;> simp [hc]

end Go.Proofs.YtnbolgdccdnjeaaGreatDoor.Np
