/- Joined by program from: Spec, Spec2, LexSpec, LexPlain, LexPlain3, LexPlain4, PrintSpec, RefName, PrintLex, PrintBd. No condition. -/
import GoSem.Op.String
/- The plain functions that the contracts name: no program in sight. -/
namespace Go.Proofs.YtnbolgdccdnjeaaGreatDoor.Np

def isLow (c : UInt8) : Bool := 97 ≤ c && c ≤ 122
def isDig (c : UInt8) : Bool := 48 ≤ c && c ≤ 57
def labelByte (c : UInt8) : Bool := isLow c || isDig c || c == 45
def isLabel (l : List UInt8) : Bool := decide (1 ≤ l.length) && decide (l.length ≤ 12) && !(l.head? == some 45) && !(l.getLast? == some 45) && l.all labelByte

/-- Where a byte stands last. -/
def LastAt (l : List UInt8) (c : UInt8) (r : Int) : Prop := (r = -1 ∧ c ∉ l) ∨ ∃ a b, l = a ++ c :: b ∧ c ∉ b ∧ r = a.length

/-- What stands between the dots. -/
def splitDots : List UInt8 → List (List UInt8)
  | [] => [[]]
  | c :: r => if c = 46 then [] :: splitDots r else match splitDots r with
    | x :: xs => (c :: x) :: xs
    | [] => [[c]]

theorem splitDots_ne (l : List UInt8) : splitDots l ≠ [] := by
  cases l with
  | nil => simp [splitDots]
  | cons c r =>
    unfold splitDots
    split
    · simp
    · split <;> simp

theorem splitDots_none {l : List UInt8} (h : 46 ∉ l) : splitDots l = [l] := by
  induction l with
  | nil => rfl
  | cons c r ih =>
    have h1 : c ≠ 46 := fun e => h (by simp [e])
    have h2 : 46 ∉ r := fun e => h (by simp [e])
    unfold splitDots
    rw [if_neg h1, ih h2]

theorem splitDots_app (a b : List UInt8) : splitDots (a ++ 46 :: b) = splitDots a ++ splitDots b := by
  induction a with
  | nil => simp [splitDots]
  | cons c r ih =>
    rw [List.cons_append]
    by_cases h : c = 46
    · rw [splitDots, if_pos h, splitDots, if_pos h, ih]; rfl
    · rw [splitDots, if_neg h, splitDots, if_neg h, ih]
      have hne := splitDots_ne r
      cases hr : splitDots r with
      | nil => exact absurd hr hne
      | cons x xs => rfl

/-- The labels of a text, the last one first. -/
def back (l : List UInt8) : List (List UInt8) := if l = [46] then [] else (splitDots l).reverse

/-- What 'valid' does with the labels, one after the other. -/
def goodFrom : List (List UInt8) → Nat → Bool → Bool
  | [], _, _ => true
  | x :: xs, n, wild => if wild || decide (8 < n + 1) then false else if x = [42] then goodFrom xs (n + 1) true else if isLabel x then goodFrom xs (n + 1) false else false

def validName (l : List UInt8) : Bool := if l = [46] then true else if 60 < l.length then false else goodFrom (splitDots l).reverse 0 false

theorem splitDots_len {l y : List UInt8} (h : y ∈ splitDots l) : y.length ≤ l.length := by
  induction l generalizing y with
  | nil => simp [splitDots] at h; subst h; simp
  | cons c r ih =>
    unfold splitDots at h
    split at h
    · rcases List.mem_cons.1 h with e | e
      · subst e; simp
      · have := ih e; simp; omega
    · split at h
      · rename_i x xs hx
        rcases List.mem_cons.1 h with e | e
        · subst e; have := ih (y := x) (by rw [hx]; simp); simp; omega
        · have := ih (y := y) (by rw [hx]; simp [e]); simp; omega
      · simp at h; subst h; simp
theorem back_len {l y : List UInt8} (h : y ∈ back l) : y.length ≤ l.length := by
  unfold back at h
  split at h
  · cases h
  · exact splitDots_len (List.mem_reverse.1 h)

def freeByte (c : UInt8) : Bool := isLow c || isDig c || c == 32
def isFree (l : List UInt8) : Bool := decide (1 ≤ l.length) && decide (l.length ≤ 40) && !(l.head? == some 32) && !(l.getLast? == some 32) && l.all freeByte
def isWild (l : List UInt8) : Bool := l.head? == some 42

structure Rule where
  text : Int
  leastN : Int
  mostN : Int
  leastM : Int
  mostM : Int
  even : Bool
  single : Bool
  wild : Bool

structure Datum where
  text : List UInt8
  n : Int
  m : Int
deriving DecidableEq

def validText (k : Int) (l : List UInt8) : Bool := if k = 1 then validName l && !isWild l else if k = 2 then validName l else if k = 3 then isFree l else l == []
def validDatum (r : Rule) (d : Datum) : Bool :=
  (decide (r.leastN ≤ d.n) && decide (d.n ≤ r.mostN)) && (decide (r.leastM ≤ d.m) && decide (d.m ≤ r.mostM)) && !(r.even && (d.n.tmod 2 != 0)) && validText r.text d.text

def cmpS (a b : List UInt8) : Int := if Go.Op.bytesLess a b then -1 else if a = b then 0 else 1
def cmpI (a b : Int) : Int := if a < b then -1 else if b < a then 1 else 0
def cmpD (a b : Datum) : Int := if cmpS a.text b.text ≠ 0 then cmpS a.text b.text else if cmpI a.n b.n ≠ 0 then cmpI a.n b.n else cmpI a.m b.m

def rules : List Rule := [⟨0, 0, 0, 0, 0, false, false, false⟩, ⟨0, 1, 1000000, 0, 0, false, false, true⟩, ⟨1, 0, 0, 0, 0, false, false, false⟩, ⟨1, 0, 0, 0, 0, false, true, false⟩, ⟨0, 0, 65535, 0, 100000, false, true, false⟩,
  ⟨3, 0, 0, 0, 0, false, false, true⟩, ⟨0, 1, 1000000, 1, 3, false, false, false⟩, ⟨0, 1, 1000000, 1, 3, false, false, false⟩, ⟨2, 2, 510, 0, 0, true, false, true⟩]
def ruleOf (k : Int) : Rule := rules.getD k.toNat ⟨0, 0, 0, 0, 0, false, false, false⟩

structure DSet where
  name : List UInt8
  type : Int
  life : Int
  data : List Datum
deriving DecidableEq

/-- The data of a set: each one valid, and in order. -/
def goodData (r : Rule) : Option Datum → List Datum → Bool
  | _, [] => true
  | p, d :: ds => validDatum r d && (match p with | none => true | some q => decide (cmpD q d < 0)) && goodData r (some d) ds

def validSet (s : DSet) : Bool :=
  validName s.name && (decide (1 ≤ s.type) && decide (s.type ≤ 8)) && (decide (0 ≤ s.life) && decide (s.life ≤ 100000)) && (decide (1 ≤ s.data.length) && decide (s.data.length ≤ 8)) &&
  !((ruleOf s.type).single && decide (s.data.length ≠ 1)) && !(isWild s.name && !(ruleOf s.type).wild) && goodData (ruleOf s.type) none s.data

theorem goodData_bad {r : Rule} {p : Option Datum} {ds : List Datum} {j : Nat} {d : Datum} (hd : ds[j]? = some d) (h : validDatum r d = false) : goodData r p (ds.drop j) = false := by
  rw [List.drop_eq_getElem_cons (List.getElem?_eq_some_iff.1 hd).1, (List.getElem?_eq_some_iff.1 hd).2]
  simp [goodData, h]
theorem goodData_first {r : Rule} {ds : List Datum} {d : Datum} (hd : ds[0]? = some d) (h : validDatum r d = true) : goodData r (ds.take 0).getLast? (ds.drop 0) = goodData r (ds.take 1).getLast? (ds.drop 1) := by
  cases ds with
  | nil => simp at hd
  | cons x r => simp at hd; subst hd; simp [goodData, h]
theorem goodData_next {r : Rule} {ds : List Datum} {j : Nat} {q d : Datum} (hq : ds[j]? = some q) (hd : ds[j + 1]? = some d) (h : validDatum r d = true) :
    goodData r (ds.take (j + 1)).getLast? (ds.drop (j + 1)) = if cmpD q d < 0 then goodData r (ds.take (j + 1 + 1)).getLast? (ds.drop (j + 1 + 1)) else false := by
  have h1 := (List.getElem?_eq_some_iff.1 hq)
  have h2 := (List.getElem?_eq_some_iff.1 hd)
  rw [List.drop_eq_getElem_cons h2.1, h2.2, List.take_succ_eq_append_getElem h1.1, h1.2, List.take_succ_eq_append_getElem h2.1, h2.2]
  simp only [List.getLast?_append, List.getLast?_singleton, Option.some_or, goodData, h]
  split <;> rename_i hc <;> simp [hc]

end Go.Proofs.YtnbolgdccdnjeaaGreatDoor.Np
/- The plain functions of layers 20 and 25 that the contracts name. -/
namespace Go.Proofs.YtnbolgdccdnjeaaGreatDoor.Np

structure Sig where
  zone : List UInt8
  key : Int
  alg : Int
  frm : Int
  til : Int
  sum : Int
deriving DecidableEq

structure Signed where
  set : DSet
  sigs : List Sig
deriving DecidableEq

structure Span where
  frm : Int
  til : Int
deriving DecidableEq

def sameWin (g x : Sig) : Bool := (x.frm != g.frm) || (x.til != g.til)
def plainSigs : List Sig → Bool
  | [] => true
  | g :: r => !(decide (g.frm < 0) || decide (g.til < g.frm) || decide (20000000 < g.til)) && !((g :: r).any (sameWin g))
def plain (s : Signed) : Bool := validSet s.set && decide (s.sigs.length ≤ 6) && plainSigs s.sigs

def timesArg (begin stop length drift life : Int) : Prop := 0 ≤ drift ∧ drift ≤ 1000 ∧ 1 ≤ stop ∧ stop ≤ 10000000 ∧ drift ≤ begin ∧ begin ≤ stop - 1 ∧ 1 ≤ length ∧ length ≤ 10000000 ∧ 0 ≤ life ∧ life ≤ 100000
instance (b s l d f : Int) : Decidable (timesArg b s l d f) := by unfold timesArg; infer_instance
end Go.Proofs.YtnbolgdccdnjeaaGreatDoor.Np
/- The lexer, plain: no program in sight. -/
namespace Go.Proofs.YtnbolgdccdnjeaaGreatDoor.Np
/-- What begins with a byte. -/
def cls (c : UInt8) : Nat :=
  if c = 32 ∨ c = 9 ∨ c = 10 then 1 else if c = 35 then 2 else if isLow c || isDig c || c == 42 then 3 else if c = 45 then 4 else if c = 46 then 5 else if c = 34 then 6
  else if c = 123 ∨ c = 125 ∨ c = 59 ∨ c = 44 ∨ c = 61 ∨ c = 64 then 7 else 0
def isRun (c : UInt8) : Bool := cls c == 3 || cls c == 4 || cls c == 5
def notEnd (c : UInt8) : Bool := c != 10
def inText (c : UInt8) : Bool := c != 34 && c != 10
def quoteW (r : List UInt8) : Nat := if 1 ≤ (r.takeWhile inText).length ∧ r[(r.takeWhile inText).length]? = some 34 then (r.takeWhile inText).length + 2 else 0
/-- How many bytes the gap or the token has that begins here; 0: neither. -/
def width : List UInt8 → Nat
  | [] => 0
  | c :: r => match cls c with
    | 1 => 1
    | 2 => ((c :: r).takeWhile notEnd).length
    | 3 => ((c :: r).takeWhile isRun).length
    | 5 => if ((c :: r).takeWhile isRun).length = 1 then 1 else 0
    | 6 => quoteW r
    | 7 => 1
    | _ => 0
structure Tok where
  kind : Int
  text : List UInt8
  n : Int
  pos : Int
deriving DecidableEq
def Tok.zero : Tok := ⟨0, [], 0, 0⟩
def dec (s : List UInt8) : Nat := s.foldl (fun a c => 10 * a + (c.toNat - 48)) 0
def tokOf (k : Nat) (s : List UInt8) : Int × Tok :=
  if k = 7 then (0, ⟨3, s, 0, 0⟩)
  else if k = 6 then (if 42 < s.length then (3, Tok.zero) else (0, ⟨1, s, 0, 0⟩))
  else if s.all isDig = false then (if 60 < s.length then (3, Tok.zero) else (0, ⟨1, s, 0, 0⟩))
  else if 1 < s.length ∧ s.head? = some 48 then (10, Tok.zero)
  else if 1000000000 < dec s then (3, Tok.zero) else (0, ⟨2, [], dec s, 0⟩)
/-- The tokens from an offset on, of which some were found before; an error and its offset, or 0. -/
def lexFrom : List UInt8 → Nat → Nat → List Tok × Int × Nat
  | [], _, _ => ([], 0, 0)
  | c :: r, p, k =>
    let n := width (c :: r)
    if cls c = 1 ∨ cls c = 2 then lexFrom (r.drop (n - 1)) (p + n) k
    else if n = 0 then ([], 10, p)
    else if k = 2000 then ([], 2, p)
    else if (tokOf (cls c) ((c :: r).take n)).1 ≠ 0 then ([], (tokOf (cls c) ((c :: r).take n)).1, p)
    else
      let x := lexFrom (r.drop (n - 1)) (p + n) (k + 1)
      ({ (tokOf (cls c) ((c :: r).take n)).2 with pos := p } :: x.1, x.2)
termination_by l => l.length
decreasing_by all_goals (simp; omega)
def lex (s : List UInt8) : List Tok × Int × Nat :=
  if 8000 < s.length then ([], 2, 0) else if (lexFrom s 0 0).2.1 = 0 then ((lexFrom s 0 0).1, 0, 0) else ([], (lexFrom s 0 0).2)

theorem takeWhile_ge {p : UInt8 → Bool} {c : UInt8} {r : List UInt8} (h : p c = true) : 1 ≤ ((c :: r).takeWhile p).length := by
  simp [h]
theorem takeWhile_le {p : UInt8 → Bool} (l : List UInt8) : (l.takeWhile p).length ≤ l.length := by
  induction l with
  | nil => simp
  | cons a l ih => rw [List.takeWhile_cons]; split <;> simp; omega
theorem cls_lt (c : UInt8) : cls c ≤ 7 := by unfold cls; repeat (split <;> try omega)
theorem cls2 {c : UInt8} (h : cls c = 2) : c = 35 := by
  unfold cls at h
  split at h
  · omega
  · split at h
    · assumption
    · repeat (split at h; · omega)
      omega
theorem width_gap {c : UInt8} {r : List UInt8} (h : cls c = 1 ∨ cls c = 2) : 1 ≤ width (c :: r) := by
  rcases h with h | h
  · simp [width, h]
  · rw [width, h]
    exact takeWhile_ge (by rw [cls2 h]; rfl)
theorem quoteW_le (r : List UInt8) : quoteW r ≤ r.length + 1 := by
  unfold quoteW
  split
  · rename_i h
    have := (List.getElem?_eq_some_iff.1 h.2).1
    omega
  · omega
theorem width_le (l : List UInt8) : width l ≤ l.length := by
  cases l with
  | nil => simp [width]
  | cons c r =>
    rw [width]
    split
    · simp
    · exact takeWhile_le _
    · exact takeWhile_le _
    · split <;> simp
    · have := quoteW_le r; simp; omega
    · simp
    · simp
theorem drop_width {c : UInt8} {r : List UInt8} {n : Nat} (h : 1 ≤ n) : r.drop (n - 1) = (c :: r).drop n := by
  obtain ⟨m, rfl⟩ : ∃ m, n = m + 1 := ⟨n - 1, by omega⟩
  simp
/-- One step: a gap. -/
theorem lexFrom_gap {c : UInt8} {r : List UInt8} (p k : Nat) (h : cls c = 1 ∨ cls c = 2) : lexFrom (c :: r) p k = lexFrom ((c :: r).drop (width (c :: r))) (p + width (c :: r)) k := by
  rw [lexFrom, if_pos h, drop_width (c := c) (width_gap h)]
theorem lexFrom_bad {c : UInt8} {r : List UInt8} (p k : Nat) (h : ¬ (cls c = 1 ∨ cls c = 2)) (h0 : width (c :: r) = 0) : lexFrom (c :: r) p k = ([], 10, p) := by
  rw [lexFrom, if_neg h, if_pos h0]
theorem lexFrom_limit {c : UInt8} {r : List UInt8} (p : Nat) (h : ¬ (cls c = 1 ∨ cls c = 2)) (h0 : width (c :: r) ≠ 0) : lexFrom (c :: r) p 2000 = ([], 2, p) := by
  rw [lexFrom, if_neg h, if_neg h0, if_pos rfl]
theorem lexFrom_err {c : UInt8} {r : List UInt8} (p k : Nat) (h : ¬ (cls c = 1 ∨ cls c = 2)) (h0 : width (c :: r) ≠ 0) (hk : k ≠ 2000) (he : (tokOf (cls c) ((c :: r).take (width (c :: r)))).1 ≠ 0) :
    lexFrom (c :: r) p k = ([], (tokOf (cls c) ((c :: r).take (width (c :: r)))).1, p) := by
  rw [lexFrom, if_neg h, if_neg h0, if_neg hk, if_pos he]
theorem lexFrom_tok {c : UInt8} {r : List UInt8} (p k : Nat) (h : ¬ (cls c = 1 ∨ cls c = 2)) (h0 : width (c :: r) ≠ 0) (hk : k ≠ 2000) (he : (tokOf (cls c) ((c :: r).take (width (c :: r)))).1 = 0) :
    lexFrom (c :: r) p k = ({ (tokOf (cls c) ((c :: r).take (width (c :: r)))).2 with pos := (p : Int) } :: (lexFrom ((c :: r).drop (width (c :: r))) (p + width (c :: r)) (k + 1)).1, (lexFrom ((c :: r).drop (width (c :: r))) (p + width (c :: r)) (k + 1)).2) := by
  rw [lexFrom, if_neg h, if_neg h0, if_neg hk, if_neg (by simp [he]), drop_width (c := c) (by omega)]
end Go.Proofs.YtnbolgdccdnjeaaGreatDoor.Np
/- The lexer, plain: sources one behind the other. -/
namespace Go.Proofs.YtnbolgdccdnjeaaGreatDoor.Np
/-- Tokens further on. -/
def shift (b : Int) (t : Tok) : Tok := { t with pos := t.pos + b }
/-- Where a source stands, and how many tokens were before it, does not matter, but for the limit. -/
theorem lex_move : ∀ (n : Nat) (s : List UInt8) (p d k k' : Nat), s.length ≤ n → k' + (lexFrom s p k).1.length ≤ 2000 → (lexFrom s p k).2.1 ≠ 2 → ((lexFrom s p k).2.1 ≠ 0 → k' + (lexFrom s p k).1.length < 2000) →
    lexFrom s (p + d) k' = ((lexFrom s p k).1.map (shift d), (lexFrom s p k).2.1, if (lexFrom s p k).2.1 = 0 then 0 else (lexFrom s p k).2.2 + d) := by
  intro n
  induction n with
  | zero =>
    intro s p d k k' hn _ _ _
    have : s = [] := List.eq_nil_of_length_eq_zero (by omega)
    subst this
    simp [lexFrom]
  | succ n ih =>
    intro s p d k k' hn h1 h2 h3
    cases s with
    | nil => simp [lexFrom]
    | cons c r =>
      have hle := width_le (c :: r)
      by_cases hg : cls c = 1 ∨ cls c = 2
      · have hw := width_gap (r := r) hg
        rw [lexFrom_gap p k hg] at h1 h2 h3 ⊢
        rw [lexFrom_gap (p + d) k' hg, show p + d + width (c :: r) = p + width (c :: r) + d by omega]
        exact ih _ _ d k k' (by simp at hn ⊢; omega) h1 h2 h3
      · by_cases h0 : width (c :: r) = 0
        · rw [lexFrom_bad p k hg h0, lexFrom_bad (p + d) k' hg h0]; simp
        · by_cases hk : k = 2000
          · subst hk
            rw [lexFrom_limit p hg h0] at h2
            exact absurd rfl h2
          · by_cases he : (tokOf (cls c) ((c :: r).take (width (c :: r)))).1 = 0
            · rw [lexFrom_tok p k hg h0 hk he] at h1 h2 h3 ⊢
              simp only [List.length_cons] at h1 h3
              have hk' : k' ≠ 2000 := by omega
              rw [lexFrom_tok (p + d) k' hg h0 hk' he, show p + d + width (c :: r) = p + width (c :: r) + d by omega]
              rw [ih _ _ d (k + 1) (k' + 1) (by simp at hn ⊢; omega) (by omega) h2 (fun h => by have := h3 h; omega)]
              simp [shift]
            · rw [lexFrom_err p k hg h0 hk he] at h1 h2 h3 ⊢
              have hk' : k' ≠ 2000 := by have := h3 he; simp at this; omega
              rw [lexFrom_err (p + d) k' hg h0 hk' he]
              simp [he]
/-- Where tokens lie, and errors. -/
theorem lex_place : ∀ (n : Nat) (s : List UInt8) (p k : Nat), s.length ≤ n → k ≤ 2000 →
    (∀ t ∈ (lexFrom s p k).1, (p : Int) ≤ t.pos ∧ t.pos < p + s.length) ∧ (lexFrom s p k).1.length ≤ s.length ∧ k + (lexFrom s p k).1.length ≤ 2000 ∧
      ((lexFrom s p k).2.1 ≠ 0 → (lexFrom s p k).1.length < s.length ∧ p ≤ (lexFrom s p k).2.2 ∧ ∃ c, s[(lexFrom s p k).2.2 - p]? = some c ∧ c ≠ 10) ∧ ((lexFrom s p k).2.1 = 0 → (lexFrom s p k).2.2 = 0) := by
  intro n
  induction n with
  | zero =>
    intro s p k hn hk
    have : s = [] := List.eq_nil_of_length_eq_zero (by omega)
    subst this
    simp [lexFrom, hk]
  | succ n ih =>
    intro s p k hn hk
    cases s with
    | nil => simp [lexFrom, hk]
    | cons c r =>
      have hle := width_le (c :: r)
      by_cases hg : cls c = 1 ∨ cls c = 2
      · have hw := width_gap (r := r) hg
        rw [lexFrom_gap p k hg]
        obtain ⟨i1, i2, i3, i4, i5⟩ := ih ((c :: r).drop (width (c :: r))) (p + width (c :: r)) k (by simp at hn ⊢; omega) hk
        simp only [List.length_drop] at i1 i2 i4
        refine ⟨fun t ht => by have := i1 t ht; simp at *; omega, by simp at *; omega, i3, fun h => ?_, i5⟩
        obtain ⟨j1, j2, c', j3, j4⟩ := i4 h
        refine ⟨by simp at *; omega, by omega, c', ?_, j4⟩
        rw [List.getElem?_drop] at j3
        rw [← j3]
        congr 1
        omega
      · have hc : c ≠ 10 := fun e => hg (by subst e; left; decide)
        by_cases h0 : width (c :: r) = 0
        · rw [lexFrom_bad p k hg h0]; simp [hk, hc]
        · by_cases hk2 : k = 2000
          · subst hk2
            rw [lexFrom_limit p hg h0]; simp [hc]
          · by_cases he : (tokOf (cls c) ((c :: r).take (width (c :: r)))).1 = 0
            · rw [lexFrom_tok p k hg h0 hk2 he]
              obtain ⟨i1, i2, i3, i4, i5⟩ := ih ((c :: r).drop (width (c :: r))) (p + width (c :: r)) (k + 1) (by simp at hn ⊢; omega) (by omega)
              simp only [List.length_drop] at i1 i2 i4
              refine ⟨fun t ht => ?_, by simp at *; omega, by simp at *; omega, fun h => ?_, i5⟩
              · rcases List.mem_cons.1 ht with rfl | ht
                · simp; omega
                · have h1 := i1 t ht; simp only [List.length_cons] at *; omega
              · obtain ⟨j1, j2, c', j3, j4⟩ := i4 h
                dsimp only
                refine ⟨by simp only [List.length_cons] at *; omega, by omega, c', ?_, j4⟩
                rw [List.getElem?_drop] at j3
                rw [← j3]
                congr 1
                omega
            · rw [lexFrom_err p k hg h0 hk2 he]; simp [hk, hc, he]
theorem lex_ok {s : List UInt8} {l : List Tok} {q : Nat} (h : lex s = (l, 0, q)) : s.length ≤ 8000 ∧ lexFrom s 0 0 = (l, 0, 0) := by
  unfold lex at h
  split at h
  · cases h
  · rename_i h8
    split at h
    · rename_i he
      refine ⟨by omega, ?_⟩
      have h5 := (lex_place s.length s 0 0 (Nat.le_refl _) (by omega)).2.2.2.2 he
      simp only [Prod.mk.injEq] at h
      rw [← h.1]
      exact Prod.ext rfl (Prod.ext he h5)
    · rename_i he
      simp only [Prod.mk.injEq] at h
      exact absurd (by rw [h.2]) he
theorem lex_of {s : List UInt8} {l : List Tok} (h8 : s.length ≤ 8000) (h : lexFrom s 0 0 = (l, 0, 0)) : lex s = (l, 0, 0) := by
  unfold lex; rw [if_neg (by omega), h]; rfl
end Go.Proofs.YtnbolgdccdnjeaaGreatDoor.Np
/- The lexer, plain: gaps put between tokens. -/
namespace Go.Proofs.YtnbolgdccdnjeaaGreatDoor.Np
/-- A gap: whatever follows is split as without it; it begins no word further; a comment swallows it, or its beginning. -/
structure IsGap (g : List UInt8) : Prop where
  skip : ∀ x p k, lexFrom (g ++ x) p k = lexFrom x (p + g.length) k
  stop : ∃ c r, g = c :: r ∧ isRun c = false
  rest : ∀ p k, lexFrom (g.drop (g.takeWhile notEnd).length) p k = ([], 0, 0)
theorem lex_blank (c : UInt8) (hc : cls c = 1) (x : List UInt8) (p k : Nat) : lexFrom (c :: x) p k = lexFrom x (p + 1) k := by
  have hw : width (c :: x) = 1 := by rw [width]; simp [hc]
  rw [lexFrom_gap p k (.inl hc), hw]; rfl
end Go.Proofs.YtnbolgdccdnjeaaGreatDoor.Np
/- The lexer, plain: the texts of tokens. -/
namespace Go.Proofs.YtnbolgdccdnjeaaGreatDoor.Np
def decimal (n : Nat) : List UInt8 := if n < 10 then [UInt8.ofNat (48 + n)] else decimal (n / 10) ++ [UInt8.ofNat (48 + n % 10)]
theorem dec_snoc (t : List UInt8) (c : UInt8) : dec (t ++ [c]) = 10 * dec t + (c.toNat - 48) := by simp [dec]
theorem head_app {t u : List UInt8} (h : t ≠ []) : (t ++ u).head? = t.head? := by
  cases t with
  | nil => exact absurd rfl h
  | cons a t => rfl
/-- What follows a token's text: nothing, or a blank. -/
def Blank (y : List UInt8) : Prop := y = [] ∨ y.head? = some 32
/-- A token, but for its place. -/
def core (t : Tok) : Tok := { t with pos := 0 }
/-- A text that is split as a token wherever a blank or the end follows. -/
def Good (x : List UInt8) (t : Tok) : Prop := ∃ c r, x = c :: r ∧ ¬ (cls c = 1 ∨ cls c = 2) ∧ (∀ y, Blank y → width (x ++ y) = x.length) ∧ (tokOf (cls c) x).1 = 0 ∧ core (tokOf (cls c) x).2 = core t
end Go.Proofs.YtnbolgdccdnjeaaGreatDoor.Np
/- The printer, plain: no program in sight. -/
namespace Go.Proofs.YtnbolgdccdnjeaaGreatDoor.Np
structure Zone where
  apex : List UInt8
  sets : List Signed
deriving DecidableEq
/-- Names in their order: their labels, the last ones first. -/
def cmpL : List (List UInt8) → List (List UInt8) → Int
  | [], _ => -1
  | _ :: _, [] => 1
  | x :: xs, y :: ys => if cmpS x y ≠ 0 then cmpS x y else cmpL xs ys
def cmpName (a b : List UInt8) : Int := if a = b then 0 else cmpL (back a) (back b)
def cmpSet (a b : DSet) : Int := if a.name ≠ b.name then cmpName a.name b.name else cmpI a.type b.type
def underL (s z : List UInt8) : Bool := s == z || z == [46] || (decide (z.length < s.length) && (s.drop (s.length - z.length) == z) && (s[s.length - z.length - 1]? == some 46))
def typeWords : List (List UInt8) := [[], [97, 100, 100, 114], [115, 101, 114, 118, 101, 114], [97, 108, 105, 97, 115], [115, 116, 97, 114, 116], [116, 101, 120, 116], [97, 110, 99, 104, 111, 114], [107, 101, 121], []]
def wordOf (t : Int) : List UInt8 := typeWords.getD t.toNat []
def datumText (t : Int) (d : Datum) : List UInt8 := if t = 1 then decimal d.n.toNat else if t = 2 ∨ t = 3 then d.text else if t = 5 then 34 :: d.text ++ [34] else decimal d.n.toNat ++ 32 :: decimal d.m.toNat
theorem good_labels : ∀ (xs : List (List UInt8)) (n : Nat) (w : Bool), goodFrom xs n w = true → ∀ x ∈ xs, x = [42] ∨ isLabel x = true := by
  intro xs
  induction xs with
  | nil => intro _ _ _ x h; cases h
  | cons y xs ih =>
    intro n w h x hx
    rw [goodFrom] at h
    split at h
    · cases h
    · split at h
      · rename_i hy
        rcases List.mem_cons.1 hx with rfl | hx
        · exact .inl hy
        · exact ih _ _ h x hx
      · split at h
        · rename_i hy
          rcases List.mem_cons.1 hx with rfl | hx
          · exact .inr hy
          · exact ih _ _ h x hx
        · cases h
theorem goodData_all {r : Rule} : ∀ {ds : List Datum} {p : Option Datum}, goodData r p ds = true → ∀ d ∈ ds, validDatum r d = true
  | [], _, _, d, h => by cases h
  | e :: ds, p, h, d, hd => by
    simp only [goodData, Bool.and_eq_true] at h
    rcases List.mem_cons.1 hd with rfl | hd
    · exact h.1.1
    · exact goodData_all h.2 d hd
theorem valid_parts {s : DSet} (h : validSet s = true) : validName s.name = true ∧ 1 ≤ s.type ∧ s.type ≤ 8 ∧ 0 ≤ s.life ∧ s.life ≤ 100000 ∧ 1 ≤ s.data.length ∧ s.data.length ≤ 8 ∧ goodData (ruleOf s.type) none s.data = true := by
  unfold validSet at h
  simp only [Bool.and_eq_true, decide_eq_true_eq] at h
  obtain ⟨⟨⟨⟨⟨⟨h1, h2, h3⟩, h4, h5⟩, h6, h7⟩, _⟩, _⟩, h8⟩ := h
  exact ⟨h1, h2, h3, h4, h5, h6, h7, h8⟩
end Go.Proofs.YtnbolgdccdnjeaaGreatDoor.Np
/- The references of layers 1 and 2, plain: names in parts. -/
namespace Go.Proofs.YtnbolgdccdnjeaaGreatDoor.Np
def okR : List (List UInt8) → Bool
  | [] => true
  | [x] => isLabel x || x == [42]
  | x :: y :: r => isLabel x && okR (y :: r)
theorem star_label : isLabel [42] = false := by decide
theorem goodFrom_wild (xs : List (List UInt8)) (n : Nat) : goodFrom xs n true = xs.isEmpty := by cases xs <;> simp [goodFrom]
theorem goodFrom_ok : ∀ (xs : List (List UInt8)) (n : Nat), n ≤ 8 → goodFrom xs n false = (decide (n + xs.length ≤ 8) && okR xs) := by
  intro xs
  induction xs with
  | nil => intro n hn; simp [goodFrom, okR, hn]
  | cons x xs ih =>
    intro n hn
    rw [goodFrom]
    by_cases h8 : 8 < n + 1
    · rw [if_pos (by simp; omega), decide_eq_false (by simp; omega)]; rfl
    · rw [if_neg (by simp; omega)]
      by_cases hx : x = [42]
      · subst hx
        rw [if_pos rfl, goodFrom_wild]
        cases xs with
        | nil => simp [okR]; omega
        | cons y r => simp [okR, star_label]
      · rw [if_neg hx]
        by_cases hl : isLabel x = true
        · rw [if_pos hl, ih (n + 1) (by omega)]
          cases xs with
          | nil => simp [okR, hl]
          | cons y r => simp only [okR, hl, Bool.true_and, List.length_cons]; congr 1; congr 1; apply propext; omega
        · rw [if_neg hl]
          cases xs with
          | nil => simp [okR, hl, hx]
          | cons y r => simp [okR, hl]
def labelsOk : List (List UInt8) → Bool
  | [] => true
  | h :: t => (isLabel h || h == [42]) && t.all isLabel
theorem okR_snoc : ∀ (a : List (List UInt8)) (h : List UInt8), okR (a ++ [h]) = (a.all isLabel && (isLabel h || h == [42])) := by
  intro a h
  induction a with
  | nil => simp [okR]
  | cons x a ih =>
    cases a with
    | nil => simp [okR]
    | cons y r =>
      simp only [List.cons_append, okR] at ih ⊢
      rw [ih]; simp [Bool.and_assoc]
theorem okR_rev (l : List (List UInt8)) : okR l.reverse = labelsOk l := by
  cases l with
  | nil => rfl
  | cons h t => rw [List.reverse_cons, okR_snoc, labelsOk, List.all_reverse, Bool.and_comm]
theorem validName_ref (s : List UInt8) : validName s = if s = [46] then true else if 60 < s.length then false else labelsOk (splitDots s) && decide ((splitDots s).length ≤ 8) := by
  unfold validName
  split
  · rfl
  · split
    · rfl
    · rw [goodFrom_ok _ 0 (by omega), okR_rev, List.length_reverse, Bool.and_comm]; simp
def joinDots : List (List UInt8) → List UInt8
  | [] => []
  | [x] => x
  | x :: y :: r => x ++ 46 :: joinDots (y :: r)
theorem joinDots_cons (c : UInt8) (x : List UInt8) (xs : List (List UInt8)) : joinDots ((c :: x) :: xs) = c :: joinDots (x :: xs) := by
  cases xs <;> simp [joinDots]
theorem joinDots_split (s : List UInt8) : joinDots (splitDots s) = s := by
  induction s with
  | nil => rfl
  | cons c r ih =>
    rw [splitDots]
    have hne := splitDots_ne r
    cases hr : splitDots r with
    | nil => exact absurd hr hne
    | cons x xs =>
      rw [hr] at ih
      split
      · rename_i hc; subst hc; rw [joinDots, ih]; rfl
      · rw [joinDots_cons, ih]
def parts (s : List UInt8) : List (List UInt8) := if s = [46] then [] else splitDots s
theorem back_inj {a b : List UInt8} (h : back a = back b) : a = b := by
  unfold back at h
  by_cases ha : a = [46]
  · by_cases hb : b = [46]
    · rw [ha, hb]
    · rw [if_pos ha, if_neg hb] at h
      have := splitDots_ne b
      exact absurd (List.reverse_eq_nil_iff.1 h.symm) this
  · by_cases hb : b = [46]
    · rw [if_pos hb, if_neg ha] at h
      exact absurd (List.reverse_eq_nil_iff.1 h) (splitDots_ne a)
    · rw [if_neg ha, if_neg hb] at h
      have := List.reverse_inj.1 h
      rw [← joinDots_split a, this, joinDots_split]
/-- Names in their order, as the reference has it. -/
def ordR : List (List UInt8) → List (List UInt8) → Int
  | [], [] => 0
  | [], _ :: _ => -1
  | _ :: _, [] => 1
  | x :: xs, y :: ys => if cmpS x y ≠ 0 then cmpS x y else ordR xs ys
theorem cmpS_self (x : List UInt8) : cmpS x x = 0 := by
  have : ∀ x : List UInt8, Go.Op.bytesLess x x = false := by
    intro x
    induction x with
    | nil => rfl
    | cons a x ih => simp [Go.Op.bytesLess, ih]
  simp [cmpS, this]
theorem cmpS_zero {x y : List UInt8} (h : cmpS x y = 0) : x = y := by
  unfold cmpS at h
  split at h
  · omega
  · split at h
    · assumption
    · omega
theorem ordR_self (l : List (List UInt8)) : ordR l l = 0 := by
  induction l with
  | nil => rfl
  | cons x l ih => rw [ordR, cmpS_self, if_neg (by simp), ih]
theorem ordR_ne : ∀ (l m : List (List UInt8)), l ≠ m → ordR l m = cmpL l m := by
  intro l
  induction l with
  | nil =>
    intro m h
    cases m with
    | nil => exact absurd rfl h
    | cons y m => rfl
  | cons x l ih =>
    intro m h
    cases m with
    | nil => rfl
    | cons y m =>
      rw [ordR, cmpL]
      by_cases hc : cmpS x y ≠ 0
      · rw [if_pos hc, if_pos hc]
      · rw [if_neg hc, if_neg hc]
        have := cmpS_zero (Decidable.not_not.1 hc)
        subst this
        exact ih m (fun e => h (by rw [e]))
theorem cmpName_ref (a b : List UInt8) : cmpName a b = ordR (back a) (back b) := by
  unfold cmpName
  split
  · rename_i h; rw [h, ordR_self]
  · rename_i h; exact (ordR_ne _ _ (fun e => h (back_inj e))).symm
theorem cmpName_self (a : List UInt8) : cmpName a a = 0 := by simp [cmpName]
theorem cmpName_zero {a b : List UInt8} (h : cmpName a b = 0) : a = b := by
  rw [cmpName_ref] at h
  refine back_inj ?_
  have : ∀ l m : List (List UInt8), ordR l m = 0 → l = m := by
    intro l
    induction l with
    | nil => intro m h; cases m with
      | nil => rfl
      | cons y m => simp [ordR] at h
    | cons x l ih =>
      intro m h
      cases m with
      | nil => simp [ordR] at h
      | cons y m =>
        rw [ordR] at h
        split at h
        · rename_i hc; exact absurd h hc
        · rename_i hc
          rw [cmpS_zero (Decidable.not_not.1 hc), ih m h]
  exact this _ _ h
/-- The order of sets, as the reference has it. -/
theorem cmpSet_ref (a b : DSet) : cmpSet a b = if cmpName a.name b.name ≠ 0 then cmpName a.name b.name else cmpI a.type b.type := by
  unfold cmpSet
  by_cases h : a.name = b.name
  · rw [if_neg (by simp [h]), h, cmpName_self, if_neg (by simp)]
  · rw [if_pos h, if_pos (fun e => h (cmpName_zero e))]
theorem bytesLess_tri : ∀ (x y : List UInt8), Go.Op.bytesLess x y = false → x ≠ y → Go.Op.bytesLess y x = true := by
  intro x
  induction x with
  | nil => intro y h hn; cases y with
    | nil => exact absurd rfl hn
    | cons b y => simp [Go.Op.bytesLess] at h
  | cons a x ih =>
    intro y h hn
    cases y with
    | nil => simp [Go.Op.bytesLess]
    | cons b y =>
      simp only [Go.Op.bytesLess] at h ⊢
      by_cases h1 : a < b
      · simp [h1] at h
      · by_cases h2 : b < a
        · simp [h2]
        · have h3 : a = b := by
            apply UInt8.toNat_inj.1
            simp only [UInt8.lt_iff_toNat_lt] at h1 h2
            omega
          subst h3
          simp [h1] at h ⊢
          exact ih y h (fun e => hn (by rw [e]))
theorem cmpS_eqs (x y : List UInt8) : (Go.Op.bytesLess x y = true ∧ cmpS x y = -1) ∨ (Go.Op.bytesLess x y = false ∧ Go.Op.bytesLess y x = true ∧ x ≠ y ∧ cmpS x y = 1) ∨ (Go.Op.bytesLess x y = false ∧ Go.Op.bytesLess y x = false ∧ x = y ∧ cmpS x y = 0) := by
  cases h : Go.Op.bytesLess x y with
  | true => exact .inl ⟨rfl, by simp [cmpS, h]⟩
  | false =>
    by_cases hn : x = y
    · subst hn; exact .inr (.inr ⟨rfl, h, rfl, cmpS_self x⟩)
    · exact .inr (.inl ⟨rfl, bytesLess_tri x y h hn, hn, by simp [cmpS, h, hn]⟩)
/-- A datum before another one, as the reference has it. -/
def lessD (a b : Datum) : Bool := if a.text ≠ b.text then Go.Op.bytesLess a.text b.text else if a.n ≠ b.n then decide (a.n < b.n) else decide (a.m < b.m)
theorem lessD_cmp (a b : Datum) : lessD a b = decide (cmpD a b < 0) := by
  unfold lessD cmpD
  rcases cmpS_eqs a.text b.text with ⟨h1, h2⟩ | ⟨h1, _, h3, h2⟩ | ⟨_, _, h3, h2⟩
  · have hn : a.text ≠ b.text := fun e => by rw [e, cmpS_self] at h2; omega
    rw [if_pos hn, if_pos (by omega), h1, h2]; rfl
  · rw [if_pos h3, if_pos (by omega), h1, h2]; rfl
  · rw [if_neg (show ¬ a.text ≠ b.text from fun e => e h3), if_neg (show ¬ cmpS a.text b.text ≠ 0 from fun e => e h2)]
    by_cases h4 : a.n = b.n
    · rw [if_neg (show ¬ a.n ≠ b.n from fun e => e h4)]
      have h5 : cmpI a.n b.n = 0 := by unfold cmpI; rw [if_neg (by omega), if_neg (by omega)]
      rw [if_neg (show ¬ cmpI a.n b.n ≠ 0 from fun e => e h5)]
      unfold cmpI
      by_cases h6 : a.m < b.m
      · rw [if_pos h6]; simp [h6]
      · by_cases h7 : b.m < a.m
        · rw [if_neg h6, if_pos h7]; simp; omega
        · rw [if_neg h6, if_neg h7]; simp; omega
    · rw [if_pos (show a.n ≠ b.n from h4)]
      by_cases h6 : a.n < b.n
      · have h5 : cmpI a.n b.n = -1 := by unfold cmpI; rw [if_pos h6]
        rw [h5]; simp [h6]
      · have h5 : cmpI a.n b.n = 1 := by unfold cmpI; rw [if_neg h6, if_pos (by omega)]
        rw [h5]; simp; omega
end Go.Proofs.YtnbolgdccdnjeaaGreatDoor.Np
/- The printer, plain: how its text is split into tokens. -/
namespace Go.Proofs.YtnbolgdccdnjeaaGreatDoor.Np
/-- Nothing, or a byte that is no part of a run. -/
def Stop (y : List UInt8) : Prop := y = [] ∨ ∃ c r, y = c :: r ∧ isRun c = false
/-- x is split into ts, whatever follows (free), or if what follows stops. -/
def Lx (x : List UInt8) (ts : List Tok) (free : Bool) : Prop :=
  ∀ (y : List UInt8) (p k : Nat), (free = true ∨ Stop y) → k ≤ 2000 →
    (k + ts.length ≤ 2000 → ∃ ts', ts'.map core = ts.map core ∧ lexFrom (x ++ y) p k = (ts' ++ (lexFrom y (p + x.length) (k + ts.length)).1, (lexFrom y (p + x.length) (k + ts.length)).2)) ∧
    (2000 < k + ts.length → (lexFrom (x ++ y) p k).2.1 = 2)
theorem Lx.weaken {x : List UInt8} {ts : List Tok} {f : Bool} (h : Lx x ts f) : Lx x ts false := fun y p k hy hk =>
  h y p k (.inr (by rcases hy with hy | hy; cases hy; exact hy)) hk
theorem lx_nil : Lx [] [] true := fun y p k _ hk => ⟨fun _ => ⟨[], rfl, by simp⟩, fun h => by simp at h; omega⟩
theorem Lx.app {x x' : List UInt8} {ts ts' : List Tok} {f f' : Bool} (h : Lx x ts f) (h' : Lx x' ts' f') (hf : f = true ∨ ∃ c r, x' = c :: r ∧ isRun c = false) : Lx (x ++ x') (ts ++ ts') f' := by
  intro y p k hy hk
  have hs : f = true ∨ Stop (x' ++ y) := hf.imp id (fun ⟨c, r, e, hc⟩ => .inr ⟨c, r ++ y, by rw [e]; rfl, hc⟩)
  obtain ⟨h1, h2⟩ := h (x' ++ y) p k hs hk
  rw [List.append_assoc]
  constructor
  · intro hl
    rw [List.length_append] at hl
    obtain ⟨t1, e1, e2⟩ := h1 (by omega)
    obtain ⟨t2, e3, e4⟩ := (h' y (p + x.length) (k + ts.length) hy (by omega)).1 (by omega)
    refine ⟨t1 ++ t2, by rw [List.map_append, List.map_append, e1, e3], ?_⟩
    rw [e2, e4]
    simp only [List.length_append, List.append_assoc, Nat.add_assoc]
  · intro hl
    rw [List.length_append] at hl
    by_cases hk2 : k + ts.length ≤ 2000
    · obtain ⟨t1, e1, e2⟩ := h1 hk2
      rw [e2]
      exact (h' y (p + x.length) (k + ts.length) hy hk2).2 (by omega)
    · exact h2 (by omega)
theorem lx_blank {c : UInt8} (hc : cls c = 1) : Lx [c] [] true := fun y p k _ hk => ⟨fun _ => ⟨[], rfl, by rw [List.singleton_append, lex_blank c hc]; simp⟩, fun h => by simp at h; omega⟩
theorem lx_tok {c : UInt8} {r : List UInt8} {f : Bool} {t : Tok} (hg : ¬ (cls c = 1 ∨ cls c = 2)) (hw : ∀ y, (f = true ∨ Stop y) → width (c :: r ++ y) = (c :: r).length) (ht : tokOf (cls c) (c :: r) = (0, t)) : Lx (c :: r) [t] f := by
  intro y p k hy hk
  have hw := hw y hy
  have e : (c :: r) ++ y = c :: (r ++ y) := rfl
  rw [e] at hw ⊢
  constructor
  · intro hl
    simp only [List.length_singleton] at hl
    have htk : (c :: (r ++ y)).take (width (c :: (r ++ y))) = c :: r := by rw [hw, ← e, List.take_left]
    have hdr : (c :: (r ++ y)).drop (width (c :: (r ++ y))) = y := by rw [hw, ← e, List.drop_left]
    rw [lexFrom_tok p k hg (by rw [hw]; simp) (by omega) (by rw [htk, ht]), htk, hdr, hw, ht]
    exact ⟨[_], by simp [core], rfl⟩
  · intro hl
    simp only [List.length_singleton] at hl
    have : k = 2000 := by omega
    subst this
    rw [lexFrom_limit p hg (by rw [hw]; simp)]
theorem lx_punct {c : UInt8} (hc : cls c = 7) : Lx [c] [⟨3, [c], 0, 0⟩] true :=
  lx_tok (by omega) (fun y _ => by rw [List.singleton_append, width]; simp [hc]) (by simp [tokOf, hc])
theorem run_stop {x y : List UInt8} (hx : x.all isRun = true) (hy : Stop y) : (x ++ y).takeWhile isRun = x := by
  rw [List.takeWhile_append_of_pos (List.all_eq_true.1 hx)]
  rcases hy with rfl | ⟨c, r, rfl, hc⟩
  · simp
  · simp [hc]
theorem lx_run {c : UInt8} {r : List UInt8} {t : Tok} (hc : cls c = 3) (hr : (c :: r).all isRun = true) (ht : tokOf 3 (c :: r) = (0, t)) : Lx (c :: r) [t] false :=
  lx_tok (by omega) (fun y hy => by
    rcases hy with hy | hy
    · cases hy
    · have e := run_stop hr hy
      rw [List.cons_append] at e ⊢
      rw [width]
      simp only [hc]
      rw [e]) (by rw [hc]; exact ht)
def wordTok (x : List UInt8) : Tok := ⟨1, x, 0, 0⟩
def numTok (n : Nat) : Tok := ⟨2, [], n, 0⟩
def signTok (c : UInt8) : Tok := ⟨3, [c], 0, 0⟩
/-! Names. -/
theorem mem_split : ∀ (s : List UInt8) (c : UInt8), c ∈ s → c = 46 ∨ ∃ x ∈ splitDots s, c ∈ x := by
  intro s
  induction s with
  | nil => intro c h; cases h
  | cons a r ih =>
    intro c hc
    rw [splitDots]
    by_cases ha : a = 46
    · rw [if_pos ha]
      rcases List.mem_cons.1 hc with e | e
      · exact .inl (e.trans ha)
      · rcases ih c e with h | ⟨x, hx, hcx⟩
        · exact .inl h
        · exact .inr ⟨x, List.mem_cons_of_mem _ hx, hcx⟩
    · rw [if_neg ha]
      have hne := splitDots_ne r
      cases hr : splitDots r with
      | nil => exact absurd hr hne
      | cons y ys =>
        rw [hr] at ih
        rcases List.mem_cons.1 hc with e | e
        · exact .inr ⟨a :: y, by simp, by simp [e]⟩
        · rcases ih c e with h | ⟨x, hx, hcx⟩
          · exact .inl h
          · rcases List.mem_cons.1 hx with rfl | hx
            · exact .inr ⟨a :: x, by simp, by simp [hcx]⟩
            · exact .inr ⟨x, by simp [hx], hcx⟩
theorem labelByte_run {c : UInt8} (h : labelByte c = true) : isRun c = true := by
  unfold labelByte at h
  have hl : ∀ c : UInt8, isLow c = true ∨ isDig c = true → cls c = 3 := by
    intro c h
    have hne : ¬ (c = 32 ∨ c = 9 ∨ c = 10) ∧ c ≠ 35 := by
      constructor
      · rintro (rfl | rfl | rfl) <;> revert h <;> decide
      · rintro rfl; revert h; decide
    unfold cls
    rw [if_neg hne.1, if_neg hne.2, if_pos (by rcases h with h | h <;> simp [h])]
  simp only [Bool.or_eq_true, beq_iff_eq] at h
  unfold isRun
  rcases h with h | h
  · rw [hl c h]; rfl
  · subst h; decide
theorem low_cls {c : UInt8} (h : isLow c = true ∨ isDig c = true) : cls c = 3 := by
  have hne : ¬ (c = 32 ∨ c = 9 ∨ c = 10) ∧ c ≠ 35 := by
    constructor
    · rintro (rfl | rfl | rfl) <;> revert h <;> decide
    · rintro rfl; revert h; decide
  unfold cls
  rw [if_neg hne.1, if_neg hne.2, if_pos (by rcases h with h | h <;> simp [h])]
theorem label_bytes {x : List UInt8} (h : isLabel x = true ∨ x = [42]) : ∀ c ∈ x, isRun c = true := by
  rcases h with h | rfl
  · unfold isLabel at h
    simp only [Bool.and_eq_true] at h
    exact fun c hc => labelByte_run (List.all_eq_true.1 h.2 c hc)
  · intro c hc; simp at hc; subst hc; decide
theorem label_head {x : List UInt8} (h : isLabel x = true ∨ x = [42]) : ∃ c r, x = c :: r ∧ cls c = 3 := by
  rcases h with h | rfl
  · unfold isLabel at h
    simp only [Bool.and_eq_true, decide_eq_true_eq, Bool.not_eq_true', beq_eq_false_iff_ne] at h
    cases x with
    | nil => simp at h
    | cons c r =>
      refine ⟨c, r, rfl, low_cls ?_⟩
      have h1 := List.all_eq_true.1 h.2 c (by simp)
      have h2 := h.1.1.2
      simp only [List.head?_cons, ne_eq, Option.some.injEq] at h2
      simp only [labelByte, Bool.or_eq_true, beq_iff_eq] at h1
      rcases h1 with h1 | h1
      · exact h1
      · exact absurd h1 h2
  · exact ⟨42, [], rfl, by decide⟩
theorem split_head : ∀ (s : List UInt8), ∃ h t, splitDots s = h :: t ∧ (∀ c r, h = c :: r → ∃ r', s = c :: r') := by
  intro s
  cases s with
  | nil => exact ⟨[], [], rfl, fun c r h => by cases h⟩
  | cons a r =>
    rw [splitDots]
    by_cases ha : a = 46
    · rw [if_pos ha]; exact ⟨[], _, rfl, fun c r h => by cases h⟩
    · rw [if_neg ha]
      have hne := splitDots_ne r
      cases hr : splitDots r with
      | nil => exact absurd hr hne
      | cons x xs => exact ⟨a :: x, xs, rfl, fun c r' h => by cases h; exact ⟨_, rfl⟩⟩
theorem name_form {s : List UInt8} (h : validName s = true) : s.length ≤ 60 ∧ (s = [46] ∨ ∃ c r, s = c :: r ∧ cls c = 3 ∧ s.all isRun = true) := by
  unfold validName at h
  split at h
  · rename_i e; subst e; exact ⟨by decide, .inl rfl⟩
  · split at h
    · cases h
    · rename_i h60
      have hg := good_labels _ _ _ h
      have hl : ∀ x ∈ splitDots s, isLabel x = true ∨ x = [42] := fun x hx => (hg x (List.mem_reverse.2 hx)).symm
      obtain ⟨a, t, e1, e2⟩ := split_head s
      obtain ⟨c, r, rfl, hc⟩ := label_head (hl a (by rw [e1]; simp))
      obtain ⟨r', rfl⟩ := e2 c r rfl
      refine ⟨by omega, .inr ⟨c, r', rfl, hc, List.all_eq_true.2 fun b hb => ?_⟩⟩
      rcases mem_split _ b hb with rfl | ⟨x, hx, hbx⟩
      · decide
      · exact label_bytes (hl x hx) b hbx
theorem lx_name {s : List UInt8} (h : validName s = true) (hd : s.all isDig = false) : Lx s [wordTok s] false := by
  obtain ⟨hl, h⟩ := name_form h
  rcases h with rfl | ⟨c, r, rfl, hc, hr⟩
  · refine lx_tok (c := 46) (r := []) (by decide) (fun y hy => ?_) (by decide)
    rcases hy with hy | hy
    · cases hy
    · have e := run_stop (x := [46]) (by decide) hy
      rw [List.singleton_append] at e ⊢
      rw [width, show cls 46 = 5 by decide]
      simp only
      rw [e]; rfl
  · exact lx_run hc hr (by rw [tokOf, if_neg (by decide), if_neg (by decide), if_pos hd, if_neg (by omega)]; rfl)
/-! Numbers. -/
theorem dig_of {k : Nat} (h : k < 10) : isDig (UInt8.ofNat (48 + k)) = true ∧ (UInt8.ofNat (48 + k)).toNat = 48 + k := by
  have : k = 0 ∨ k = 1 ∨ k = 2 ∨ k = 3 ∨ k = 4 ∨ k = 5 ∨ k = 6 ∨ k = 7 ∨ k = 8 ∨ k = 9 := by omega
  rcases this with rfl | rfl | rfl | rfl | rfl | rfl | rfl | rfl | rfl | rfl <;> exact ⟨by decide, by decide⟩
theorem decimal_digs (n : Nat) : (decimal n).all isDig = true ∧ decimal n ≠ [] ∧ dec (decimal n) = n ∧ (1 ≤ n → (decimal n).head? ≠ some 48) ∧ (n < 10 → (decimal n).length = 1) := by
  induction n using Nat.strongRecOn with
  | ind n ih =>
    rw [decimal]
    split
    · rename_i h
      have hd := dig_of h
      refine ⟨by rw [List.all_cons, hd.1]; rfl, by simp, by show 10 * 0 + ((UInt8.ofNat (48 + n)).toNat - 48) = n; rw [hd.2]; omega, fun h1 => ?_, fun _ => rfl⟩
      simp only [List.head?_cons, ne_eq, Option.some.injEq]
      intro e
      have := congrArg UInt8.toNat e
      rw [hd.2] at this
      simp at this; omega
    · rename_i h
      obtain ⟨i1, i2, i3, i4, _⟩ := ih (n / 10) (by omega)
      have hd := dig_of (k := n % 10) (by omega)
      refine ⟨by rw [List.all_append, i1, List.all_cons, hd.1]; rfl, by simp, ?_, fun _ => ?_, fun h2 => absurd h2 h⟩
      · rw [dec_snoc, i3, hd.2]; omega
      · rw [head_app i2]; exact i4 (by omega)
theorem decimal_zero (n : Nat) : ¬ (1 < (decimal n).length ∧ (decimal n).head? = some 48) := by
  rintro ⟨h1, h2⟩
  obtain ⟨_, _, _, h4, h5⟩ := decimal_digs n
  by_cases h : n < 10
  · have := h5 h; omega
  · exact h4 (by omega) h2
theorem dig_run {c : UInt8} (h : isDig c = true) : isRun c = true := by unfold isRun; rw [low_cls (.inr h)]; rfl
theorem lx_num {n : Nat} (h : n ≤ 1000000000) : Lx (decimal n) [numTok n] false := by
  obtain ⟨h1, h2, h3, _, _⟩ := decimal_digs n
  have h4 := decimal_zero n
  generalize decimal n = x at *
  cases x with
  | nil => exact absurd rfl h2
  | cons c r =>
    have hc := List.all_eq_true.1 h1 c (by simp)
    refine lx_run (low_cls (.inr hc)) (List.all_eq_true.2 fun b hb => dig_run (List.all_eq_true.1 h1 b hb)) ?_
    rw [tokOf, if_neg (by decide), if_neg (by decide), if_neg (by rw [h1]; simp), if_neg h4, h3, if_neg (by omega)]
    rfl
/-! Texts. -/
theorem lx_text {s : List UInt8} (h : isFree s = true) : Lx (34 :: s ++ [34]) [wordTok (34 :: s ++ [34])] true := by
  unfold isFree at h
  simp only [Bool.and_eq_true, decide_eq_true_eq] at h
  obtain ⟨⟨⟨⟨h1, h2⟩, _⟩, _⟩, h5⟩ := h
  have hin : ∀ c ∈ s, inText c = true := by
    intro c hc
    have := List.all_eq_true.1 h5 c hc
    unfold inText
    simp only [Bool.and_eq_true, bne_iff_ne]
    constructor
    · rintro rfl; revert this; decide
    · rintro rfl; revert this; decide
  refine lx_tok (c := 34) (r := s ++ [34]) (by decide) (fun y _ => ?_) ?_
  · rw [List.cons_append, width, show cls 34 = 6 by decide]
    simp only
    have e : ((s ++ [34]) ++ y).takeWhile inText = s := by
      rw [List.append_assoc, List.takeWhile_append_of_pos hin, List.singleton_append]
      rw [List.takeWhile_cons, if_neg (by decide), List.append_nil]
    unfold quoteW
    rw [e, if_pos ⟨h1, by rw [List.append_assoc, List.getElem?_append_right (Nat.le_refl _)]; simp⟩]
    simp
  · rw [show cls 34 = 6 by decide, tokOf, if_neg (by decide), if_pos rfl, if_neg (by simp; omega)]; rfl
/-! Lines. -/
def LxAll : List (List UInt8) → List (List Tok) → Prop
  | [], [] => True
  | w :: ws, t :: ts => Lx w t false ∧ LxAll ws ts
  | _, _ => False
theorem LxAll.app : ∀ {a b : List (List UInt8)} {s t : List (List Tok)}, LxAll a s → LxAll b t → LxAll (a ++ b) (s ++ t)
  | [], _, [], _, _, h => h
  | _ :: _, _, _ :: _, _, h, h' => ⟨h.1, LxAll.app h.2 h'⟩
  | [], _, _ :: _, _, h, _ => h.elim
  | _ :: _, _, [], _, h, _ => h.elim
/-! Entries. -/
def datumToks (t : Int) (d : Datum) : List Tok := if t = 1 then [numTok d.n.toNat] else if t = 2 ∨ t = 3 then [wordTok d.text] else if t = 5 then [wordTok (34 :: d.text ++ [34])] else [numTok d.n.toNat, numTok d.m.toNat]
def dataToks (t : Int) : List Datum → List (List Tok)
  | [] => []
  | [d] => [datumToks t d ++ [signTok 59]]
  | d :: e :: r => (datumToks t d ++ [signTok 44]) :: dataToks t (e :: r)
theorem lx_datum {t : Int} {d : Datum} (h1 : 1 ≤ t) (h7 : t ≤ 7) (h : validDatum (ruleOf t) d = true) (hp : t = 2 ∨ t = 3 → d.text.all isDig = false) : Lx (datumText t d) (datumToks t d) false := by
  have ht : t = 1 ∨ t = 2 ∨ t = 3 ∨ t = 4 ∨ t = 5 ∨ t = 6 ∨ t = 7 := by omega
  unfold validDatum at h
  simp only [Bool.and_eq_true, decide_eq_true_eq] at h
  obtain ⟨⟨⟨⟨a1, a2⟩, a3, a4⟩, _⟩, hv⟩ := h
  have hbd : d.n ≤ 1000000 ∧ d.m ≤ 1000000 := by
    rcases ht with rfl | rfl | rfl | rfl | rfl | rfl | rfl <;> simp [ruleOf, rules] at a2 a4 <;> omega
  have hnm : Lx (decimal d.n.toNat ++ 32 :: decimal d.m.toNat) [numTok d.n.toNat, numTok d.m.toNat] false := by
    have hb : Lx [32] [] true := lx_blank (by decide)
    have := (lx_num (n := d.n.toNat) (by omega)).app (hb.app (lx_num (n := d.m.toNat) (by omega)) (.inl rfl)) (.inr ⟨32, _, rfl, by decide⟩)
    simpa using this
  rcases ht with rfl | rfl | rfl | rfl | rfl | rfl | rfl
  · simpa [datumText, datumToks] using lx_num (n := d.n.toNat) (by omega)
  · have : validName d.text = true := by have h2 : validText 1 d.text = true := hv; simp [validText] at h2; exact h2.1
    simpa [datumText, datumToks] using lx_name this (hp (by simp))
  · have : validName d.text = true := by have h2 : validText 1 d.text = true := hv; simp [validText] at h2; exact h2.1
    simpa [datumText, datumToks] using lx_name this (hp (by simp))
  · simpa [datumText, datumToks] using hnm
  · have : isFree d.text = true := by have h2 : validText 3 d.text = true := hv; simpa [validText] using h2
    simpa [datumText, datumToks] using (lx_text this).weaken
  · simpa [datumText, datumToks] using hnm
  · simpa [datumText, datumToks] using hnm
theorem lx_word {x : List UInt8} (hx : x ∈ [[97, 100, 100, 114], [115, 101, 114, 118, 101, 114], [97, 108, 105, 97, 115], [115, 116, 97, 114, 116], [116, 101, 120, 116], [97, 110, 99, 104, 111, 114], [107, 101, 121], [108, 105, 102, 101], [122, 111, 110, 101]]) : Lx x [wordTok x] false := by
  have h1 : x.all isRun = true ∧ x.all isDig = false ∧ (∃ c r, x = c :: r ∧ cls c = 3) ∧ x.length ≤ 60 := by
    simp only [List.mem_cons, List.not_mem_nil, or_false] at hx
    rcases hx with rfl | rfl | rfl | rfl | rfl | rfl | rfl | rfl | rfl <;> exact ⟨by decide, by decide, ⟨_, _, rfl, by decide⟩, by decide⟩
  obtain ⟨h1, h2, ⟨c, r, rfl, hc⟩, h4⟩ := h1
  exact lx_run hc h1 (by rw [tokOf, if_neg (by decide), if_neg (by decide), if_pos h2, if_neg (by omega)]; rfl)
theorem word_mem {t : Int} (h1 : 1 ≤ t) (h7 : t ≤ 7) : wordOf t ∈ [[97, 100, 100, 114], [115, 101, 114, 118, 101, 114], [97, 108, 105, 97, 115], [115, 116, 97, 114, 116], [116, 101, 120, 116], [97, 110, 99, 104, 111, 114], [107, 101, 121]] := by
  have ht : t = 1 ∨ t = 2 ∨ t = 3 ∨ t = 4 ∨ t = 5 ∨ t = 6 ∨ t = 7 := by omega
  rcases ht with rfl | rfl | rfl | rfl | rfl | rfl | rfl <;> decide
theorem datumToks_len {t : Int} (h1 : 1 ≤ t) (h7 : t ≤ 7) (d : Datum) : (datumToks t d).length + 1 = if t = 4 ∨ t = 6 ∨ t = 7 then 3 else 2 := by
  have ht : t = 1 ∨ t = 2 ∨ t = 3 ∨ t = 4 ∨ t = 5 ∨ t = 6 ∨ t = 7 := by omega
  rcases ht with rfl | rfl | rfl | rfl | rfl | rfl | rfl <;> rfl
theorem dataToks_len {t : Int} (h1 : 1 ≤ t) (h7 : t ≤ 7) : ∀ (ds : List Datum), (dataToks t ds).flatten.length = (if t = 4 ∨ t = 6 ∨ t = 7 then 3 else 2) * ds.length
  | [] => by simp [dataToks]
  | [d] => by
    have := datumToks_len h1 h7 d
    simp only [dataToks, List.flatten_cons, List.flatten_nil, List.append_nil, List.length_append, List.length_singleton, Nat.mul_one]
    exact this
  | d :: e :: r => by
    have h2 := datumToks_len h1 h7 d
    have h3 := dataToks_len h1 h7 (e :: r)
    rw [dataToks, List.flatten_cons, List.length_append, h3, List.length_append, List.length_singleton, h2]
    simp only [List.length_cons]
    rw [Nat.mul_add _ (r.length + 1) 1]
    omega
end Go.Proofs.YtnbolgdccdnjeaaGreatDoor.Np
/- The printer, plain: how long its words and lines are. -/
namespace Go.Proofs.YtnbolgdccdnjeaaGreatDoor.Np
theorem decimal_bd : ∀ (k n : Nat), n < 10 ^ (k + 1) → (decimal n).length ≤ k + 1 := by
  intro k
  induction k with
  | zero => intro n h; rw [decimal, if_pos (by simpa using h)]; simp
  | succ k ih =>
    intro n h
    rw [decimal]
    split
    · simp
    · have := ih (n / 10) (by rw [Nat.pow_succ] at h; omega)
      simp only [List.length_append, List.length_singleton]; omega
theorem datum_bd {t : Int} {d : Datum} (h1 : 1 ≤ t) (h7 : t ≤ 7) (h : validDatum (ruleOf t) d = true) : (datumText t d).length ≤ 62 ∧ 0 ≤ d.n ∧ d.n ≤ 1000000 ∧ 0 ≤ d.m ∧ d.m ≤ 1000000 ∧ d.text.length ≤ 60 := by
  have ht : t = 1 ∨ t = 2 ∨ t = 3 ∨ t = 4 ∨ t = 5 ∨ t = 6 ∨ t = 7 := by omega
  unfold validDatum at h
  simp only [Bool.and_eq_true, decide_eq_true_eq] at h
  obtain ⟨⟨⟨⟨a1, a2⟩, a3, a4⟩, _⟩, hv⟩ := h
  have hbd : 0 ≤ d.n ∧ d.n ≤ 1000000 ∧ 0 ≤ d.m ∧ d.m ≤ 1000000 := by
    rcases ht with rfl | rfl | rfl | rfl | rfl | rfl | rfl <;> simp [ruleOf, rules] at a1 a2 a3 a4 <;> omega
  obtain ⟨b1, b2, b3, b4⟩ := hbd
  have d1 := decimal_bd 6 d.n.toNat (by omega)
  have d2 := decimal_bd 6 d.m.toNat (by omega)
  have hn0 : validText 0 d.text = true → d.text.length ≤ 60 := fun h => by simp [validText] at h; rw [h]; simp
  have hn1 : validText 1 d.text = true → d.text.length ≤ 60 := fun h => by simp [validText] at h; exact (name_form h.1).1
  rcases ht with rfl | rfl | rfl | rfl | rfl | rfl | rfl
  · exact ⟨by simp [datumText]; omega, b1, b2, b3, b4, hn0 hv⟩
  · have := hn1 hv; exact ⟨by simp [datumText]; omega, b1, b2, b3, b4, this⟩
  · have := hn1 hv; exact ⟨by simp [datumText]; omega, b1, b2, b3, b4, this⟩
  · exact ⟨by simp [datumText]; omega, b1, b2, b3, b4, hn0 hv⟩
  · have : isFree d.text = true := by have h2 : validText 3 d.text = true := hv; simpa [validText] using h2
    unfold isFree at this
    simp only [Bool.and_eq_true, decide_eq_true_eq] at this
    exact ⟨by simp [datumText]; omega, b1, b2, b3, b4, by omega⟩
  · exact ⟨by simp [datumText]; omega, b1, b2, b3, b4, hn0 hv⟩
  · exact ⟨by simp [datumText]; omega, b1, b2, b3, b4, hn0 hv⟩
end Go.Proofs.YtnbolgdccdnjeaaGreatDoor.Np
