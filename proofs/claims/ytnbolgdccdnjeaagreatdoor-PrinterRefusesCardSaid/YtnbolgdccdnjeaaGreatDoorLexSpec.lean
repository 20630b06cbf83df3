/- The lexer, plain: no program in sight. -/
import Derived.Test.YtnbolgdccdnjeaaGreatDoorSpec
namespace Go.Proofs.YtnbolgdccdnjeaaGreatDoor.Np
/-- What begins with a byte. -/
def cls (c : UInt8) : Nat :=
  if c = 32 ∨ c = 9 ∨ c = 10 then 1 else if c = 35 then 2 else if isLow c || isDig c || c == 42 then 3 else if c = 45 then 4 else if c = 46 then 5 else if c = 34 then 6
  else if c = 123 ∨ c = 125 ∨ c = 59 ∨ c = 44 ∨ c = 61 ∨ c = 64 then 7 else 0
def isRun (c : UInt8) : Bool := cls c == 3 || cls c == 4 || cls c == 5
def notEnd (c : UInt8) : Bool := c != 10
def inText (c : UInt8) : Bool := c != 34 && c != 10
def quoteW (r : List UInt8) : Nat := if 1 ≤ (r.takeWhile inText).length ∧ r[(r.takeWhile inText).length]? = some 34 then (r.takeWhile inText).length + 2 else 0
/-- How many bytes the gap or the token has that begins here; 0: neither. -/
def width : List UInt8 → Nat
  | [] => 0
  | c :: r => match cls c with
    | 1 => 1
    | 2 => ((c :: r).takeWhile notEnd).length
    | 3 => ((c :: r).takeWhile isRun).length
    | 5 => if ((c :: r).takeWhile isRun).length = 1 then 1 else 0
    | 6 => quoteW r
    | 7 => 1
    | _ => 0
structure Tok where
  kind : Int
  text : List UInt8
  n : Int
  pos : Int
deriving DecidableEq
def Tok.zero : Tok := ⟨0, [], 0, 0⟩
def dec (s : List UInt8) : Nat := s.foldl (fun a c => 10 * a + (c.toNat - 48)) 0
def tokOf (k : Nat) (s : List UInt8) : Int × Tok :=
  if k = 7 then (0, ⟨3, s, 0, 0⟩)
  else if k = 6 then (if 42 < s.length then (3, Tok.zero) else (0, ⟨1, s, 0, 0⟩))
  else if s.all isDig = false then (if 60 < s.length then (3, Tok.zero) else (0, ⟨1, s, 0, 0⟩))
  else if 1 < s.length ∧ s.head? = some 48 then (10, Tok.zero)
  else if 1000000000 < dec s then (3, Tok.zero) else (0, ⟨2, [], dec s, 0⟩)
/-- The tokens from an offset on, of which some were found before; an error and its offset, or 0. -/
def lexFrom : List UInt8 → Nat → Nat → List Tok × Int × Nat
  | [], _, _ => ([], 0, 0)
  | c :: r, p, k =>
    let n := width (c :: r)
    if cls c = 1 ∨ cls c = 2 then lexFrom (r.drop (n - 1)) (p + n) k
    else if n = 0 then ([], 10, p)
    else if k = 2000 then ([], 2, p)
    else if (tokOf (cls c) ((c :: r).take n)).1 ≠ 0 then ([], (tokOf (cls c) ((c :: r).take n)).1, p)
    else
      let x := lexFrom (r.drop (n - 1)) (p + n) (k + 1)
      ({ (tokOf (cls c) ((c :: r).take n)).2 with pos := p } :: x.1, x.2)
termination_by l => l.length
decreasing_by all_goals (simp; omega)
def lex (s : List UInt8) : List Tok × Int × Nat :=
  if 8000 < s.length then ([], 2, 0) else if (lexFrom s 0 0).2.1 = 0 then ((lexFrom s 0 0).1, 0, 0) else ([], (lexFrom s 0 0).2)

theorem takeWhile_ge {p : UInt8 → Bool} {c : UInt8} {r : List UInt8} (h : p c = true) : 1 ≤ ((c :: r).takeWhile p).length := by
  simp [h]
theorem takeWhile_le {p : UInt8 → Bool} (l : List UInt8) : (l.takeWhile p).length ≤ l.length := by
  induction l with
  | nil => simp
  | cons a l ih => rw [List.takeWhile_cons]; split <;> simp; omega
theorem cls_lt (c : UInt8) : cls c ≤ 7 := by unfold cls; repeat (split <;> try omega)
theorem cls2 {c : UInt8} (h : cls c = 2) : c = 35 := by
  unfold cls at h
  split at h
  · omega
  · split at h
    · assumption
    · repeat (split at h; · omega)
      omega
theorem width_gap {c : UInt8} {r : List UInt8} (h : cls c = 1 ∨ cls c = 2) : 1 ≤ width (c :: r) := by
  rcases h with h | h
  · simp [width, h]
  · rw [width, h]
    exact takeWhile_ge (by rw [cls2 h]; rfl)
theorem quoteW_le (r : List UInt8) : quoteW r ≤ r.length + 1 := by
  unfold quoteW
  split
  · rename_i h
    have := (List.getElem?_eq_some_iff.1 h.2).1
    omega
  · omega
theorem width_le (l : List UInt8) : width l ≤ l.length := by
  cases l with
  | nil => simp [width]
  | cons c r =>
    rw [width]
    split
    · simp
    · exact takeWhile_le _
    · exact takeWhile_le _
    · split <;> simp
    · have := quoteW_le r; simp; omega
    · simp
    · simp
theorem drop_width {c : UInt8} {r : List UInt8} {n : Nat} (h : 1 ≤ n) : r.drop (n - 1) = (c :: r).drop n := by
  obtain ⟨m, rfl⟩ : ∃ m, n = m + 1 := ⟨n - 1, by omega⟩
  simp
/-- One step: a gap. -/
theorem lexFrom_gap {c : UInt8} {r : List UInt8} (p k : Nat) (h : cls c = 1 ∨ cls c = 2) : lexFrom (c :: r) p k = lexFrom ((c :: r).drop (width (c :: r))) (p + width (c :: r)) k := by
  rw [lexFrom, if_pos h, drop_width (c := c) (width_gap h)]
theorem lexFrom_bad {c : UInt8} {r : List UInt8} (p k : Nat) (h : ¬ (cls c = 1 ∨ cls c = 2)) (h0 : width (c :: r) = 0) : lexFrom (c :: r) p k = ([], 10, p) := by
  rw [lexFrom, if_neg h, if_pos h0]
theorem lexFrom_limit {c : UInt8} {r : List UInt8} (p : Nat) (h : ¬ (cls c = 1 ∨ cls c = 2)) (h0 : width (c :: r) ≠ 0) : lexFrom (c :: r) p 2000 = ([], 2, p) := by
  rw [lexFrom, if_neg h, if_neg h0, if_pos rfl]
theorem lexFrom_err {c : UInt8} {r : List UInt8} (p k : Nat) (h : ¬ (cls c = 1 ∨ cls c = 2)) (h0 : width (c :: r) ≠ 0) (hk : k ≠ 2000) (he : (tokOf (cls c) ((c :: r).take (width (c :: r)))).1 ≠ 0) :
    lexFrom (c :: r) p k = ([], (tokOf (cls c) ((c :: r).take (width (c :: r)))).1, p) := by
  rw [lexFrom, if_neg h, if_neg h0, if_neg hk, if_pos he]
theorem lexFrom_tok {c : UInt8} {r : List UInt8} (p k : Nat) (h : ¬ (cls c = 1 ∨ cls c = 2)) (h0 : width (c :: r) ≠ 0) (hk : k ≠ 2000) (he : (tokOf (cls c) ((c :: r).take (width (c :: r)))).1 = 0) :
    lexFrom (c :: r) p k = ({ (tokOf (cls c) ((c :: r).take (width (c :: r)))).2 with pos := (p : Int) } :: (lexFrom ((c :: r).drop (width (c :: r))) (p + width (c :: r)) (k + 1)).1, (lexFrom ((c :: r).drop (width (c :: r))) (p + width (c :: r)) (k + 1)).2) := by
  rw [lexFrom, if_neg h, if_neg h0, if_neg hk, if_neg (by simp [he]), drop_width (c := c) (by omega)]
end Go.Proofs.YtnbolgdccdnjeaaGreatDoor.Np
