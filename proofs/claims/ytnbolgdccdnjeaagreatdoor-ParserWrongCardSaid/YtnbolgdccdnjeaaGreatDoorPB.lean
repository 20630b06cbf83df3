/- Joined by program from: ParSpec, ParOrd, ParRight, ParGood, ParMv, ParBack, ParLaw. No condition. -/
import Derived.Test.YtnbolgdccdnjeaaGreatDoorPA
/- The parser, plain: no program in sight. -/
namespace Go.Proofs.YtnbolgdccdnjeaaGreatDoor.Np
/-- What a reader comes to: a value and the tokens that are left, or an error at the next token. -/
inductive Res (α : Type) where
  | ok (a : α) (r : List Tok)
  | err (e : Int) (r : List Tok)
deriving DecidableEq
def peekT (r : List Tok) : Tok := r.headD Tok.zero
def isW (s : List UInt8) (r : List Tok) : Bool := (peekT r).kind == 1 && (peekT r).text == s
def isS (s : List UInt8) (r : List Tok) : Bool := (peekT r).kind == 3 && (peekT r).text == s
/-- The next token is a word, and no text. -/
def isAny (r : List Tok) : Bool := (peekT r).kind == 1 && !((peekT r).text.head? == some 34)
def isTxt (r : List Tok) : Bool := (peekT r).kind == 1 && (peekT r).text.head? == some 34
def isNum (r : List Tok) : Bool := (peekT r).kind == 2
def posT (size : Int) (r : List Tok) : Int := match r with | [] => size | t :: _ => t.pos
def wZone : List UInt8 := [122, 111, 110, 101]
def wLife : List UInt8 := [108, 105, 102, 101]
def headerR (known : List (List UInt8)) (r : List Tok) : List (List UInt8) × Res (List UInt8) :=
  if isW wZone r = false then (known, .err 10 r)
  else if isAny r.tail = false then (known, .err 10 r.tail)
  else if (validName (peekT r.tail).text && !isWild (peekT r.tail).text) = false then (known, .err 11 r.tail)
  else if (peekT r.tail).text ∈ known then (known, .err 5 r.tail)
  else if isS [123] r.tail.tail = false then ((peekT r.tail).text :: known, .err 10 r.tail.tail)
  else ((peekT r.tail).text :: known, .ok (peekT r.tail).text r.tail.tail.tail)
def okDatum (t : Int) (d : Datum) : Bool := validSet ⟨[46], t, 0, [d]⟩
/-- A number that some datum of a type can have. -/
def numR (t : Int) (mk : Int → Datum) (r : List Tok) : Res Int :=
  if isNum r = false then .err 10 r else if okDatum t (mk (peekT r).n) = false then .err 3 r else .ok (peekT r).n r.tail
def hostR (r : List Tok) : Res Datum :=
  if isAny r = false then .err 10 r else if (validName (peekT r).text && !isWild (peekT r).text) = false then .err 11 r else .ok ⟨(peekT r).text, 0, 0⟩ r.tail
def innerT (s : List UInt8) : List UInt8 := (s.drop 1).take (s.length - 2)
def textR (r : List Tok) : Res Datum :=
  if okDatum 5 ⟨innerT (peekT r).text, 0, 0⟩ = false then .err 3 r else .ok ⟨innerT (peekT r).text, 0, 0⟩ r.tail
def pairR (t usual : Int) (r : List Tok) : Res Datum :=
  match numR t (fun n => ⟨[], n, usual⟩) r with
  | .err e r' => .err e r'
  | .ok n r' => match numR t (fun m => ⟨[], usual, m⟩) r' with
    | .err e r'' => .err e r''
    | .ok m r'' => .ok ⟨[], n, m⟩ r''
def addrR (r : List Tok) : Res Datum :=
  match numR 1 (fun n => ⟨[], n, 0⟩) r with
  | .err e r' => .err e r'
  | .ok n r' => .ok ⟨[], n, 0⟩ r'
def readR (t : Int) (r : List Tok) : Res Datum :=
  if t = 1 then addrR r else if t = 2 ∨ t = 3 then hostR r else if t = 5 then textR r else if t = 4 then pairR 4 0 r else pairR t 1 r
def firstR (t : Int) (r : List Tok) : Bool := if t = 2 ∨ t = 3 then isAny r else if t = 5 then isTxt r else isNum r
def mostR (t : Int) : Nat := if t = 3 ∨ t = 4 then 1 else 8
def datumR (t : Int) (n : Nat) (r : List Tok) : Res Datum :=
  if firstR t r = false then .err 10 r else if mostR t ≤ n then .err 2 r else readR t r
def dataR (t : Int) : Nat → List Datum → List Tok → Res (List Datum)
  | 0, _, r => .err 2 r
  | n + 1, acc, r => match datumR t acc.length r with
    | .err e r' => .err e r'
    | .ok d r' =>
      if (isS [44] r' || isS [59] r') = false then .err 10 r'
      else if d ∈ acc then .err 5 r'
      else if isS [44] r' = true then dataR t n (acc ++ [d]) r'.tail else .ok (acc ++ [d]) r'.tail
def wordsT : List (List UInt8) := [[97, 100, 100, 114], [115, 101, 114, 118, 101, 114], [97, 108, 105, 97, 115], [115, 116, 97, 114, 116], [116, 101, 120, 116], [97, 110, 99, 104, 111, 114], [107, 101, 121]]
def typeR (s : List UInt8) : Int := match wordsT.findIdx? (· == s) with | some i => (i : Int) + 1 | none => 0
def ownerR (apex : List UInt8) (r : List Tok) : Res (List UInt8) :=
  if isS [64] r = true then .ok apex r.tail
  else if isAny r = false then .err 10 r
  else if validName (peekT r).text = false then .err 11 r
  else if underL (peekT r).text apex = false then .err 20 r
  else .ok (peekT r).text r.tail
def lifeR (t : Int) (r : List Tok) : Res Int :=
  if (isW wLife r && (!(decide (t = 2) || decide (t = 3)) || isNum r.tail)) = false then .ok 300 r
  else if isNum r.tail = false then .err 10 r.tail
  else if 100000 < (peekT r.tail).n then .err 3 r.tail
  else .ok (peekT r.tail).n r.tail.tail
def sortD (l : List Datum) : List Datum := l.mergeSort fun a b => !decide (cmpD b a < 0)
def entryR (apex : List UInt8) (sets : List (List UInt8 × Int)) (r : List Tok) : Res DSet :=
  match ownerR apex r with
  | .err e r' => .err e r'
  | .ok s r1 =>
    if isAny r1 = false then .err 10 r1
    else if typeR (peekT r1).text = 0 then .err 10 r1
    else if (isWild s && (decide (typeR (peekT r1).text ≠ 1) && decide (typeR (peekT r1).text ≠ 5))) = true then .err 12 r1
    else if (s, typeR (peekT r1).text) ∈ sets then .err 5 r1
    else match lifeR (typeR (peekT r1).text) r1.tail with
      | .err e r' => .err e r'
      | .ok life r2 => match dataR (typeR (peekT r1).text) 9 [] r2 with
        | .err e r' => .err e r'
        | .ok l r3 => .ok ⟨s, typeR (peekT r1).text, life, sortD l⟩ r3
def sortS (l : List Signed) : List Signed := l.mergeSort fun a b => !decide (cmpSet b.set a.set < 0)
/-- On to the next sign that ends an entry. -/
def skipR : List Tok → List Tok
  | [] => []
  | t :: r => if (isS [125] (t :: r) || isS [59] (t :: r)) = true then t :: r else skipR r
def skipZ : List Tok → List Tok
  | [] => []
  | t :: r => if isW wZone (t :: r) = true then t :: r else skipZ r
structure Diag where
  err : Int
  pos : Int
deriving DecidableEq
/-- The entries of a zone: whether it came to its end, its sets, the diagnostics, what is left. -/
def bodyR (size : Int) (apex : List UInt8) (sets : List (List UInt8 × Int)) (acc : List Signed) (diags : List Diag) (r : List Tok) : Bool × List Signed × List Diag × List Tok :=
  if isS [125] r = true then (true, sortS acc, diags, r.tail)
  else match entryR apex sets r with
    | .ok s r' => if r'.length < r.length then bodyR size apex ((s.name, s.type) :: sets) (acc ++ [⟨s, []⟩]) diags r' else (false, acc, diags, r')
    | .err e r' =>
      if 20 ≤ (diags ++ [Diag.mk e (posT size r')]).length then (false, acc, diags ++ [⟨e, posT size r'⟩], r')
      else if skipR r' = [] then (false, acc, diags ++ [⟨e, posT size r'⟩], [])
      else if isS [59] (skipR r') = true then (if (skipR r').tail.length < r.length then bodyR size apex sets acc (diags ++ [⟨e, posT size r'⟩]) (skipR r').tail else (false, acc, diags, r'))
      else (if (skipR r').length < r.length then bodyR size apex sets acc (diags ++ [⟨e, posT size r'⟩]) (skipR r') else (false, acc, diags, r'))
termination_by r.length
decreasing_by all_goals (first | assumption | (simp at *; omega) | omega)
def fileR (size : Int) (known : List (List UInt8)) (zones : List Zone) (diags : List Diag) (r : List Tok) : List Zone × List Diag :=
  if r = [] then (zones, diags)
  else match headerR known r with
    | (known', .ok apex r') => match bodyR size apex [] [] diags r' with
      | (true, sets, diags', r'') => if r''.length < r.length then fileR size known' (zones ++ [⟨apex, sets⟩]) diags' r'' else (zones, diags')
      | (false, _, diags', _) => (zones, diags')
    | (known', .err e r') =>
      if 20 ≤ (diags ++ [Diag.mk e (posT size r')]).length then (zones, diags ++ [⟨e, posT size r'⟩])
      else if (skipZ r').length < r.length then fileR size known' zones (diags ++ [⟨e, posT size r'⟩]) (skipZ r') else (zones, diags)
termination_by r.length
def parse (s : List UInt8) : List Zone × List Diag :=
  if (lex s).2.1 ≠ 0 then ([], [⟨(lex s).2.1, (lex s).2.2⟩])
  else if (fileR s.length [] [] [] (lex s).1).2 = [] then ((fileR s.length [] [] [] (lex s).1).1, []) else ([], (fileR s.length [] [] [] (lex s).1).2)
end Go.Proofs.YtnbolgdccdnjeaaGreatDoor.Np
/- The orders of data and of sets are total; what is sorted is determined. No program in sight. -/
namespace Go.Proofs.YtnbolgdccdnjeaaGreatDoor.Np
/-- A comparison that says less, equal, greater, as a total order does. -/
structure TO {α : Type} (c : α → α → Int) : Prop where
  self : ∀ x, c x x = 0
  zero : ∀ x y, c x y = 0 → x = y
  anti : ∀ x y, c x y < 0 → 0 < c y x
  anti' : ∀ x y, 0 < c x y → c y x < 0
  trans : ∀ x y z, c x y < 0 → c y z < 0 → c x z < 0
theorem TO.lex {α β γ : Type} {c : α → α → Int} {d : β → β → Int} (hc : TO c) (hd : TO d) (f : γ → α) (g : γ → β) (hfg : ∀ x y, f x = f y → g x = g y → x = y) : TO (fun x y : γ => if c (f x) (f y) ≠ 0 then c (f x) (f y) else d (g x) (g y)) where
  self x := by simp [hc.self, hd.self]
  zero x y h := by
    by_cases h1 : c (f x) (f y) ≠ 0
    · rw [if_pos h1] at h; exact absurd h h1
    · rw [if_neg h1] at h; exact hfg x y (hc.zero _ _ (Decidable.not_not.1 h1)) (hd.zero _ _ h)
  anti x y h := by
    by_cases h1 : c (f x) (f y) ≠ 0
    · rw [if_pos h1] at h
      have := hc.anti _ _ h
      rw [if_pos (by omega)]; exact this
    · rw [if_neg h1] at h
      have e := hc.zero _ _ (Decidable.not_not.1 h1)
      rw [e, hc.self, if_neg (by simp)]
      exact hd.anti _ _ h
  anti' x y h := by
    by_cases h1 : c (f x) (f y) ≠ 0
    · rw [if_pos h1] at h
      have := hc.anti' _ _ h
      rw [if_pos (by omega)]; exact this
    · rw [if_neg h1] at h
      have e := hc.zero _ _ (Decidable.not_not.1 h1)
      rw [e, hc.self, if_neg (by simp)]
      exact hd.anti' _ _ h
  trans x y z h k := by
    by_cases h1 : c (f x) (f y) ≠ 0
    · rw [if_pos h1] at h
      by_cases h2 : c (f y) (f z) ≠ 0
      · rw [if_pos h2] at k
        have := hc.trans _ _ _ h k
        rw [if_pos (by omega)]; exact this
      · have e := hc.zero _ _ (Decidable.not_not.1 h2)
        rw [← e, if_pos h1]; exact h
    · rw [if_neg h1] at h
      have e := hc.zero _ _ (Decidable.not_not.1 h1)
      by_cases h2 : c (f y) (f z) ≠ 0
      · rw [if_pos h2] at k
        rw [e, if_pos h2]; exact k
      · rw [if_neg h2] at k
        rw [e, if_neg h2]
        exact hd.trans _ _ _ h k
theorem TO.of {α β : Type} {c : α → α → Int} (hc : TO c) (f : β → α) (hf : ∀ x y, f x = f y → x = y) : TO (fun x y => c (f x) (f y)) where
  self _ := hc.self _
  zero _ _ h := hf _ _ (hc.zero _ _ h)
  anti _ _ h := hc.anti _ _ h
  anti' _ _ h := hc.anti' _ _ h
  trans _ _ _ h k := hc.trans _ _ _ h k
theorem less_eq : ∀ (x y : List UInt8), Go.Op.bytesLess x y = decide (x < y)
  | [], [] => by simp [Go.Op.bytesLess]
  | _ :: _, [] => by simp [Go.Op.bytesLess]
  | [], _ :: _ => by simp [Go.Op.bytesLess]
  | a :: x, b :: y => by
    rw [Go.Op.bytesLess, less_eq x y]
    simp only [List.cons_lt_cons_iff]
    by_cases h1 : a < b <;> by_cases h2 : a = b <;> by_cases h3 : x < y <;> simp [h1, h2, h3]
theorem toS : TO cmpS where
  self := cmpS_self
  zero _ _ := cmpS_zero
  anti x y h := by
    rcases cmpS_eqs x y with ⟨h1, h2⟩ | ⟨_, _, _, h2⟩ | ⟨_, _, _, h2⟩
    · rcases cmpS_eqs y x with ⟨h3, h4⟩ | ⟨_, _, _, h4⟩ | ⟨_, _, h5, h4⟩
      · rw [less_eq, decide_eq_true_eq] at h1 h3
        exact absurd h3 (List.lt_asymm h1)
      · omega
      · rw [h5, cmpS_self] at h; omega
    · omega
    · omega
  anti' x y h := by
    rcases cmpS_eqs x y with ⟨_, h2⟩ | ⟨_, h1, _, h2⟩ | ⟨_, _, _, h2⟩
    · omega
    · simp [cmpS, h1]
    · omega
  trans x y z h k := by
    have e : ∀ a b : List UInt8, cmpS a b < 0 → a < b := fun a b h => by
      rcases cmpS_eqs a b with ⟨h1, h2⟩ | ⟨_, _, _, h2⟩ | ⟨_, _, _, h2⟩
      · rw [less_eq, decide_eq_true_eq] at h1; exact h1
      · omega
      · omega
    have := List.lt_trans (e _ _ h) (e _ _ k)
    unfold cmpS
    rw [less_eq, if_pos (by simpa using this)]
    omega
theorem toI : TO cmpI where
  self x := by unfold cmpI; rw [if_neg (by omega), if_neg (by omega)]
  zero x y h := by unfold cmpI at h; split at h; omega; split at h <;> omega
  anti x y h := by
    unfold cmpI at h ⊢
    split at h
    · rw [if_neg (by omega), if_pos (by omega)]; omega
    · split at h <;> omega
  anti' x y h := by
    unfold cmpI at h ⊢
    split at h
    · omega
    · split at h
      · rw [if_pos (by omega)]; omega
      · omega
  trans x y z h k := by
    unfold cmpI at h k ⊢
    split at h
    · split at k
      · rw [if_pos (by omega)]; omega
      · split at k <;> omega
    · split at h <;> omega
theorem toD : TO cmpD := by
  have h1 := toI.lex toI (fun d : Int × Int => d.1) (fun d => d.2) (fun _ _ h k => Prod.ext h k)
  have := toS.lex h1 (fun d : Datum => d.text) (fun d => (d.n, d.m)) (fun x y h k => by cases x; cases y; simp at h k ⊢; exact ⟨h, k.1, k.2⟩)
  exact this
theorem toR : TO ordR := by
  have hs := toS
  refine ⟨ordR_self, ?_, ?_, ?_, ?_⟩
  · intro l
    induction l with
    | nil => intro m h; cases m with
      | nil => rfl
      | cons y m => simp [ordR] at h
    | cons x l ih =>
      intro m h
      cases m with
      | nil => simp [ordR] at h
      | cons y m =>
        rw [ordR] at h
        split at h
        · rename_i hc; exact absurd h hc
        · rename_i hc
          rw [cmpS_zero (Decidable.not_not.1 hc), ih m h]
  · intro l
    induction l with
    | nil => intro m h; cases m with
      | nil => simp [ordR] at h
      | cons y m => simp [ordR]
    | cons x l ih =>
      intro m h
      cases m with
      | nil => simp [ordR] at h
      | cons y m =>
        rw [ordR] at h ⊢
        split at h
        · have := hs.anti _ _ h
          rw [if_pos (by omega)]; exact this
        · rename_i hc
          have e := cmpS_zero (Decidable.not_not.1 hc)
          subst e
          rw [if_neg hc]
          exact ih m h
  · intro l
    induction l with
    | nil => intro m h; cases m with
      | nil => simp [ordR] at h
      | cons y m => simp [ordR] at h
    | cons x l ih =>
      intro m h
      cases m with
      | nil => simp [ordR]
      | cons y m =>
        rw [ordR] at h ⊢
        split at h
        · have := hs.anti' _ _ h
          rw [if_pos (by omega)]; exact this
        · rename_i hc
          have e := cmpS_zero (Decidable.not_not.1 hc)
          subst e
          rw [if_neg hc]
          exact ih m h
  · intro l
    induction l with
    | nil => intro m n h k; cases m with
      | nil => simp [ordR] at h
      | cons y m => cases n with
        | nil => simp [ordR] at k
        | cons z n => simp [ordR]
    | cons x l ih =>
      intro m n h k
      cases m with
      | nil => simp [ordR] at h
      | cons y m =>
        cases n with
        | nil => simp [ordR] at k
        | cons z n =>
          rw [ordR] at h k ⊢
          by_cases hc : cmpS x y ≠ 0
          · rw [if_pos hc] at h
            by_cases hd : cmpS y z ≠ 0
            · rw [if_pos hd] at k
              have := hs.trans _ _ _ h k
              rw [if_pos (by omega)]; exact this
            · have e := cmpS_zero (Decidable.not_not.1 hd)
              rw [← e, if_pos hc]; exact h
          · rw [if_neg hc] at h
            have e := cmpS_zero (Decidable.not_not.1 hc)
            by_cases hd : cmpS y z ≠ 0
            · rw [if_pos hd] at k
              rw [e, if_pos hd]; exact k
            · rw [if_neg hd] at k
              rw [e, if_neg hd]
              exact ih m n h k
theorem toName : TO cmpName := by
  have := toR.of back (fun _ _ h => back_inj h)
  have e : cmpName = fun x y => ordR (back x) (back y) := by funext x y; exact cmpName_ref x y
  rw [e]; exact this
def cmpKey (a b : List UInt8 × Int) : Int := if cmpName a.1 b.1 ≠ 0 then cmpName a.1 b.1 else cmpI a.2 b.2
theorem toKey : TO cmpKey := toName.lex toI (fun d : List UInt8 × Int => d.1) (fun d => d.2) (fun _ _ h k => Prod.ext h k)
def keyS (s : DSet) : List UInt8 × Int := (s.name, s.type)
theorem cmpSet_key (a b : DSet) : cmpSet a b = cmpKey (keyS a) (keyS b) := cmpSet_ref a b
/-! What is sorted. -/
theorem sortD_perm (l : List Datum) : (sortD l).Perm l := List.mergeSort_perm _ _
theorem sortS_perm (l : List Signed) : (sortS l).Perm l := List.mergeSort_perm _ _
theorem le_trans' {α : Type} {c : α → α → Int} (h : TO c) (x y z : α) : (!decide (c y x < 0)) = true → (!decide (c z y < 0)) = true → (!decide (c z x < 0)) = true := by
  simp only [Bool.not_eq_true', decide_eq_false_iff_not, Int.not_lt]
  intro h1 h2
  apply Decidable.byContradiction
  intro h3
  have h4 : c z x < 0 := by omega
  rcases Int.lt_or_eq_of_le h1 with h5 | h5
  · have := h.trans _ _ _ h4 (h.anti' _ _ h5); omega
  · have := h.zero _ _ h5.symm; subst this; omega
theorem le_total' {α : Type} {c : α → α → Int} (h : TO c) (x y : α) : ((!decide (c y x < 0)) || (!decide (c x y < 0))) = true := by
  by_cases h1 : c y x < 0
  · have := h.anti _ _ h1
    have : ¬ c x y < 0 := by omega
    simp [this]
  · simp [h1]
theorem sortD_sorted (l : List Datum) : (sortD l).Pairwise fun a b => ¬ cmpD b a < 0 := by
  have := List.pairwise_mergeSort (le := fun a b => !decide (cmpD b a < 0)) (fun a b c => le_trans' toD a b c) (fun a b => le_total' toD a b) l
  exact this.imp (fun h => by simpa using h)
theorem sortS_sorted (l : List Signed) : (sortS l).Pairwise fun a b => ¬ cmpSet b.set a.set < 0 := by
  have := List.pairwise_mergeSort (le := fun a b : Signed => !decide (cmpSet b.set a.set < 0)) (fun a b c => by
    simp only [cmpSet_key]; exact le_trans' toKey _ _ _) (fun a b => by simp only [cmpSet_key]; exact le_total' toKey _ _) l
  exact this.imp (fun h => by simpa using h)
end Go.Proofs.YtnbolgdccdnjeaaGreatDoor.Np
/- What the parser comes to: its diagnostics, and the zones without any. No program in sight. -/
namespace Go.Proofs.YtnbolgdccdnjeaaGreatDoor.Np
theorem suf_tail (r : List Tok) : r.tail <:+ r := List.tail_suffix r
theorem suf2 (r : List Tok) : r.tail.tail <:+ r := (suf_tail _).trans (suf_tail r)
theorem suf3 (r : List Tok) : r.tail.tail.tail <:+ r := (suf_tail _).trans (suf2 r)
theorem ne_kind {r : List Tok} {k : Int} (h : ((peekT r).kind == k) = true) (hk : k ≠ 0) : r.tail.length + 1 = r.length := by
  cases r with
  | nil => simp [peekT, Tok.zero] at h; omega
  | cons a r => simp
theorem isS_ne {s : List UInt8} {r : List Tok} (h : isS s r = true) : r.tail.length + 1 = r.length := by
  unfold isS at h; rw [Bool.and_eq_true] at h; exact ne_kind h.1 (by decide)
theorem isW_ne {s : List UInt8} {r : List Tok} (h : isW s r = true) : r.tail.length + 1 = r.length := by
  unfold isW at h; rw [Bool.and_eq_true] at h; exact ne_kind h.1 (by decide)
theorem isAny_ne {r : List Tok} (h : isAny r = true) : r.tail.length + 1 = r.length := by
  unfold isAny at h; rw [Bool.and_eq_true] at h; exact ne_kind h.1 (by decide)
theorem isNum_ne {r : List Tok} (h : isNum r = true) : r.tail.length + 1 = r.length := ne_kind h (by decide)
theorem isTxt_ne {r : List Tok} (h : isTxt r = true) : r.tail.length + 1 = r.length := by
  unfold isTxt at h; rw [Bool.and_eq_true] at h; exact ne_kind h.1 (by decide)
theorem bt {b : Bool} (h : ¬ b = false) : b = true := by simpa using h
/-- What is left is an end of what there was; an error is none that is 0. -/
def Fine {α : Type} (r : List Tok) : Res α → Prop
  | .ok _ r' => r' <:+ r
  | .err e r' => r' <:+ r ∧ e ≠ 0
theorem Fine.up {α : Type} {r r0 : List Tok} {x : Res α} (h : Fine r x) (hs : r <:+ r0) : Fine r0 x := by
  cases x with
  | ok a r' => exact List.IsSuffix.trans h hs
  | err e r' => exact ⟨List.IsSuffix.trans h.1 hs, h.2⟩
theorem fine_err {α : Type} {r : List Tok} {e : Int} (h : e ≠ 0) : Fine r (.err e r : Res α) := ⟨List.suffix_refl _, h⟩
theorem numR_fine (t : Int) (mk : Int → Datum) (r : List Tok) : Fine r (numR t mk r) := by
  unfold numR
  split
  · exact fine_err (by decide)
  · split
    · exact fine_err (by decide)
    · exact suf_tail r
theorem hostR_fine (r : List Tok) : Fine r (hostR r) := by
  unfold hostR
  split
  · exact fine_err (by decide)
  · split
    · exact fine_err (by decide)
    · exact suf_tail r
theorem textR_fine (r : List Tok) : Fine r (textR r) := by
  unfold textR
  split
  · exact fine_err (by decide)
  · exact suf_tail r
theorem pairR_fine (t u : Int) (r : List Tok) : Fine r (pairR t u r) := by
  unfold pairR
  have h1 := numR_fine t (fun n => ⟨[], n, u⟩) r
  cases hh : numR t (fun n => ⟨[], n, u⟩) r with
  | err e r' => rw [hh] at h1; exact h1
  | ok n r' =>
    rw [hh] at h1
    have h2 := (numR_fine t (fun m => ⟨[], u, m⟩) r').up h1
    cases hh2 : numR t (fun m => ⟨[], u, m⟩) r' with
    | err e r'' => rw [hh2] at h2; dsimp only; rw [hh2]; exact h2
    | ok m r'' => rw [hh2] at h2; dsimp only; rw [hh2]; exact h2
theorem addrR_fine (r : List Tok) : Fine r (addrR r) := by
  unfold addrR
  have h1 := numR_fine 1 (fun n => ⟨[], n, 0⟩) r
  cases hh : numR 1 (fun n => ⟨[], n, 0⟩) r with
  | err e r' => rw [hh] at h1; exact h1
  | ok n r' => rw [hh] at h1; exact h1
theorem readR_fine (t : Int) (r : List Tok) : Fine r (readR t r) := by
  unfold readR
  split
  · exact addrR_fine r
  · split
    · exact hostR_fine r
    · split
      · exact textR_fine r
      · split
        · exact pairR_fine _ _ r
        · exact pairR_fine _ _ r
theorem datumR_fine (t : Int) (n : Nat) (r : List Tok) : Fine r (datumR t n r) := by
  unfold datumR
  split
  · exact fine_err (by decide)
  · split
    · exact fine_err (by decide)
    · exact readR_fine t r
theorem dataR_fine (t : Int) : ∀ (n : Nat) (acc : List Datum) (r : List Tok), Fine r (dataR t n acc r)
  | 0, _, _ => fine_err (by decide)
  | n + 1, acc, r => by
    rw [dataR]
    have h1 := datumR_fine t acc.length r
    cases hh : datumR t acc.length r with
    | err e r' => rw [hh] at h1; exact h1
    | ok d r' =>
      rw [hh] at h1
      have h1 : r' <:+ r := h1
      have h2 := List.IsSuffix.trans (suf_tail r') h1
      dsimp only
      split
      · exact ⟨h1, by decide⟩
      · split
        · exact ⟨h1, by decide⟩
        · split
          · exact (dataR_fine t n _ _).up h2
          · exact h2
theorem ownerR_fine (apex : List UInt8) (r : List Tok) : Fine r (ownerR apex r) := by
  unfold ownerR
  split
  · exact suf_tail r
  · split
    · exact fine_err (by decide)
    · split
      · exact fine_err (by decide)
      · split
        · exact fine_err (by decide)
        · exact suf_tail r
theorem lifeR_fine (t : Int) (r : List Tok) : Fine r (lifeR t r) := by
  unfold lifeR
  split
  · exact List.suffix_refl _
  · split
    · exact ⟨suf_tail r, by decide⟩
    · split
      · exact ⟨suf_tail r, by decide⟩
      · exact suf2 r
theorem entryR_fine (apex : List UInt8) (sets : List (List UInt8 × Int)) (r : List Tok) : Fine r (entryR apex sets r) := by
  unfold entryR
  have h1 := ownerR_fine apex r
  cases hh : ownerR apex r with
  | err e r' => rw [hh] at h1; exact h1
  | ok s r1 =>
    rw [hh] at h1
    have h1 : r1 <:+ r := h1
    have h2 := List.IsSuffix.trans (suf_tail r1) h1
    dsimp only
    split
    · exact ⟨h1, by decide⟩
    · split
      · exact ⟨h1, by decide⟩
      · split
        · exact ⟨h1, by decide⟩
        · split
          · exact ⟨h1, by decide⟩
          · have h3 := (lifeR_fine (typeR (peekT r1).text) r1.tail).up h2
            cases hh2 : lifeR (typeR (peekT r1).text) r1.tail with
            | err e r' => rw [hh2] at h3; exact h3
            | ok life r2 =>
              rw [hh2] at h3
              have h4 := (dataR_fine (typeR (peekT r1).text) 9 [] r2).up h3
              cases hh3 : dataR (typeR (peekT r1).text) 9 [] r2 with
              | err e r' => rw [hh3] at h4; dsimp only; rw [hh3]; exact h4
              | ok l r3 => rw [hh3] at h4; dsimp only; rw [hh3]; exact h4
theorem headerR_fine (known : List (List UInt8)) (r : List Tok) : Fine r (headerR known r).2 := by
  unfold headerR
  split
  · exact fine_err (by decide)
  · split
    · exact ⟨suf_tail r, by decide⟩
    · split
      · exact ⟨suf_tail r, by decide⟩
      · split
        · exact ⟨suf_tail r, by decide⟩
        · split
          · exact ⟨suf2 r, by decide⟩
          · exact suf3 r
theorem ownerR_lt {apex s : List UInt8} {r r' : List Tok} (h : ownerR apex r = .ok s r') : r'.length < r.length := by
  unfold ownerR at h
  split at h
  · rename_i h1
    simp only [Res.ok.injEq] at h
    have := isS_ne h1; rw [← h.2]; omega
  · split at h
    · cases h
    · rename_i h1
      have := isAny_ne (bt h1)
      split at h
      · cases h
      · split at h
        · cases h
        · simp only [Res.ok.injEq] at h; rw [← h.2]; omega
theorem entryR_lt {apex : List UInt8} {sets : List (List UInt8 × Int)} {r r' : List Tok} {s : DSet} (h : entryR apex sets r = .ok s r') : r'.length < r.length := by
  unfold entryR at h
  cases hh : ownerR apex r with
  | err e r' => rw [hh] at h; cases h
  | ok s1 r1 =>
    have h1 := ownerR_lt hh
    rw [hh] at h
    dsimp only at h
    split at h
    · cases h
    · split at h
      · cases h
      · split at h
        · cases h
        · split at h
          · cases h
          · have h3 := lifeR_fine (typeR (peekT r1).text) r1.tail
            cases hh2 : lifeR (typeR (peekT r1).text) r1.tail with
            | err e r' => rw [hh2] at h; cases h
            | ok life r2 =>
              rw [hh2] at h h3
              dsimp only at h
              have h4 := dataR_fine (typeR (peekT r1).text) 9 [] r2
              cases hh3 : dataR (typeR (peekT r1).text) 9 [] r2 with
              | err e r' => rw [hh3] at h; cases h
              | ok l r3 =>
                rw [hh3] at h h4
                simp only [Res.ok.injEq] at h
                have h5 := List.IsSuffix.length_le h3
                have h6 := List.IsSuffix.length_le h4
                have h7 := (suf_tail r1).length_le
                rw [← h.2]; omega
theorem headerR_lt {known k' : List (List UInt8)} {r r' : List Tok} {a : List UInt8} (h : headerR known r = (k', .ok a r')) : r'.length < r.length := by
  unfold headerR at h
  split at h
  · cases h
  · rename_i h1
    have := isW_ne (bt h1)
    split at h
    · cases h
    · split at h
      · cases h
      · split at h
        · cases h
        · split at h
          · cases h
          · simp only [Prod.mk.injEq, Res.ok.injEq] at h
            have h7 := (suf2 r.tail).length_le
            rw [← h.2.2]; omega
theorem skipR_suf : ∀ r : List Tok, skipR r <:+ r
  | [] => List.suffix_refl _
  | t :: r => by
    rw [skipR]
    split
    · exact List.suffix_refl _
    · exact (skipR_suf r).trans (List.suffix_cons t r)
theorem skipR_stop : ∀ r : List Tok, skipR r ≠ [] → (isS [125] (skipR r) || isS [59] (skipR r)) = true
  | [] => fun h => absurd rfl h
  | t :: r => by
    rw [skipR]
    split
    · rename_i h; intro _; exact h
    · exact skipR_stop r
theorem skipR_same {r : List Tok} (h : (isS [125] r || isS [59] r) = true) : skipR r = r := by
  cases r with
  | nil => rfl
  | cons t r => rw [skipR, if_pos h]
theorem skipZ_suf : ∀ r : List Tok, skipZ r <:+ r
  | [] => List.suffix_refl _
  | t :: r => by
    rw [skipZ]
    split
    · exact List.suffix_refl _
    · exact (skipZ_suf r).trans (List.suffix_cons t r)
theorem skipZ_lt {r : List Tok} (h : isW wZone r = false) (hr : r ≠ []) : (skipZ r).length < r.length := by
  cases r with
  | nil => exact absurd rfl hr
  | cons t r =>
    rw [skipZ, if_neg (by simp [h])]
    have := (skipZ_suf r).length_le
    simp; omega
/-! ### Where tokens stand -/
def Placed (size : Int) (r : List Tok) : Prop := r.Pairwise (fun a b => a.pos < b.pos) ∧ ∀ t ∈ r, 0 ≤ t.pos ∧ t.pos < size
theorem suf_eq {r r' : List Tok} (hs : r' <:+ r) (hl : ¬ r'.length < r.length) : r' = r := hs.eq_of_length_le (by omega)
/-! ### Diagnostics -/
def DOk (size : Int) (ds : List Diag) : Prop := ds.Pairwise (fun a b => a.pos < b.pos) ∧ ∀ d ∈ ds, d.err ≠ 0 ∧ 0 ≤ d.pos ∧ d.pos ≤ size
theorem DOk.snoc {size : Int} {ds : List Diag} {e p : Int} (h : DOk size ds) (he : e ≠ 0) (hp : 0 ≤ p ∧ p ≤ size) (hl : ∀ d ∈ ds, d.pos < p) : DOk size (ds ++ [⟨e, p⟩]) := by
  refine ⟨List.pairwise_append.2 ⟨h.1, by simp, fun a ha b hb => ?_⟩, fun d hd => ?_⟩
  · simp at hb; subst hb; exact hl a ha
  · rcases List.mem_append.1 hd with hd | hd
    · exact h.2 d hd
    · simp at hd; subst hd; exact ⟨he, hp⟩
theorem header_err_lt {known k' : List (List UInt8)} {r r' : List Tok} {e : Int} (h : headerR known r = (k', .err e r')) (hne : r ≠ []) : (skipZ r').length < r.length := by
  have hf := headerR_fine known r
  rw [h] at hf
  have h2 := hf.1.length_le
  have h1 := (skipZ_suf r').length_le
  apply Decidable.byContradiction
  intro hc
  have e1 := suf_eq hf.1 (by omega)
  subst e1
  have e2 := suf_eq (skipZ_suf r') hc
  by_cases hw : isW wZone r' = true
  · unfold headerR at h
    have hl := isW_ne hw
    have hl2 := (suf_tail r'.tail).length_le
    have key : ∀ {r2 : List Tok}, r2 = r' → r2.length < r'.length → False := fun e hl => by rw [e] at hl; omega
    rw [hw, if_neg (by simp)] at h
    split at h
    · simp only [Prod.mk.injEq, Res.err.injEq] at h; exact key h.2.2 (by omega)
    · split at h
      · simp only [Prod.mk.injEq, Res.err.injEq] at h; exact key h.2.2 (by omega)
      · split at h
        · simp only [Prod.mk.injEq, Res.err.injEq] at h; exact key h.2.2 (by omega)
        · split at h
          · simp only [Prod.mk.injEq, Res.err.injEq] at h; exact key h.2.2 (by omega)
          · simp at h
  · have := skipZ_lt (r := r') (by simpa using hw) hne
    rw [e2] at this; omega
end Go.Proofs.YtnbolgdccdnjeaaGreatDoor.Np
/- The zones that the parser reads without a diagnostic are right, and can be written. No program in sight. -/
namespace Go.Proofs.YtnbolgdccdnjeaaGreatDoor.Np
/-- What the lexer says of its tokens. -/
def TokR (t : Tok) : Prop := 0 ≤ t.n ∧ (t.kind = 1 → t.text.head? ≠ some 34 → t.text.all isDig = false)
theorem tokR_zero : TokR Tok.zero := ⟨Int.le_refl _, fun h => by simp [Tok.zero] at h⟩
theorem tokR_peek {r : List Tok} (h : ∀ t ∈ r, TokR t) : TokR (peekT r) := by
  cases r with
  | nil => exact tokR_zero
  | cons a r => exact h a (by simp)
theorem tokR_suf {r r' : List Tok} (h : ∀ t ∈ r, TokR t) (hs : r' <:+ r) : ∀ t ∈ r', TokR t := fun t ht => h t (hs.subset ht)
theorem any_word {r : List Tok} (h : ∀ t ∈ r, TokR t) (ha : isAny r = true) : (peekT r).text.all isDig = false := by
  unfold isAny at ha
  simp only [Bool.and_eq_true, beq_iff_eq, Bool.not_eq_true', beq_eq_false_iff_ne] at ha
  exact (tokR_peek h).2 ha.1 ha.2
theorem okDatum_valid {t : Int} {d : Datum} (h : okDatum t d = true) : validDatum (ruleOf t) d = true := by
  unfold okDatum validSet at h
  rw [Bool.and_eq_true] at h
  have := h.2
  unfold goodData at this
  rw [Bool.and_eq_true, Bool.and_eq_true] at this
  exact this.1.1
theorem pair_valid {r : Rule} {n m u : Int} (he : r.even = false) (h1 : validDatum r ⟨[], n, u⟩ = true) (h2 : validDatum r ⟨[], u, m⟩ = true) : validDatum r ⟨[], n, m⟩ = true := by
  unfold validDatum at *
  simp only [he, Bool.false_and, Bool.not_false, Bool.and_true, Bool.and_eq_true] at *
  exact ⟨⟨h1.1.1, h2.1.2⟩, h1.2⟩
theorem numR_ok {t : Int} {mk : Int → Datum} {r r' : List Tok} {n : Int} (h : numR t mk r = .ok n r') : okDatum t (mk n) = true := by
  unfold numR at h
  split at h
  · cases h
  · split at h
    · cases h
    · rename_i h2
      simp only [Res.ok.injEq] at h
      rw [← h.1]; exact bt h2
theorem typeR_bd (s : List UInt8) : 0 ≤ typeR s ∧ typeR s ≤ 7 := by
  unfold typeR
  split
  · rename_i i h
    have := (List.findIdx?_eq_some_iff_getElem.1 h).1
    simp [wordsT] at this
    omega
  · omega
/-- A datum of a type, such as can be written. -/
def DR (t : Int) (d : Datum) : Prop := validDatum (ruleOf t) d = true ∧ (t = 2 ∨ t = 3 → d.text.all isDig = false)
theorem host_valid {s : List UInt8} (h : (validName s && !isWild s) = true) {t : Int} (ht : t = 2 ∨ t = 3) : validDatum (ruleOf t) ⟨s, 0, 0⟩ = true := by
  rcases ht with rfl | rfl <;> simp [ruleOf, rules, validDatum, validText] <;> simpa using h
theorem readR_ok {t : Int} (h1 : 1 ≤ t) (h7 : t ≤ 7) {r r' : List Tok} {d : Datum} (hT : ∀ x ∈ r, TokR x) (h : readR t r = .ok d r') : DR t d := by
  unfold readR at h
  split at h
  · rename_i ht
    subst ht
    unfold addrR at h
    cases hh : numR 1 (fun n => ⟨[], n, 0⟩) r with
    | err e r1 => rw [hh] at h; cases h
    | ok n r1 =>
      rw [hh] at h
      simp only [Res.ok.injEq] at h
      rw [← h.1]
      exact ⟨okDatum_valid (numR_ok (mk := fun n => ⟨[], n, 0⟩) hh), fun h => by omega⟩
  · split at h
    · rename_i ht
      unfold hostR at h
      split at h
      · cases h
      · rename_i ha
        split at h
        · cases h
        · rename_i hv
          simp only [Res.ok.injEq] at h
          rw [← h.1]
          exact ⟨host_valid (bt hv) ht, fun _ => any_word hT (bt ha)⟩
    · rename_i ht2
      split at h
      · rename_i ht
        subst ht
        unfold textR at h
        split at h
        · cases h
        · rename_i hv
          simp only [Res.ok.injEq] at h
          rw [← h.1]
          exact ⟨okDatum_valid (bt hv), fun h => by omega⟩
      · have key : ∀ u, (ruleOf t).even = false → pairR t u r = .ok d r' → DR t d := by
          intro u he h
          unfold pairR at h
          cases hh : numR t (fun n => ⟨[], n, u⟩) r with
          | err e r1 => rw [hh] at h; cases h
          | ok n r1 =>
            rw [hh] at h
            dsimp only at h
            cases hh2 : numR t (fun m => ⟨[], u, m⟩) r1 with
            | err e r2 => rw [hh2] at h; cases h
            | ok m r2 =>
              rw [hh2] at h
              simp only [Res.ok.injEq] at h
              rw [← h.1]
              exact ⟨pair_valid he (okDatum_valid (numR_ok (mk := fun n => ⟨[], n, u⟩) hh)) (okDatum_valid (numR_ok (mk := fun m => ⟨[], u, m⟩) hh2)), fun h => by omega⟩
        split at h
        · rename_i ht; subst ht; exact key 0 rfl h
        · have : t = 6 ∨ t = 7 := by omega
          rcases this with rfl | rfl
          · exact key 1 rfl h
          · exact key 1 rfl h
theorem datumR_ok {t : Int} (h1 : 1 ≤ t) (h7 : t ≤ 7) {n : Nat} {r r' : List Tok} {d : Datum} (hT : ∀ x ∈ r, TokR x) (h : datumR t n r = .ok d r') : DR t d ∧ n < mostR t := by
  unfold datumR at h
  split at h
  · cases h
  · split at h
    · cases h
    · exact ⟨readR_ok h1 h7 hT h, by omega⟩
theorem dataR_ok {t : Int} (h1 : 1 ≤ t) (h7 : t ≤ 7) : ∀ (n : Nat) (acc l : List Datum) (r r' : List Tok), (∀ x ∈ r, TokR x) → dataR t n acc r = .ok l r' → (∀ d ∈ acc, DR t d) → acc.Nodup → acc.length ≤ mostR t →
    (∀ d ∈ l, DR t d) ∧ l.Nodup ∧ l.length ≤ mostR t ∧ 1 ≤ l.length
  | 0, _, _, _, _, _, h, _, _, _ => by cases h
  | n + 1, acc, l, r, r', hT, h, hA, hN, hL => by
    rw [dataR] at h
    have hf := datumR_fine t acc.length r
    cases hh : datumR t acc.length r with
    | err e r1 => rw [hh] at h; cases h
    | ok d r1 =>
      rw [hh] at h hf
      have hf : r1 <:+ r := hf
      obtain ⟨hd, hlt⟩ := datumR_ok h1 h7 hT hh
      dsimp only at h
      split at h
      · cases h
      · split at h
        · cases h
        · rename_i hnd
          have hA' : ∀ x ∈ acc ++ [d], DR t x := fun x hx => by
            rcases List.mem_append.1 hx with hx | hx
            · exact hA x hx
            · simp at hx; subst hx; exact hd
          have hN' : (acc ++ [d]).Nodup := List.nodup_append.2 ⟨hN, by simp, fun a ha b hb => by simp at hb; subst hb; intro e; subst e; exact hnd ha⟩
          have hL' : (acc ++ [d]).length ≤ mostR t := by simp; omega
          split at h
          · exact dataR_ok h1 h7 n _ l _ r' (tokR_suf hT ((suf_tail r1).trans hf)) h hA' hN' hL'
          · simp only [Res.ok.injEq] at h
            rw [← h.1]
            exact ⟨hA', hN', hL', by simp⟩
theorem goodData_of {r : Rule} : ∀ (ds : List Datum) (p : Option Datum), (∀ d ∈ ds, validDatum r d = true) → (p.toList ++ ds).Pairwise (fun a b => cmpD a b < 0) → goodData r p ds = true
  | [], _, _, _ => rfl
  | d :: ds, p, hv, hp => by
    unfold goodData
    rw [hv d (by simp), goodData_of ds (some d) (fun x hx => hv x (by simp [hx])) (by
      cases p with
      | none => exact hp
      | some q => exact (List.pairwise_cons.1 hp).2)]
    cases p with
    | none => rfl
    | some q =>
      have := (List.pairwise_cons.1 hp).1 d (by simp)
      simp [this]
theorem sorted_strict {α : Type} {c : α → α → Int} (hc : TO c) {l : List α} (hs : l.Pairwise fun a b => ¬ c b a < 0) (hn : l.Nodup) : l.Pairwise fun a b => c a b < 0 := by
  have := hs.and hn
  refine this.imp ?_
  intro a b ⟨h1, h2⟩
  rcases Int.lt_trichotomy (c a b) 0 with h | h | h
  · exact h
  · exact absurd (hc.zero _ _ h) h2
  · exact absurd (hc.anti' _ _ h) h1
theorem sortD_strict {l : List Datum} (hn : l.Nodup) : (sortD l).Pairwise fun a b => cmpD a b < 0 :=
  sorted_strict toD (sortD_sorted l) ((sortD_perm l).nodup_iff.2 hn)
/-- A set that was read, as it may be written. -/
def SR (apex : List UInt8) (s : DSet) : Prop := validName s.name = true ∧ underL s.name apex = true ∧ validSet s = true ∧ 1 ≤ s.type ∧ s.type ≤ 7 ∧ s.name.all isDig = false ∧ (s.type = 2 ∨ s.type = 3 → ∀ d ∈ s.data, d.text.all isDig = false)
theorem most_single {t : Int} (h1 : 1 ≤ t) (h7 : t ≤ 7) : mostR t ≤ 8 ∧ ((ruleOf t).single = true → mostR t = 1) := by
  have : t = 1 ∨ t = 2 ∨ t = 3 ∨ t = 4 ∨ t = 5 ∨ t = 6 ∨ t = 7 := by omega
  rcases this with rfl | rfl | rfl | rfl | rfl | rfl | rfl <;> simp [mostR, ruleOf, rules]
theorem wild_rule {t : Int} (h : t = 1 ∨ t = 5) : (ruleOf t).wild = true := by rcases h with rfl | rfl <;> rfl
theorem lifeR_ok {t : Int} {r r' : List Tok} {n : Int} (hT : ∀ x ∈ r, TokR x) (h : lifeR t r = .ok n r') : 0 ≤ n ∧ n ≤ 100000 := by
  unfold lifeR at h
  split at h
  · simp only [Res.ok.injEq] at h; omega
  · split at h
    · cases h
    · split at h
      · cases h
      · simp only [Res.ok.injEq] at h
        have := (tokR_peek (tokR_suf hT (suf_tail r))).1
        omega
theorem ownerR_ok {apex s : List UInt8} {r r' : List Tok} (hT : ∀ x ∈ r, TokR x) (ha : validName apex = true) (had : apex.all isDig = false) (h : ownerR apex r = .ok s r') : validName s = true ∧ underL s apex = true ∧ s.all isDig = false := by
  unfold ownerR at h
  split at h
  · simp only [Res.ok.injEq] at h
    rw [← h.1]
    exact ⟨ha, by simp [underL], had⟩
  · split at h
    · cases h
    · rename_i h1
      split at h
      · cases h
      · rename_i h2
        split at h
        · cases h
        · rename_i h3
          simp only [Res.ok.injEq] at h
          rw [← h.1]
          exact ⟨bt h2, bt h3, any_word hT (bt h1)⟩
theorem entryR_ok {apex : List UInt8} {sets : List (List UInt8 × Int)} {r r' : List Tok} {s : DSet} (hT : ∀ x ∈ r, TokR x) (ha : validName apex = true) (had : apex.all isDig = false) (h : entryR apex sets r = .ok s r') : SR apex s ∧ (s.name, s.type) ∉ sets := by
  unfold entryR at h
  have hf := ownerR_fine apex r
  cases hh : ownerR apex r with
  | err e r' => rw [hh] at h; cases h
  | ok s1 r1 =>
    obtain ⟨o1, o2, o3⟩ := ownerR_ok hT ha had hh
    rw [hh] at h hf
    have hf : r1 <:+ r := hf
    dsimp only at h
    split at h
    · cases h
    · split at h
      · cases h
      · rename_i hty
        have hbd := typeR_bd (peekT r1).text
        generalize typeR (peekT r1).text = t at *
        split at h
        · cases h
        · rename_i hwild
          split at h
          · cases h
          · rename_i hnew
            have hs1 := (suf_tail r1).trans hf
            have h3 := (lifeR_fine t r1.tail).up hs1
            cases hh2 : lifeR t r1.tail with
            | err e r' => rw [hh2] at h; cases h
            | ok life r2 =>
              rw [hh2] at h h3
              have h3 : r2 <:+ r := h3
              have hl := lifeR_ok (tokR_suf hT hs1) hh2
              dsimp only at h
              cases hh3 : dataR t 9 [] r2 with
              | err e r' => rw [hh3] at h; cases h
              | ok l r3 =>
                rw [hh3] at h
                simp only [Res.ok.injEq] at h
                obtain ⟨d1, d2, d3, d4⟩ := dataR_ok (by omega) (by omega) 9 [] l r2 r3 (tokR_suf hT h3) hh3 (by simp) (by simp) (by simp)
                obtain ⟨m1, m2⟩ := most_single (t := t) (by omega) (by omega)
                have hlen := (sortD_perm l).length_eq
                rw [← h.1]
                refine ⟨⟨o1, o2, ?_, by dsimp only; omega, by dsimp only; omega, o3, fun ht d hd => (d1 d ((sortD_perm l).mem_iff.1 hd)).2 ht⟩, hnew⟩
                unfold validSet
                dsimp only
                rw [o1, goodData_of (sortD l) none (fun d hd => (d1 d ((sortD_perm l).mem_iff.1 hd)).1) (sortD_strict d2), hlen]
                have hw : (isWild s1 && !(ruleOf t).wild) = false := by
                  cases hc : isWild s1 with
                  | false => rfl
                  | true =>
                    rw [hc] at hwild
                    simp only [Bool.true_and, Bool.and_eq_true, decide_eq_true_eq] at hwild
                    rw [wild_rule (by omega)]; rfl
                have hsg : ((ruleOf t).single && decide (l.length ≠ 1)) = false := by
                  cases hc : (ruleOf t).single with
                  | false => rfl
                  | true => have := m2 hc; simp; omega
                rw [hw, hsg]
                simp
                omega
theorem sortS_strict {l : List Signed} (hn : (l.map fun x => keyS x.set).Nodup) : ((sortS l).map (·.set)).Pairwise fun a b => cmpSet a b < 0 := by
  have h1 : ((sortS l).map fun x => keyS x.set).Pairwise fun a b => ¬ cmpKey b a < 0 := by
    rw [List.pairwise_map]
    exact (sortS_sorted l).imp (fun h => by rw [cmpSet_key] at h; exact h)
  have h2 := sorted_strict toKey h1 (((sortS_perm l).map _).nodup_iff.2 hn)
  rw [List.pairwise_map] at h2 ⊢
  exact h2.imp (fun h => by rw [cmpSet_key]; exact h)
theorem headerR_ok {known k' : List (List UInt8)} {r r' : List Tok} {a : List UInt8} (hT : ∀ x ∈ r, TokR x) (h : headerR known r = (k', .ok a r')) : validName a = true ∧ isWild a = false ∧ a ∉ known ∧ k' = a :: known ∧ a.all isDig = false := by
  unfold headerR at h
  split at h
  · cases h
  · split at h
    · cases h
    · rename_i h2
      split at h
      · cases h
      · rename_i h3
        split at h
        · cases h
        · rename_i h4
          split at h
          · cases h
          · simp only [Prod.mk.injEq, Res.ok.injEq] at h
            have h3 := bt h3
            rw [Bool.and_eq_true, Bool.not_eq_true'] at h3
            rw [← h.2.1, ← h.1]
            exact ⟨h3.1, h3.2, h4, rfl, any_word (tokR_suf hT (suf_tail r)) (bt h2)⟩
theorem body_suf (size : Int) (apex : List UInt8) : ∀ (n : Nat) (r : List Tok) (sets : List (List UInt8 × Int)) (acc : List Signed) (diags : List Diag), r.length ≤ n → (bodyR size apex sets acc diags r).2.2.2 <:+ r := by
  intro n
  induction n with
  | zero =>
    intro r sets acc diags hn
    have : r = [] := List.eq_nil_of_length_eq_zero (by omega)
    subst this
    have h1 : isS [125] ([] : List Tok) = false := rfl
    have hf := entryR_fine apex sets []
    rw [bodyR, h1, if_neg (by simp)]
    cases hh : entryR apex sets [] with
    | ok s r' => have := entryR_lt hh; simp at this
    | err e r' =>
      rw [hh] at hf
      have hr' : r' = [] := List.suffix_nil.1 hf.1
      subst hr'
      dsimp only
      split
      · exact List.suffix_refl _
      · rw [if_pos (by rfl)]; exact List.suffix_refl _
  | succ n ih =>
    intro r sets acc diags hn
    have hf := entryR_fine apex sets r
    rw [bodyR]
    split
    · exact suf_tail r
    · cases hh : entryR apex sets r with
      | ok s r' =>
        have hlt := entryR_lt hh
        rw [hh] at hf
        have hf : r' <:+ r := hf
        dsimp only
        rw [if_pos hlt]
        exact (ih r' _ _ _ (by omega)).trans hf
      | err e r' =>
        rw [hh] at hf
        have hsf := hf.1
        dsimp only
        split
        · exact hsf
        · split
          · exact List.nil_suffix
          · split
            · split
              · exact (ih _ _ _ _ (by omega)).trans ((suf_tail _).trans ((skipR_suf r').trans hsf))
              · exact hsf
            · split
              · exact (ih _ _ _ _ (by omega)).trans ((skipR_suf r').trans hsf)
              · exact hsf
end Go.Proofs.YtnbolgdccdnjeaaGreatDoor.Np
/- The parser does not look at the offsets of tokens: it hands them on. No program in sight. -/
namespace Go.Proofs.YtnbolgdccdnjeaaGreatDoor.Np
def mvT (f : Int → Int) (t : Tok) : Tok := { t with pos := f t.pos }
def mvL (f : Int → Int) (r : List Tok) : List Tok := r.map (mvT f)
def Res.mv {α : Type} (f : Int → Int) : Res α → Res α
  | .ok a r => .ok a (mvL f r)
  | .err e r => .err e (mvL f r)
theorem mvL_len (f : Int → Int) (r : List Tok) : (mvL f r).length = r.length := by simp [mvL]
theorem peek_kind (f : Int → Int) (r : List Tok) : (peekT (mvL f r)).kind = (peekT r).kind := by cases r <;> rfl
theorem peek_text (f : Int → Int) (r : List Tok) : (peekT (mvL f r)).text = (peekT r).text := by cases r <;> rfl
theorem peek_n (f : Int → Int) (r : List Tok) : (peekT (mvL f r)).n = (peekT r).n := by cases r <;> rfl
theorem tail_mv (f : Int → Int) (r : List Tok) : (mvL f r).tail = mvL f r.tail := by cases r <;> rfl
theorem isW_mv (f : Int → Int) (s : List UInt8) (r : List Tok) : isW s (mvL f r) = isW s r := by unfold isW; rw [peek_kind, peek_text]
theorem isS_mv (f : Int → Int) (s : List UInt8) (r : List Tok) : isS s (mvL f r) = isS s r := by unfold isS; rw [peek_kind, peek_text]
theorem isAny_mv (f : Int → Int) (r : List Tok) : isAny (mvL f r) = isAny r := by unfold isAny; rw [peek_kind, peek_text]
theorem isTxt_mv (f : Int → Int) (r : List Tok) : isTxt (mvL f r) = isTxt r := by unfold isTxt; rw [peek_kind, peek_text]
theorem isNum_mv (f : Int → Int) (r : List Tok) : isNum (mvL f r) = isNum r := by unfold isNum; rw [peek_kind]
theorem headerR_mv (f : Int → Int) (known : List (List UInt8)) (r : List Tok) : headerR known (mvL f r) = ((headerR known r).1, (headerR known r).2.mv f) := by
  unfold headerR
  simp only [tail_mv, isW_mv, isAny_mv, isS_mv, peek_text]
  repeat' (first | rfl | split)
theorem numR_mv (f : Int → Int) (t : Int) (mk : Int → Datum) (r : List Tok) : numR t mk (mvL f r) = (numR t mk r).mv f := by
  unfold numR
  simp only [tail_mv, isNum_mv, peek_n]
  repeat' (first | rfl | split)
theorem hostR_mv (f : Int → Int) (r : List Tok) : hostR (mvL f r) = (hostR r).mv f := by
  unfold hostR
  simp only [tail_mv, isAny_mv, peek_text]
  repeat' (first | rfl | split)
theorem textR_mv (f : Int → Int) (r : List Tok) : textR (mvL f r) = (textR r).mv f := by
  unfold textR
  simp only [tail_mv, peek_text]
  repeat' (first | rfl | split)
theorem pairR_mv (f : Int → Int) (t u : Int) (r : List Tok) : pairR t u (mvL f r) = (pairR t u r).mv f := by
  unfold pairR
  rw [numR_mv]
  cases numR t (fun n => ⟨[], n, u⟩) r with
  | err e r' => rfl
  | ok n r' =>
    simp only [Res.mv]
    rw [numR_mv]
    cases numR t (fun m => ⟨[], u, m⟩) r' with
    | err e r'' => rfl
    | ok m r'' => rfl
theorem addrR_mv (f : Int → Int) (r : List Tok) : addrR (mvL f r) = (addrR r).mv f := by
  unfold addrR
  rw [numR_mv]
  cases numR 1 (fun n => ⟨[], n, 0⟩) r with
  | err e r' => rfl
  | ok n r' => rfl
theorem readR_mv (f : Int → Int) (t : Int) (r : List Tok) : readR t (mvL f r) = (readR t r).mv f := by
  unfold readR
  simp only [addrR_mv, hostR_mv, textR_mv, pairR_mv]
  repeat' (first | rfl | split)
theorem firstR_mv (f : Int → Int) (t : Int) (r : List Tok) : firstR t (mvL f r) = firstR t r := by
  unfold firstR; rw [isAny_mv, isTxt_mv, isNum_mv]
theorem datumR_mv (f : Int → Int) (t : Int) (n : Nat) (r : List Tok) : datumR t n (mvL f r) = (datumR t n r).mv f := by
  unfold datumR
  simp only [firstR_mv, readR_mv]
  repeat' (first | rfl | split)
theorem dataR_mv (f : Int → Int) (t : Int) : ∀ (n : Nat) (acc : List Datum) (r : List Tok), dataR t n acc (mvL f r) = (dataR t n acc r).mv f
  | 0, _, _ => rfl
  | n + 1, acc, r => by
    rw [dataR, dataR, datumR_mv]
    cases datumR t acc.length r with
    | err e r' => rfl
    | ok d r' =>
      simp only [Res.mv, isS_mv, tail_mv, dataR_mv f t n]
      repeat' (first | rfl | split)
theorem ownerR_mv (f : Int → Int) (apex : List UInt8) (r : List Tok) : ownerR apex (mvL f r) = (ownerR apex r).mv f := by
  unfold ownerR
  simp only [tail_mv, isAny_mv, isS_mv, peek_text]
  repeat' (first | rfl | split)
theorem lifeR_mv (f : Int → Int) (t : Int) (r : List Tok) : lifeR t (mvL f r) = (lifeR t r).mv f := by
  unfold lifeR
  simp only [tail_mv, isW_mv, isNum_mv, peek_n]
  repeat' (first | rfl | split)
theorem entryR_mv (f : Int → Int) (apex : List UInt8) (sets : List (List UInt8 × Int)) (r : List Tok) : entryR apex sets (mvL f r) = (entryR apex sets r).mv f := by
  unfold entryR
  rw [ownerR_mv]
  cases ownerR apex r with
  | err e r' => rfl
  | ok s r1 =>
    simp only [Res.mv, isAny_mv, peek_text, tail_mv]
    split
    · rfl
    · split
      · rfl
      · split
        · rfl
        · split
          · rfl
          · rw [lifeR_mv]
            cases lifeR (typeR (peekT r1).text) r1.tail with
            | err e r' => rfl
            | ok life r2 =>
              simp only [Res.mv]
              rw [dataR_mv]
              cases dataR (typeR (peekT r1).text) 9 [] r2 with
              | err e r' => rfl
              | ok l r3 => rfl
theorem skipR_mv (f : Int → Int) : ∀ r : List Tok, skipR (mvL f r) = mvL f (skipR r)
  | [] => rfl
  | t :: r => by
    have h1 := isS_mv f [125] (t :: r)
    have h2 := isS_mv f [59] (t :: r)
    have ih := skipR_mv f r
    simp only [mvL, List.map_cons] at h1 h2 ih ⊢
    rw [skipR, skipR, h1, h2, ih]
    split <;> simp
end Go.Proofs.YtnbolgdccdnjeaaGreatDoor.Np
/- What is written is read again: the tokens of entries, zones, files. No program in sight. -/
namespace Go.Proofs.YtnbolgdccdnjeaaGreatDoor.Np
theorem name_head {s : List UInt8} (h : validName s = true) : (s.head? == some 34) = false := by
  rcases (name_form h).2 with rfl | ⟨c, r, rfl, hc, _⟩
  · decide
  · simp only [List.head?_cons, beq_eq_false_iff_ne, ne_eq, Option.some.injEq]
    intro e; subst e; revert hc; decide
theorem okDatum_of {t : Int} {d : Datum} (h1 : 1 ≤ t) (h7 : t ≤ 7) (h : validDatum (ruleOf t) d = true) : okDatum t d = true := by
  have ht : t = 1 ∨ t = 2 ∨ t = 3 ∨ t = 4 ∨ t = 5 ∨ t = 6 ∨ t = 7 := by omega
  have hn : validName [46] = true := rfl
  have hw : isWild [46] = false := rfl
  unfold okDatum validSet
  simp only [hn, hw, goodData, h]
  rcases ht with rfl | rfl | rfl | rfl | rfl | rfl | rfl <;> rfl
theorem num_reads {t : Int} {mk : Int → Datum} {n : Nat} {x : List Tok} (h : okDatum t (mk n) = true) : numR t mk (numTok n :: x) = .ok (n : Int) x := by
  unfold numR
  have h1 : isNum (numTok n :: x) = true := rfl
  have h2 : (peekT (numTok n :: x)).n = (n : Int) := rfl
  rw [h1, h2, if_neg (by simp), if_neg (by simp [h])]
  rfl
theorem toNat_eq {n : Int} (h : 0 ≤ n) : ((n.toNat : Nat) : Int) = n := Int.toNat_of_nonneg h
theorem pair_reads {t u : Int} {n m : Nat} {x : List Tok} (h1 : okDatum t ⟨[], n, u⟩ = true) (h2 : okDatum t ⟨[], u, m⟩ = true) : pairR t u (numTok n :: numTok m :: x) = .ok ⟨[], n, m⟩ x := by
  unfold pairR
  rw [num_reads (mk := fun n => ⟨[], n, u⟩) h1]
  dsimp only
  rw [num_reads (mk := fun m => ⟨[], u, m⟩) h2]
theorem inner_quote (s : List UInt8) : innerT (34 :: s ++ [34]) = s := by
  unfold innerT
  simp
theorem datum_reads {t : Int} {d : Datum} (h1 : 1 ≤ t) (h7 : t ≤ 7) (h : validDatum (ruleOf t) d = true) {n : Nat} (hn : n < mostR t) (x : List Tok) : datumR t n (datumToks t d ++ x) = .ok d x := by
  have ht : t = 1 ∨ t = 2 ∨ t = 3 ∨ t = 4 ∨ t = 5 ∨ t = 6 ∨ t = 7 := by omega
  have hok := okDatum_of h1 h7 h
  have hv := h
  unfold validDatum at hv
  simp only [Bool.and_eq_true, decide_eq_true_eq] at hv
  obtain ⟨⟨⟨⟨a1, a2⟩, a3, a4⟩, _⟩, hv⟩ := hv
  obtain ⟨tx, dn, dm⟩ := d
  dsimp only at *
  unfold datumR
  have hm : ¬ mostR t ≤ n := by omega
  rcases ht with rfl | rfl | rfl | rfl | rfl | rfl | rfl
  · simp only [ruleOf, rules] at a1 a2 a3 a4 hv
    obtain ⟨rfl, rfl⟩ : dm = 0 ∧ tx = [] := ⟨by simp at a3 a4; omega, by simpa [validText] using hv⟩
    have e0 := toNat_eq (n := dn) (by simp at a1; omega)
    have e1 : firstR 1 (datumToks 1 ⟨[], dn, 0⟩ ++ x) = true := rfl
    rw [e1, if_neg (by simp), if_neg hm]
    show addrR (numTok dn.toNat :: x) = _
    unfold addrR
    rw [num_reads (mk := fun n => ⟨[], n, 0⟩) (by rw [e0]; exact hok)]
    rw [e0]
  · simp only [ruleOf, rules] at a1 a2 a3 a4 hv
    obtain ⟨rfl, rfl⟩ : dn = 0 ∧ dm = 0 := ⟨by simp at a1 a2; omega, by simp at a3 a4; omega⟩
    have hv : validName tx = true ∧ isWild tx = false := by simpa [validText] using hv
    have e1 : isAny (wordTok tx :: x) = true := by simp [isAny, peekT, wordTok, name_head hv.1]
    have e2 : (peekT (wordTok tx :: x)).text = tx := rfl
    show (if firstR 2 (wordTok tx :: x) = false then _ else _) = _
    have e3 : firstR 2 (wordTok tx :: x) = true := by simp [firstR, e1]
    rw [e3, if_neg (by simp), if_neg hm]
    show hostR (wordTok tx :: x) = _
    unfold hostR
    rw [e1, e2, hv.1, hv.2, if_neg (by simp), if_neg (by simp)]
    rfl
  · simp only [ruleOf, rules] at a1 a2 a3 a4 hv
    obtain ⟨rfl, rfl⟩ : dn = 0 ∧ dm = 0 := ⟨by simp at a1 a2; omega, by simp at a3 a4; omega⟩
    have hv : validName tx = true ∧ isWild tx = false := by simpa [validText] using hv
    have e1 : isAny (wordTok tx :: x) = true := by simp [isAny, peekT, wordTok, name_head hv.1]
    have e2 : (peekT (wordTok tx :: x)).text = tx := rfl
    show (if firstR 3 (wordTok tx :: x) = false then _ else _) = _
    have e3 : firstR 3 (wordTok tx :: x) = true := by simp [firstR, e1]
    rw [e3, if_neg (by simp), if_neg hm]
    show hostR (wordTok tx :: x) = _
    unfold hostR
    rw [e1, e2, hv.1, hv.2, if_neg (by simp), if_neg (by simp)]
    rfl
  · simp only [ruleOf, rules] at a1 a2 a3 a4 hv
    obtain rfl : tx = [] := by simpa [validText] using hv
    have e0 := toNat_eq (n := dn) (by simp at a1; omega)
    have e9 := toNat_eq (n := dm) (by simp at a3; omega)
    have e1 : firstR 4 (datumToks 4 ⟨[], dn, dm⟩ ++ x) = true := rfl
    rw [e1, if_neg (by simp), if_neg hm]
    show pairR 4 0 (numTok dn.toNat :: numTok dm.toNat :: x) = _
    rw [pair_reads (by rw [e0]; exact okDatum_of h1 h7 (by simp [ruleOf, rules, validDatum, validText] at *; omega)) (by rw [e9]; exact okDatum_of h1 h7 (by simp [ruleOf, rules, validDatum, validText] at *; omega)), e0, e9]
  · simp only [ruleOf, rules] at a1 a2 a3 a4 hv
    obtain ⟨rfl, rfl⟩ : dn = 0 ∧ dm = 0 := ⟨by simp at a1 a2; omega, by simp at a3 a4; omega⟩
    have e1 : firstR 5 (datumToks 5 ⟨tx, 0, 0⟩ ++ x) = true := rfl
    have e2 : (peekT (wordTok (34 :: tx ++ [34]) :: x)).text = 34 :: tx ++ [34] := rfl
    rw [e1, if_neg (by simp), if_neg hm]
    show textR (wordTok (34 :: tx ++ [34]) :: x) = _
    unfold textR
    rw [e2, inner_quote, hok, if_neg (by simp)]
    rfl
  · simp only [ruleOf, rules] at a1 a2 a3 a4 hv
    obtain rfl : tx = [] := by simpa [validText] using hv
    have e0 := toNat_eq (n := dn) (by simp at a1; omega)
    have e9 := toNat_eq (n := dm) (by simp at a3; omega)
    have e1 : firstR 6 (datumToks 6 ⟨[], dn, dm⟩ ++ x) = true := rfl
    rw [e1, if_neg (by simp), if_neg hm]
    show pairR 6 1 (numTok dn.toNat :: numTok dm.toNat :: x) = _
    rw [pair_reads (by rw [e0]; exact okDatum_of h1 h7 (by simp [ruleOf, rules, validDatum, validText] at *; omega)) (by rw [e9]; exact okDatum_of h1 h7 (by simp [ruleOf, rules, validDatum, validText] at *; omega)), e0, e9]
  · simp only [ruleOf, rules] at a1 a2 a3 a4 hv
    obtain rfl : tx = [] := by simpa [validText] using hv
    have e0 := toNat_eq (n := dn) (by simp at a1; omega)
    have e9 := toNat_eq (n := dm) (by simp at a3; omega)
    have e1 : firstR 7 (datumToks 7 ⟨[], dn, dm⟩ ++ x) = true := rfl
    rw [e1, if_neg (by simp), if_neg hm]
    show pairR 7 1 (numTok dn.toNat :: numTok dm.toNat :: x) = _
    rw [pair_reads (by rw [e0]; exact okDatum_of h1 h7 (by simp [ruleOf, rules, validDatum, validText] at *; omega)) (by rw [e9]; exact okDatum_of h1 h7 (by simp [ruleOf, rules, validDatum, validText] at *; omega)), e0, e9]
theorem data_reads {t : Int} (h1 : 1 ≤ t) (h7 : t ≤ 7) (rest : List Tok) : ∀ (ds : List Datum) (n : Nat) (acc : List Datum), ds ≠ [] → ds.length ≤ n → (acc ++ ds).Nodup → (acc ++ ds).length ≤ mostR t → (∀ d ∈ ds, validDatum (ruleOf t) d = true) →
    dataR t n acc ((dataToks t ds).flatten ++ rest) = .ok (acc ++ ds) rest
  | [], _, _, h, _, _, _, _ => absurd rfl h
  | d :: ds, 0, _, _, h, _, _, _ => by simp at h
  | [d], n + 1, acc, _, _, hN, hL, hv => by
    rw [dataR]
    have e : (dataToks t [d]).flatten ++ rest = datumToks t d ++ (signTok 59 :: rest) := by simp [dataToks]
    rw [e, datum_reads h1 h7 (hv d (by simp)) (by simp at hL; omega)]
    have e1 : isS [44] (signTok 59 :: rest) = false := rfl
    have e2 : isS [59] (signTok 59 :: rest) = true := rfl
    have hnd : d ∉ acc := fun hd => by
      have := (List.nodup_append.1 hN).2.2 d hd d (by simp)
      exact this rfl
    dsimp only
    rw [e1, e2, if_neg (by simp), if_neg hnd, if_neg (by simp)]
    rfl
  | d :: e0 :: ds, n + 1, acc, _, hl, hN, hL, hv => by
    rw [dataR]
    have e : (dataToks t (d :: e0 :: ds)).flatten ++ rest = datumToks t d ++ (signTok 44 :: ((dataToks t (e0 :: ds)).flatten ++ rest)) := by simp [dataToks]
    rw [e, datum_reads h1 h7 (hv d (by simp)) (by simp at hL; omega)]
    generalize hX : (dataToks t (e0 :: ds)).flatten ++ rest = X
    have e1 : isS [44] (signTok 44 :: X) = true := rfl
    have hnd : d ∉ acc := fun hd => by
      have := (List.nodup_append.1 hN).2.2 d hd d (by simp)
      exact this rfl
    dsimp only
    rw [e1, if_neg (by simp), if_neg hnd, if_pos rfl]
    show dataR t n (acc ++ [d]) X = _
    rw [← hX, data_reads h1 h7 rest (e0 :: ds) n (acc ++ [d]) (by simp) (by simp at hl ⊢; omega) (by simpa using hN) (by simpa using hL) (fun x hx => hv x (List.mem_cons_of_mem _ hx))]
    simp
theorem strict_unique {α : Type} {R : α → α → Prop} (hR : ∀ a b, R a b → ¬ R b a) : ∀ (l m : List α), l.Pairwise R → m.Pairwise R → l.Perm m → l = m
  | [], m, _, _, h => (List.nil_perm.1 h).symm
  | a :: l, [], _, _, h => absurd h.length_eq (by simp)
  | a :: l, b :: m, hl, hm, h => by
    have ha : a ∈ b :: m := h.mem_iff.1 (by simp)
    have hb : b ∈ a :: l := h.mem_iff.2 (by simp)
    have e : a = b := by
      rcases List.mem_cons.1 ha with e | ha
      · exact e
      · rcases List.mem_cons.1 hb with e | hb
        · exact e.symm
        · exact absurd ((List.pairwise_cons.1 hm).1 a ha) (hR _ _ ((List.pairwise_cons.1 hl).1 b hb))
    subst e
    rw [strict_unique hR l m (List.pairwise_cons.1 hl).2 (List.pairwise_cons.1 hm).2 (List.perm_cons a |>.1 h)]
theorem strict_nodup {α : Type} {c : α → α → Int} (hc : TO c) {l : List α} (h : l.Pairwise fun a b => c a b < 0) : l.Nodup := h.imp (fun h e => by subst e; rw [hc.self] at h; omega)
theorem sortD_eq {ds l : List Datum} (hp : ds.Perm l) (hl : l.Pairwise fun a b => cmpD a b < 0) : sortD ds = l := by
  have hn : ds.Nodup := hp.nodup_iff.2 (strict_nodup toD hl)
  exact strict_unique (R := fun a b => cmpD a b < 0) (fun a b h h' => by have := toD.anti _ _ h; omega) _ _ (sortD_strict hn) hl ((sortD_perm ds).trans hp)
theorem sortS_eq {l m : List Signed} (hp : l.Perm m) (hm : (m.map (·.set)).Pairwise fun a b => cmpSet a b < 0) : sortS l = m := by
  have hm' : m.Pairwise fun a b => cmpSet a.set b.set < 0 := by rw [List.pairwise_map] at hm; exact hm
  have hk : (m.map fun x => keyS x.set).Nodup := by
    refine strict_nodup toKey ?_
    rw [List.pairwise_map]
    exact hm'.imp (fun h => by rw [cmpSet_key] at h; exact h)
  have hs := sortS_strict ((hp.map fun x => keyS x.set).nodup_iff.2 hk)
  rw [List.pairwise_map] at hs
  exact strict_unique (R := fun a b : Signed => cmpSet a.set b.set < 0) (fun a b h h' => by rw [cmpSet_key] at h h'; have := toKey.anti _ _ h; omega) _ _ hs hm' ((sortS_perm l).trans hp)
theorem goodData_strict {r : Rule} : ∀ (ds : List Datum) (p : Option Datum), goodData r p ds = true → (p.toList ++ ds).Pairwise (fun a b => cmpD a b < 0)
  | [], p, _ => by cases p <;> simp
  | d :: ds, p, h => by
    unfold goodData at h
    rw [Bool.and_eq_true, Bool.and_eq_true] at h
    have ih := goodData_strict ds (some d) h.2
    cases p with
    | none => exact ih
    | some q =>
      have h2 : cmpD q d < 0 := by simpa using h.1.2
      have ih : (d :: ds).Pairwise (fun a b => cmpD a b < 0) := ih
      refine List.pairwise_cons.2 ⟨fun x hx => ?_, ih⟩
      rcases List.mem_cons.1 hx with e | hx
      · subst e; exact h2
      · exact toD.trans _ _ _ h2 ((List.pairwise_cons.1 ih).1 x hx)
/-- The tokens of an entry: its owner, its type, what is said of its life, its data in some order. -/
def entToks (o : Tok) (lf : List Tok) (s : DSet) (ds : List Datum) : List Tok := o :: wordTok (wordOf s.type) :: (lf ++ (dataToks s.type ds).flatten)
structure EntOk (apex : List UInt8) (s : DSet) (o : Tok) (lf : List Tok) (ds : List Datum) : Prop where
  valid : validSet s = true
  under : underL s.name apex = true
  seven : s.type ≤ 7
  own : (o = signTok 64 ∧ s.name = apex) ∨ o = wordTok s.name
  life : (lf = [] ∧ s.life = 300) ∨ lf = [wordTok wLife, numTok s.life.toNat]
  perm : ds.Perm s.data
theorem type_reads {t : Int} (h1 : 1 ≤ t) (h7 : t ≤ 7) : typeR (wordOf t) = t ∧ ((wordOf t).head? == some 34) = false := by
  have ht : t = 1 ∨ t = 2 ∨ t = 3 ∨ t = 4 ∨ t = 5 ∨ t = 6 ∨ t = 7 := by omega
  rcases ht with rfl | rfl | rfl | rfl | rfl | rfl | rfl <;> decide
/-- What follows the lifetime: no word 'life' with a number behind it. -/
theorem data_not_life {t : Int} (h1 : 1 ≤ t) (h7 : t ≤ 7) {ds : List Datum} (hv : ∀ d ∈ ds, validDatum (ruleOf t) d = true) (rest : List Tok) (hne : ds ≠ []) : lifeR t ((dataToks t ds).flatten ++ rest) = .ok 300 ((dataToks t ds).flatten ++ rest) := by
  have ht : t = 1 ∨ t = 2 ∨ t = 3 ∨ t = 4 ∨ t = 5 ∨ t = 6 ∨ t = 7 := by omega
  unfold lifeR
  refine if_pos ?_
  cases ds with
  | nil => exact absurd rfl hne
  | cons d ds =>
    obtain ⟨c, u, hu⟩ : ∃ c u, (dataToks t (d :: ds)).flatten ++ rest = datumToks t d ++ signTok c :: u := by
      cases ds with
      | nil => exact ⟨59, rest, by simp [dataToks]⟩
      | cons e ds => exact ⟨44, (dataToks t (e :: ds)).flatten ++ rest, by simp [dataToks]⟩
    rw [hu]
    rcases ht with rfl | rfl | rfl | rfl | rfl | rfl | rfl
    · rfl
    · have : isNum (datumToks 2 d ++ signTok c :: u).tail = false := rfl
      rw [this]; simp
    · have : isNum (datumToks 3 d ++ signTok c :: u).tail = false := rfl
      rw [this]; simp
    · rfl
    · have : isW wLife (datumToks 5 d ++ signTok c :: u) = false := by
        simp [isW, datumToks, peekT, wordTok, wLife]
      rw [this]; rfl
    · rfl
    · rfl
theorem valid_more {s : DSet} (h : validSet s = true) : ((ruleOf s.type).single = true → s.data.length = 1) ∧ (isWild s.name = true → (ruleOf s.type).wild = true) := by
  unfold validSet at h
  simp only [Bool.and_eq_true, decide_eq_true_eq] at h
  obtain ⟨⟨⟨_, h6⟩, h7⟩, _⟩ := h
  refine ⟨fun e => ?_, fun e => ?_⟩
  · rw [e] at h6; simpa using h6
  · rw [e] at h7; simpa using h7
theorem entry_reads {apex : List UInt8} {sets : List (List UInt8 × Int)} {s : DSet} {o : Tok} {lf : List Tok} {ds : List Datum} (h : EntOk apex s o lf ds) (hk : (s.name, s.type) ∉ sets) (rest : List Tok) : entryR apex sets (entToks o lf s ds ++ rest) = .ok s rest := by
  obtain ⟨v1, v2, _, v3, v4, v5, v5', v8⟩ := valid_parts h.valid
  obtain ⟨v6, v7⟩ := valid_more h.valid
  have h7 := h.seven
  obtain ⟨t1, t2⟩ := type_reads v2 h7
  have hst := goodData_strict _ none v8
  have hst : s.data.Pairwise (fun a b => cmpD a b < 0) := hst
  have hds : ∀ d ∈ ds, validDatum (ruleOf s.type) d = true := fun d hd => goodData_all v8 d (h.perm.mem_iff.1 hd)
  have hnd : ds.Nodup := h.perm.nodup_iff.2 (strict_nodup toD hst)
  have hlen := h.perm.length_eq
  have hne : ds ≠ [] := fun e => by rw [e] at hlen; simp at hlen; omega
  have hmost : ds.length ≤ mostR s.type := by
    rw [hlen]
    have ht : s.type = 1 ∨ s.type = 2 ∨ s.type = 3 ∨ s.type = 4 ∨ s.type = 5 ∨ s.type = 6 ∨ s.type = 7 := by omega
    unfold mostR
    split
    · rename_i h34
      have : (ruleOf s.type).single = true := by rcases h34 with e | e <;> rw [e] <;> rfl
      have := v6 this
      omega
    · omega
  generalize hX : wordTok (wordOf s.type) :: (lf ++ (dataToks s.type ds).flatten) ++ rest = X
  have hX1 : isAny X = true := by rw [← hX]; simp [isAny, peekT, wordTok, t2]
  have hX2 : (peekT X).text = wordOf s.type := by rw [← hX]; rfl
  have hX3 : X.tail = lf ++ ((dataToks s.type ds).flatten ++ rest) := by rw [← hX]; simp
  have hown : ownerR apex (o :: X) = .ok s.name X := by
    unfold ownerR
    rcases h.own with ⟨rfl, e⟩ | rfl
    · have : isS [64] (signTok 64 :: X) = true := rfl
      rw [this, if_pos rfl, e]; rfl
    · have e1 : isS [64] (wordTok s.name :: X) = false := rfl
      have e2 : isAny (wordTok s.name :: X) = true := by simp [isAny, peekT, wordTok, name_head v1]
      have e3 : (peekT (wordTok s.name :: X)).text = s.name := rfl
      rw [e1, e2, e3, v1, h.under, if_neg (by simp), if_neg (by simp), if_neg (by simp), if_neg (by simp)]
      rfl
  have hlife : lifeR s.type X.tail = .ok s.life ((dataToks s.type ds).flatten ++ rest) := by
    rw [hX3]
    rcases h.life with ⟨rfl, e⟩ | rfl
    · rw [e, List.nil_append]; exact data_not_life v2 h7 hds rest hne
    · generalize (dataToks s.type ds).flatten ++ rest = Y
      have e1 : isW wLife ([wordTok wLife, numTok s.life.toNat] ++ Y) = true := rfl
      have e2 : isNum ([wordTok wLife, numTok s.life.toNat] ++ Y).tail = true := rfl
      have e3 : (peekT ([wordTok wLife, numTok s.life.toNat] ++ Y).tail).n = (s.life.toNat : Int) := rfl
      have e0 := toNat_eq v3
      unfold lifeR
      rw [e1, e2, e3, e0, if_neg (by simp), if_neg (by simp), if_neg (by omega)]
      rfl
  have e : entToks o lf s ds ++ rest = o :: X := by rw [← hX]; rfl
  rw [e, entryR, hown]
  dsimp only
  rw [hX1, hX2, t1, hlife]
  have hw : (isWild s.name && (decide (s.type ≠ 1) && decide (s.type ≠ 5))) = false := by
    cases hc : isWild s.name with
    | false => rfl
    | true =>
      have v7 := v7 hc
      have ht : s.type = 1 ∨ s.type = 2 ∨ s.type = 3 ∨ s.type = 4 ∨ s.type = 5 ∨ s.type = 6 ∨ s.type = 7 := by omega
      rcases ht with e | e | e | e | e | e | e <;> rw [e] at v7 ⊢ <;> first | rfl | (revert v7; decide)
  rw [if_neg (by simp), if_neg (by omega), hw, if_neg (by simp), if_neg hk]
  dsimp only
  rw [data_reads v2 h7 rest ds 9 [] hne (by omega) (by simpa using hnd) (by simpa using hmost) hds, List.nil_append]
  dsimp only
  rw [sortD_eq h.perm hst]
theorem ent_head {apex : List UInt8} {s : DSet} {o : Tok} {lf : List Tok} {ds : List Datum} (h : EntOk apex s o lf ds) (rest : List Tok) : isS [125] (entToks o lf s ds ++ rest) = false := by
  rcases h.own with ⟨rfl, _⟩ | rfl <;> rfl
/-! ### The same at any offsets -/
def zc : Int → Int := fun _ => 0
theorem mvL_core (r : List Tok) : mvL zc r = r.map core := rfl
theorem mvL_app (f : Int → Int) (a b : List Tok) : mvL f (a ++ b) = mvL f a ++ mvL f b := by simp [mvL]
theorem suf_same {r a b : List Tok} (h1 : a <:+ r) (h2 : b <:+ r) (h : a.length = b.length) : a = b := by
  obtain ⟨u, hu⟩ := h1
  obtain ⟨v, hv⟩ := h2
  exact (List.append_inj' (hu.trans hv.symm) h).2
/-- A reader that reads an entry's tokens at offset 0 reads them at any. -/
theorem entry_reads_at {apex : List UInt8} {sets : List (List UInt8 × Int)} {s : DSet} {ts ts0 rest : List Tok} (hc : ts.map core = ts0.map core) (h : ∀ rest, entryR apex sets (ts0 ++ rest) = .ok s rest) : entryR apex sets (ts ++ rest) = .ok s rest := by
  have h1 := entryR_mv zc apex sets (ts ++ rest)
  have h2 := entryR_mv zc apex sets (ts0 ++ rest)
  rw [h] at h2
  rw [mvL_app, mvL_core, mvL_core, hc, ← mvL_core ts0, ← mvL_core rest, ← mvL_app, h2] at h1
  have hf := entryR_fine apex sets (ts ++ rest)
  cases hh : entryR apex sets (ts ++ rest) with
  | err e r' => rw [hh] at h1; cases h1
  | ok s' r' =>
    rw [hh] at h1 hf
    simp only [Res.mv, Res.ok.injEq] at h1
    have hl : r'.length = rest.length := by have := congrArg List.length h1.2; simpa [mvL] using this.symm
    rw [suf_same hf (List.suffix_append ts rest) hl, ← h1.1]
/-- Entries one after the other. -/
def keysR (l : List Signed) (sets : List (List UInt8 × Int)) : List (List UInt8 × Int) := (l.map fun x => (x.set.name, x.set.type)).reverse ++ sets
theorem isS_core {s : List UInt8} {ts ts0 rest : List Tok} (hc : ts.map core = ts0.map core) : isS s (ts ++ rest) = isS s (ts0 ++ rest) := by
  rw [← isS_mv zc, ← isS_mv zc s (ts0 ++ rest), mvL_app, mvL_app, mvL_core ts, mvL_core ts0, hc]
structure Ent (apex : List UInt8) (x : Signed) (ts : List Tok) : Prop where
  sigs : x.sigs = []
  ent : ∃ o lf ds, EntOk apex x.set o lf ds ∧ ts.map core = (entToks o lf x.set ds).map core
theorem Ent.lt {apex : List UInt8} {x : Signed} {ts : List Tok} (h : Ent apex x ts) : 2 ≤ ts.length := by
  obtain ⟨o, lf, ds, _, e⟩ := h.ent
  have := congrArg List.length e
  simp [entToks] at this; omega
theorem body_reads {size : Int} {apex : List UInt8} (diags : List Diag) (rest : List Tok) : ∀ (l : List Signed) (tss : List (List Tok)) (sets : List (List UInt8 × Int)) (acc : List Signed), l.length = tss.length → (∀ (i : Nat) x ts, l[i]? = some x → tss[i]? = some ts → Ent apex x ts) →
    (l.map fun x => (x.set.name, x.set.type)).Nodup → (∀ x ∈ l, (x.set.name, x.set.type) ∉ sets) →
    bodyR size apex sets acc diags (tss.flatten ++ rest) = bodyR size apex (keysR l sets) (acc ++ l) diags rest
  | [], tss, sets, acc, hl, _, _, _ => by
    have : tss = [] := List.eq_nil_of_length_eq_zero hl.symm
    subst this
    simp [keysR]
  | x :: l, [], _, _, hl, _, _, _ => by simp at hl
  | x :: l, ts :: tss, sets, acc, hl, h, hN, hS => by
    have hx := h 0 x ts rfl rfl
    obtain ⟨o, lf, ds, he, hc⟩ := hx.ent
    have hlt := hx.lt
    rw [List.flatten_cons, List.append_assoc, bodyR, isS_core hc, ent_head he, if_neg (by simp), entry_reads_at hc (fun r => entry_reads he (hS x (by simp)) r)]
    dsimp only
    rw [if_pos (by simp; omega)]
    rw [List.map_cons, List.nodup_cons] at hN
    rw [body_reads diags rest l tss _ _ (by simpa using hl) (fun i y u hy hu => h (i + 1) y u hy hu) hN.2 (fun y hy => by
      rw [List.mem_cons, not_or]
      refine ⟨fun e => hN.1 ?_, hS y (List.mem_cons_of_mem _ hy)⟩
      rw [← e]; exact List.mem_map_of_mem (f := fun x : Signed => (x.set.name, x.set.type)) hy)]
    have hxe : ({ set := x.set, sigs := [] } : Signed) = x := by have h9 := hx.sigs; obtain ⟨a, b⟩ := x; dsimp only at h9 ⊢; rw [h9]
    rw [hxe]
    simp [keysR]
theorem header_reads {known : List (List UInt8)} {apex : List UInt8} (hv : validName apex = true) (hw : isWild apex = false) (hk : apex ∉ known) (rest : List Tok) : headerR known (wordTok wZone :: wordTok apex :: signTok 123 :: rest) = (apex :: known, .ok apex rest) := by
  unfold headerR
  have e1 : isW wZone (wordTok wZone :: wordTok apex :: signTok 123 :: rest) = true := rfl
  have e2 : isAny (wordTok wZone :: wordTok apex :: signTok 123 :: rest).tail = true := by simp [isAny, peekT, wordTok, name_head hv]
  have e3 : (peekT (wordTok wZone :: wordTok apex :: signTok 123 :: rest).tail).text = apex := rfl
  have e4 : isS [123] (wordTok wZone :: wordTok apex :: signTok 123 :: rest).tail.tail = true := rfl
  rw [e1, e2, e3, e4, hv, hw, if_neg (by simp), if_neg (by simp), if_neg (by simp), if_neg hk, if_neg (by simp)]
  rfl
theorem header_reads_at {known : List (List UInt8)} {apex : List UInt8} (hv : validName apex = true) (hw : isWild apex = false) (hk : apex ∉ known) {ts rest : List Tok} (hc : ts.map core = [wordTok wZone, wordTok apex, signTok 123]) : headerR known (ts ++ rest) = (apex :: known, .ok apex rest) := by
  have h1 := headerR_mv zc known (ts ++ rest)
  have h2 := header_reads hv hw hk (mvL zc rest)
  have e : mvL zc (ts ++ rest) = wordTok wZone :: wordTok apex :: signTok 123 :: mvL zc rest := by rw [mvL_app, mvL_core ts, hc]; rfl
  rw [e, h2] at h1
  have hf := headerR_fine known (ts ++ rest)
  rcases hh : headerR known (ts ++ rest) with ⟨k', x⟩
  rw [hh] at h1 hf
  cases x with
  | err e r' => simp [Res.mv] at h1
  | ok a r' =>
    simp only [Res.mv, Prod.mk.injEq, Res.ok.injEq] at h1
    have hl : r'.length = rest.length := by have := congrArg List.length h1.2.2; simpa [mvL] using this.symm
    rw [suf_same hf (List.suffix_append ts rest) hl, ← h1.1, ← h1.2.1]
/-- A zone's tokens, at any offsets. -/
structure ZoneT (z : Zone) (ts : List Tok) : Prop where
  valid : validName z.apex = true
  wild : isWild z.apex = false
  parts : ∃ (hd : List Tok) (tss : List (List Tok)) (e : Tok) (l : List Signed), ts = hd ++ (tss.flatten ++ [e]) ∧ hd.map core = [wordTok wZone, wordTok z.apex, signTok 123] ∧ core e = signTok 125 ∧ l.length = tss.length ∧
    (∀ (i : Nat) x u, l[i]? = some x → tss[i]? = some u → Ent z.apex x u) ∧ (l.map fun x => (x.set.name, x.set.type)).Nodup ∧ sortS l = z.sets
theorem zone_body {size : Int} {z : Zone} {tss : List (List Tok)} {e : Tok} {l : List Signed} (he : core e = signTok 125) (hl : l.length = tss.length) (hE : ∀ (i : Nat) x u, l[i]? = some x → tss[i]? = some u → Ent z.apex x u) (hN : (l.map fun x => (x.set.name, x.set.type)).Nodup) (rest : List Tok) (diags : List Diag) :
    bodyR size z.apex [] [] diags (tss.flatten ++ e :: rest) = (true, sortS l, diags, rest) := by
  rw [body_reads diags (e :: rest) l tss [] [] hl hE hN (by simp), bodyR]
  have : isS [125] (e :: rest) = true := by
    have h := isS_core (s := [125]) (ts := [e]) (ts0 := [signTok 125]) (rest := rest) (by simp [he]; rfl)
    rw [List.singleton_append] at h
    rw [h]; rfl
  rw [this, if_pos rfl]
  rfl
theorem file_reads {size : Int} (rest : List Tok) (diags : List Diag) : ∀ (zs : List Zone) (tss : List (List Tok)) (known : List (List UInt8)) (acc : List Zone), zs.length = tss.length → (∀ (i : Nat) z u, zs[i]? = some z → tss[i]? = some u → ZoneT z u) → (zs.map (·.apex)).Nodup → (∀ z ∈ zs, z.apex ∉ known) →
    fileR size known acc diags (tss.flatten ++ rest) = fileR size ((zs.map (·.apex)).reverse ++ known) (acc ++ zs) diags rest
  | [], tss, known, acc, hl, _, _, _ => by
    have : tss = [] := List.eq_nil_of_length_eq_zero hl.symm
    subst this
    simp
  | z :: zs, [], _, _, hl, _, _, _ => by simp at hl
  | z :: zs, ts :: tss, known, acc, hl, h, hN, hK => by
    obtain ⟨h1, h2, hd, ess, e, l, rfl, h4, h5, h6, h7, h8, h9⟩ := h 0 z ts rfl rfl
    have hne : hd ≠ [] := fun e => by rw [e] at h4; simp at h4
    have hhl : hd.length = 3 := by have := congrArg List.length h4; simpa using this
    rw [List.map_cons, List.nodup_cons] at hN
    have hne2 : hd ++ (ess.flatten ++ [e]) ++ tss.flatten ++ rest ≠ [] := by simp [hne]
    rw [List.flatten_cons, fileR, if_neg hne2]
    have ea : hd ++ (ess.flatten ++ [e]) ++ tss.flatten ++ rest = hd ++ (ess.flatten ++ e :: (tss.flatten ++ rest)) := by simp
    rw [ea, header_reads_at h1 h2 (hK z (by simp)) h4]
    dsimp only
    rw [zone_body (size := size) (z := z) h5 h6 h7 h8 (tss.flatten ++ rest) diags]
    dsimp only
    rw [if_pos (by simp; omega), h9]
    have hz : ({ apex := z.apex, sets := z.sets } : Zone) = z := by cases z; rfl
    rw [hz, file_reads rest diags zs tss (z.apex :: known) (acc ++ [z]) (by simpa using hl) (fun i y u hy hu => h (i + 1) y u hy hu) hN.2 (fun y hy => by
      rw [List.mem_cons, not_or]
      exact ⟨fun e => hN.1 (e ▸ List.mem_map_of_mem (f := fun z : Zone => z.apex) hy), hK y (List.mem_cons_of_mem _ hy)⟩)]
    simp
theorem core_split {ts a b : List Tok} (h : ts.map core = (a ++ b).map core) : ∃ u v, ts = u ++ v ∧ u.map core = a.map core ∧ v.map core = b.map core := by
  rw [List.map_append] at h
  obtain ⟨u, v, e, h1, h2⟩ := List.map_eq_append_iff.1 h
  exact ⟨u, v, e, h1, h2⟩
theorem core_flat {α : Type} (g : α → List Tok) : ∀ (l : List α) (ts : List Tok), ts.map core = (l.flatMap g).map core → ∃ tss : List (List Tok), ts = tss.flatten ∧ tss.length = l.length ∧ ∀ (i : Nat) x u, l[i]? = some x → tss[i]? = some u → u.map core = (g x).map core
  | [], ts, h => ⟨[], by simpa using h, rfl, fun i x u h => by simp at h⟩
  | x :: l, ts, h => by
    rw [List.flatMap_cons] at h
    obtain ⟨u, v, rfl, h1, h2⟩ := core_split h
    obtain ⟨tss, rfl, h4, h5⟩ := core_flat g l v h2
    refine ⟨u :: tss, rfl, by simp [h4], fun i y w hy hw => ?_⟩
    cases i with
    | zero => simp at hy hw; subst hy; subst hw; exact h1
    | succ i => exact h5 i y w hy hw
end Go.Proofs.YtnbolgdccdnjeaaGreatDoor.Np
/- The plain laws of the parser: what it reads, and gaps. No program in sight. -/
namespace Go.Proofs.YtnbolgdccdnjeaaGreatDoor.Np
theorem tokOf_R {c : UInt8} {s : List UInt8} (hs : s.head? = some c) (h : (tokOf (cls c) s).1 = 0) : TokR (tokOf (cls c) s).2 := by
  unfold tokOf at h ⊢
  split
  · exact ⟨Int.le_refl _, fun h => by simp at h⟩
  · rename_i h7
    rw [if_neg h7] at h
    split
    · rename_i h6
      rw [if_pos h6] at h
      split
      · rename_i h42; rw [if_pos h42] at h; simp at h
      · refine ⟨Int.le_refl _, fun _ hne => ?_⟩
        have : c = 34 := by
          unfold cls at h6
          repeat' (split at h6 <;> try omega)
          all_goals assumption
        exact absurd (by rw [hs, this]) hne
    · rename_i h6
      rw [if_neg h6] at h
      split
      · rename_i hd
        rw [if_pos hd] at h
        split
        · rename_i h60; rw [if_pos h60] at h; simp at h
        · exact ⟨Int.le_refl _, fun _ _ => hd⟩
      · rename_i hd
        rw [if_neg hd] at h
        split
        · rename_i h1; rw [if_pos h1] at h; simp at h
        · rename_i h1
          rw [if_neg h1] at h
          split
          · rename_i h2; rw [if_pos h2] at h; simp at h
          · exact ⟨by dsimp only; omega, fun h => by simp at h⟩
theorem lex_inc : ∀ (n : Nat) (s : List UInt8) (p k : Nat), s.length ≤ n → k ≤ 2000 → ((lexFrom s p k).1.Pairwise fun a b => a.pos < b.pos) ∧ ∀ t ∈ (lexFrom s p k).1, TokR t := by
  intro n
  induction n with
  | zero =>
    intro s p k hn hk
    have : s = [] := List.eq_nil_of_length_eq_zero (by omega)
    subst this
    simp [lexFrom]
  | succ n ih =>
    intro s p k hn hk
    cases s with
    | nil => simp [lexFrom]
    | cons c r =>
      have hle := width_le (c :: r)
      by_cases hg : cls c = 1 ∨ cls c = 2
      · have hw := width_gap (r := r) hg
        rw [lexFrom_gap p k hg]
        exact ih _ _ k (by simp at hn ⊢; omega) hk
      · by_cases h0 : width (c :: r) = 0
        · rw [lexFrom_bad p k hg h0]; simp
        · by_cases hk2 : k = 2000
          · subst hk2
            rw [lexFrom_limit p hg h0]; simp
          · by_cases he : (tokOf (cls c) ((c :: r).take (width (c :: r)))).1 = 0
            · rw [lexFrom_tok p k hg h0 hk2 he]
              obtain ⟨i1, i2⟩ := ih ((c :: r).drop (width (c :: r))) (p + width (c :: r)) (k + 1) (by simp at hn ⊢; omega) (by omega)
              have hpl := (lex_place _ ((c :: r).drop (width (c :: r))) (p + width (c :: r)) (k + 1) (Nat.le_refl _) (by omega)).1
              refine ⟨List.pairwise_cons.2 ⟨fun t ht => ?_, i1⟩, fun t ht => ?_⟩
              · have := (hpl t ht).1; dsimp only; omega
              · rcases List.mem_cons.1 ht with rfl | ht
                · have hhd : ((c :: r).take (width (c :: r))).head? = some c := by
                    obtain ⟨m, hm⟩ : ∃ m, width (c :: r) = m + 1 := ⟨width (c :: r) - 1, by omega⟩
                    rw [hm]; rfl
                  exact tokOf_R hhd he
                · exact i2 t ht
            · rw [lexFrom_err p k hg h0 hk2 he]; simp
theorem lex_placed {s : List UInt8} {l : List Tok} {q : Nat} (h : lex s = (l, 0, q)) : Placed s.length l ∧ (∀ t ∈ l, TokR t) ∧ l.length ≤ 2000 ∧ s.length ≤ 8000 := by
  obtain ⟨h8, h⟩ := lex_ok h
  have h1 := lex_inc _ s 0 0 (Nat.le_refl _) (by omega)
  have h2 := lex_place _ s 0 0 (Nat.le_refl _) (by omega)
  rw [h] at h1 h2
  dsimp only at h1 h2
  exact ⟨⟨h1.1, fun t ht => by have := h2.1 t ht; omega⟩, h1.2, by have := h2.2.2.1; omega, h8⟩
theorem parse_of {s : List UInt8} {ts : List Tok} {q : Nat} (h : lex s = (ts, 0, q)) : parse s = if (fileR s.length [] [] [] ts).2 = [] then ((fileR s.length [] [] [] ts).1, []) else ([], (fileR s.length [] [] [] ts).2) := by
  unfold parse; rw [h]; simp
theorem parse_bad {s : List UInt8} (h : (lex s).2.1 ≠ 0) : parse s = ([], [⟨(lex s).2.1, (lex s).2.2⟩]) := by
  unfold parse; rw [if_pos h]
end Go.Proofs.YtnbolgdccdnjeaaGreatDoor.Np
