/- Joined by program from: ParJoin, ParJoin2, LexEval, ParEval. No condition. -/
import Derived.Test.YtnbolgdccdnjeaaGreatDoorPB
import Derived.Test.YtnbolgdccdnjeaaGreatDoorPA
/- The plain law of two files, one after the other. No program in sight. -/
namespace Go.Proofs.YtnbolgdccdnjeaaGreatDoor.Np
end Go.Proofs.YtnbolgdccdnjeaaGreatDoor.Np
/- The plain law of two files, one after the other: diagnostics. No program in sight. -/
namespace Go.Proofs.YtnbolgdccdnjeaaGreatDoor.Np
end Go.Proofs.YtnbolgdccdnjeaaGreatDoor.Np
/- The lexer, by fuel: so that examples can be computed. -/
namespace Go.Proofs.YtnbolgdccdnjeaaGreatDoor.Np
def lexN : Nat → List UInt8 → Nat → Nat → List Tok × Int × Nat
  | 0, _, _, _ => ([], 0, 0)
  | _ + 1, [], _, _ => ([], 0, 0)
  | f + 1, c :: r, p, k =>
    if cls c = 1 ∨ cls c = 2 then lexN f (r.drop (width (c :: r) - 1)) (p + width (c :: r)) k
    else if width (c :: r) = 0 then ([], 10, p)
    else if k = 2000 then ([], 2, p)
    else if (tokOf (cls c) ((c :: r).take (width (c :: r)))).1 ≠ 0 then ([], (tokOf (cls c) ((c :: r).take (width (c :: r)))).1, p)
    else ({ (tokOf (cls c) ((c :: r).take (width (c :: r)))).2 with pos := p } :: (lexN f (r.drop (width (c :: r) - 1)) (p + width (c :: r)) (k + 1)).1, (lexN f (r.drop (width (c :: r) - 1)) (p + width (c :: r)) (k + 1)).2)
theorem lexN_eq : ∀ (f : Nat) (l : List UInt8) (p k : Nat), l.length < f → lexN f l p k = lexFrom l p k
  | 0, _, _, _, h => by omega
  | f + 1, [], _, _, _ => by rw [lexN, lexFrom]
  | f + 1, c :: r, p, k, h => by
    simp only [List.length_cons] at h
    rw [lexN, lexFrom, lexN_eq f (r.drop (width (c :: r) - 1)) _ k (by simp; omega), lexN_eq f (r.drop (width (c :: r) - 1)) _ (k + 1) (by simp; omega)]
theorem lex_eval {s : List UInt8} {x : List Tok × Int × Nat} (h8 : s.length ≤ 8000) (h : lexN (s.length + 1) s 0 0 = x) : lex s = if x.2.1 = 0 then (x.1, 0, 0) else ([], x.2) := by
  rw [lexN_eq _ _ _ _ (by omega)] at h
  rw [lex, if_neg (by omega), h]
end Go.Proofs.YtnbolgdccdnjeaaGreatDoor.Np
/- The parser, by fuel: so that examples can be computed; sorted lists are one alone. No program in sight. -/
namespace Go.Proofs.YtnbolgdccdnjeaaGreatDoor.Np
theorem TO.tie {α : Type} {c : α → α → Int} (h : TO c) {a b : α} (h1 : ¬ c b a < 0) (h2 : ¬ c a b < 0) : a = b := by
  refine h.zero a b ?_
  by_cases h3 : 0 < c a b
  · exact absurd (h.anti' _ _ h3) h1
  · omega
theorem sorted_unique {α : Type} {le : α → α → Prop} : ∀ {l1 l2 : List α}, (∀ a ∈ l1, ∀ b ∈ l1, le a b → le b a → a = b) → l1.Pairwise le → l2.Pairwise le → l1.Perm l2 → l1 = l2
  | [], l2, _, _, _, hp => hp.nil_eq
  | a :: l1, l2, ha, h1, h2, hp => by
    cases l2 with
    | nil => exact absurd hp.length_eq (by simp)
    | cons b l2 =>
      have hab : a = b := by
        have hb : b ∈ a :: l1 := hp.mem_iff.2 (by simp)
        have ha2 : a ∈ b :: l2 := hp.mem_iff.1 (by simp)
        rcases List.mem_cons.1 hb with e | hb1
        · exact e.symm
        · rcases List.mem_cons.1 ha2 with e | ha1
          · exact e
          · exact ha a (by simp) b hb ((List.pairwise_cons.1 h1).1 b hb1) ((List.pairwise_cons.1 h2).1 a ha1)
      subst hab
      rw [sorted_unique (fun x hx y hy => ha x (List.mem_cons_of_mem _ hx) y (List.mem_cons_of_mem _ hy)) (List.pairwise_cons.1 h1).2 (List.pairwise_cons.1 h2).2 (List.Perm.cons_inv hp)]
theorem sortD_unique {l l' : List Datum} (hp : l.Perm l') (hs : l.Pairwise fun a b => ¬ cmpD b a < 0) : sortD l' = l :=
  (sorted_unique (fun _ _ _ _ h1 h2 => toD.tie h1 h2) hs (sortD_sorted l') (hp.trans (sortD_perm l').symm)).symm
theorem strict_le {α : Type} {c : α → α → Int} (h : TO c) {a b : α} (hab : c a b < 0) : ¬ c b a < 0 := by have := h.anti _ _ hab; omega
theorem sortS_unique {l l' : List Signed} (hp : l.Perm l') (hs : l.Pairwise fun a b => cmpSet a.set b.set < 0) : sortS l' = l := by
  have hle : l.Pairwise fun a b => ¬ cmpSet b.set a.set < 0 := hs.imp fun hab => by
    rw [cmpSet_key] at hab ⊢
    exact strict_le toKey hab
  refine (sorted_unique (fun a ha b hb h1 h2 => ?_) hle (sortS_sorted l') (hp.trans (sortS_perm l').symm)).symm
  rw [cmpSet_key] at h1 h2
  have he := toKey.tie h1 h2
  obtain ⟨i, hi, rfl⟩ := List.mem_iff_getElem.1 ha
  obtain ⟨j, hj, rfl⟩ := List.mem_iff_getElem.1 hb
  have hp := List.pairwise_iff_getElem.1 hs
  rcases Nat.lt_trichotomy i j with hl | hl | hl
  · have := hp i j hi hj hl
    rw [cmpSet_key, he, toKey.self] at this
    omega
  · subst hl; rfl
  · have := hp j i hj hi hl
    rw [cmpSet_key, he, toKey.self] at this
    omega
/-! ### By fuel -/
def insD (d : Datum) : List Datum → List Datum
  | [] => [d]
  | x :: l => if cmpD d x < 0 then d :: x :: l else x :: insD d l
def isortD (l : List Datum) : List Datum := l.foldr insD []
theorem insD_perm (d : Datum) : ∀ l, (insD d l).Perm (d :: l)
  | [] => List.Perm.refl _
  | x :: l => by
    unfold insD
    split
    · exact List.Perm.refl _
    · exact (List.Perm.cons x (insD_perm d l)).trans (List.Perm.swap _ _ _)
theorem insD_sorted (d : Datum) : ∀ l, l.Pairwise (fun a b => ¬ cmpD b a < 0) → (insD d l).Pairwise fun a b => ¬ cmpD b a < 0
  | [], _ => by simp [insD]
  | x :: l, h => by
    unfold insD
    obtain ⟨h1, h2⟩ := List.pairwise_cons.1 h
    split
    · rename_i hlt
      refine List.pairwise_cons.2 ⟨fun y hy => ?_, h⟩
      rcases List.mem_cons.1 hy with e | hy
      · subst e; exact strict_le toD hlt
      · intro hc
        exact h1 y hy (toD.trans _ _ _ hc hlt)
    · rename_i hlt
      refine List.pairwise_cons.2 ⟨fun y hy => ?_, insD_sorted d l h2⟩
      rcases List.mem_cons.1 ((insD_perm d l).mem_iff.1 hy) with e | hy
      · subst e; exact hlt
      · exact h1 y hy
theorem isortD_eq (l : List Datum) : sortD l = isortD l := by
  refine sortD_unique ?_ ?_
  · induction l with
    | nil => exact List.Perm.refl _
    | cons a l ih => exact (insD_perm a _).trans (List.Perm.cons a ih)
  · induction l with
    | nil => exact List.Pairwise.nil
    | cons a l ih => exact insD_sorted a _ ih
def entryE (apex : List UInt8) (sets : List (List UInt8 × Int)) (r : List Tok) : Res DSet :=
  match ownerR apex r with
  | .err e r' => .err e r'
  | .ok s r1 =>
    if isAny r1 = false then .err 10 r1
    else if typeR (peekT r1).text = 0 then .err 10 r1
    else if (isWild s && (decide (typeR (peekT r1).text ≠ 1) && decide (typeR (peekT r1).text ≠ 5))) = true then .err 12 r1
    else if (s, typeR (peekT r1).text) ∈ sets then .err 5 r1
    else match lifeR (typeR (peekT r1).text) r1.tail with
      | .err e r' => .err e r'
      | .ok life r2 => match dataR (typeR (peekT r1).text) 9 [] r2 with
        | .err e r' => .err e r'
        | .ok l r3 => .ok ⟨s, typeR (peekT r1).text, life, isortD l⟩ r3
theorem entryE_eq (apex : List UInt8) (sets : List (List UInt8 × Int)) (r : List Tok) : entryR apex sets r = entryE apex sets r := by
  have h : sortD = isortD := funext isortD_eq
  unfold entryR
  rw [h]
  rfl
def bodyE (size : Int) (apex : List UInt8) : Nat → List (List UInt8 × Int) → List Signed → List Diag → List Tok → Bool × List Signed × List Diag × List Tok
  | 0, _, acc, ds, r => (false, acc, ds, r)
  | f + 1, sets, acc, ds, r =>
    if isS [125] r = true then (true, acc, ds, r.tail)
    else match entryE apex sets r with
      | .ok s r' => if r'.length < r.length then bodyE size apex f ((s.name, s.type) :: sets) (acc ++ [⟨s, []⟩]) ds r' else (false, acc, ds, r')
      | .err e r' =>
        if 20 ≤ (ds ++ [Diag.mk e (posT size r')]).length then (false, acc, ds ++ [⟨e, posT size r'⟩], r')
        else if skipR r' = [] then (false, acc, ds ++ [⟨e, posT size r'⟩], [])
        else if isS [59] (skipR r') = true then (if (skipR r').tail.length < r.length then bodyE size apex f sets acc (ds ++ [⟨e, posT size r'⟩]) (skipR r').tail else (false, acc, ds, r'))
        else (if (skipR r').length < r.length then bodyE size apex f sets acc (ds ++ [⟨e, posT size r'⟩]) (skipR r') else (false, acc, ds, r'))
theorem bodyE_eq (size : Int) (apex : List UInt8) : ∀ (f : Nat) (sets : List (List UInt8 × Int)) (acc : List Signed) (ds : List Diag) (r : List Tok), r.length < f →
    bodyR size apex sets acc ds r = ((bodyE size apex f sets acc ds r).1, (if (bodyE size apex f sets acc ds r).1 = true then sortS (bodyE size apex f sets acc ds r).2.1 else (bodyE size apex f sets acc ds r).2.1), (bodyE size apex f sets acc ds r).2.2) := by
  intro f
  induction f with
  | zero => intro sets acc ds r h; omega
  | succ f ih =>
    intro sets acc ds r h
    rw [bodyR, bodyE, entryE_eq]
    split
    · rfl
    · cases hh : entryE apex sets r with
      | ok s r' =>
        dsimp only
        split
        · exact ih _ _ _ _ (by omega)
        · rfl
      | err e r' =>
        dsimp only
        split
        · rfl
        · split
          · rfl
          · split
            · split
              · exact ih _ _ _ _ (by omega)
              · rfl
            · split
              · exact ih _ _ _ _ (by omega)
              · rfl
/-- The examples of layer 4. -/
def pex1 : List UInt8 := [122, 111, 110, 101, 32, 120, 32, 123, 32, 64, 32, 115, 116, 97, 114, 116, 32, 49, 32, 54, 48, 59, 32, 64, 32, 115, 101, 114, 118, 101, 114, 32, 97, 46, 110, 115, 59, 32, 98, 46, 120, 32, 97, 100, 100, 114, 32, 55, 44, 32, 51, 59, 32, 125]
def pex2 : List UInt8 := [122, 111, 110, 101, 32, 120, 32, 123, 32, 121, 32, 97, 100, 100, 114, 32, 49, 59, 32, 98, 46, 120, 32, 97, 100, 100, 114, 32, 48, 59, 32, 64, 32, 97, 108, 105, 97, 115, 32, 97, 44, 32, 98, 59, 32, 125]
def pexS1 : Signed := ⟨⟨[120], 2, 300, [⟨[97, 46, 110, 115], 0, 0⟩]⟩, []⟩
def pexS2 : Signed := ⟨⟨[120], 4, 300, [⟨[], 1, 60⟩]⟩, []⟩
def pexS3 : Signed := ⟨⟨[98, 46, 120], 1, 300, [⟨[], 3, 0⟩, ⟨[], 7, 0⟩]⟩, []⟩
def pexZ : Zone := ⟨[120], [pexS1, pexS2, pexS3]⟩
theorem fileR_one {size : Int} {a : List UInt8} {r r' : List Tok} {K : List (List UInt8)} {S : List Signed} {ds : List Diag} (hne : r ≠ []) (hh : headerR [] r = (K, .ok a r')) (hb : bodyR size a [] [] [] r' = (true, S, ds, [])) : fileR size [] [] [] r = ([⟨a, S⟩], ds) := by
  have hlt := headerR_lt hh
  rw [fileR, if_neg hne, hh]
  dsimp only
  rw [hb]
  dsimp only
  rw [if_pos (by simp; omega), fileR, if_pos rfl]
  rfl
def ptk1 : List Tok := [⟨1, [122, 111, 110, 101], 0, 0⟩, ⟨1, [120], 0, 5⟩, ⟨3, [123], 0, 7⟩, ⟨3, [64], 0, 9⟩, ⟨1, [115, 116, 97, 114, 116], 0, 11⟩, ⟨2, [], 1, 17⟩, ⟨2, [], 60, 19⟩, ⟨3, [59], 0, 21⟩, ⟨3, [64], 0, 23⟩, ⟨1, [115, 101, 114, 118, 101, 114], 0, 25⟩, ⟨1, [97, 46, 110, 115], 0, 32⟩, ⟨3, [59], 0, 36⟩, ⟨1, [98, 46, 120], 0, 38⟩, ⟨1, [97, 100, 100, 114], 0, 42⟩, ⟨2, [], 7, 47⟩, ⟨3, [44], 0, 48⟩, ⟨2, [], 3, 50⟩, ⟨3, [59], 0, 51⟩, ⟨3, [125], 0, 53⟩]
def ptk2 : List Tok := [⟨1, [122, 111, 110, 101], 0, 0⟩, ⟨1, [120], 0, 5⟩, ⟨3, [123], 0, 7⟩, ⟨1, [121], 0, 9⟩, ⟨1, [97, 100, 100, 114], 0, 11⟩, ⟨2, [], 1, 16⟩, ⟨3, [59], 0, 17⟩, ⟨1, [98, 46, 120], 0, 19⟩, ⟨1, [97, 100, 100, 114], 0, 23⟩, ⟨2, [], 0, 28⟩, ⟨3, [59], 0, 29⟩, ⟨3, [64], 0, 31⟩, ⟨1, [97, 108, 105, 97, 115], 0, 33⟩, ⟨1, [97], 0, 39⟩, ⟨3, [44], 0, 40⟩, ⟨1, [98], 0, 42⟩, ⟨3, [59], 0, 43⟩, ⟨3, [125], 0, 45⟩]
theorem parse_ex1 : parse pex1 = ([pexZ], []) := by
  have hl : lex pex1 = (ptk1, 0, 0) := lex_eval (x := (ptk1, 0, 0)) (by decide) (by decide +kernel)
  have hb : bodyR 54 [120] [] [] [] (ptk1.drop 3) = (true, [pexS1, pexS2, pexS3], [], []) := by
    rw [bodyE_eq 54 [120] 20 [] [] [] (ptk1.drop 3) (by decide), show bodyE 54 [120] 20 [] [] [] (ptk1.drop 3) = (true, [pexS2, pexS1, pexS3], [], []) by decide +kernel]
    dsimp only
    rw [if_pos rfl, sortS_unique (l := [pexS1, pexS2, pexS3]) (by decide +kernel) (by decide +kernel)]
  have hf := fileR_one (r := ptk1) (r' := ptk1.drop 3) (K := [[120]]) (by decide) (by decide +kernel) hb
  unfold parse
  rw [hl]
  have h54 : ((pex1.length : Nat) : Int) = 54 := by decide
  rw [h54]
  dsimp only
  rw [hf]
  rfl
theorem parse_ex2 : parse pex2 = ([], [⟨20, 9⟩, ⟨3, 28⟩, ⟨2, 42⟩]) := by
  have hl : lex pex2 = (ptk2, 0, 0) := lex_eval (x := (ptk2, 0, 0)) (by decide) (by decide +kernel)
  have hb : bodyR 46 [120] [] [] [] (ptk2.drop 3) = (true, [], [⟨20, 9⟩, ⟨3, 28⟩, ⟨2, 42⟩], []) := by
    rw [bodyE_eq 46 [120] 20 [] [] [] (ptk2.drop 3) (by decide), show bodyE 46 [120] 20 [] [] [] (ptk2.drop 3) = (true, [], [⟨20, 9⟩, ⟨3, 28⟩, ⟨2, 42⟩], []) by decide +kernel]
    dsimp only
    rw [if_pos rfl, sortS_unique (l := []) (by decide +kernel) (by decide +kernel)]
  have hf := fileR_one (r := ptk2) (r' := ptk2.drop 3) (K := [[120]]) (by decide) (by decide +kernel) hb
  unfold parse
  rw [hl]
  have h46 : ((pex2.length : Nat) : Int) = 46 := by decide
  rw [h46]
  dsimp only
  rw [hf]
  rfl
theorem parse_ex0 : parse [] = ([], []) := by
  have hl : lex [] = ([], 0, 0) := lex_eval (x := ([], 0, 0)) (by decide) (by decide +kernel)
  unfold parse
  rw [hl]
  simp [fileR]
end Go.Proofs.YtnbolgdccdnjeaaGreatDoor.Np
