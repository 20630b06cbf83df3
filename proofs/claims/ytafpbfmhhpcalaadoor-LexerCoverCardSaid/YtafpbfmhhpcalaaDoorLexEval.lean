/- The lexer, by fuel: so that examples can be computed. -/
import Derived.Test.YtafpbfmhhpcalaaDoorLexSpec
namespace Go.Proofs.YtafpbfmhhpcalaaDoor.Np
def lexN : Nat → List UInt8 → Nat → Nat → List Tok × Int × Nat
  | 0, _, _, _ => ([], 0, 0)
  | _ + 1, [], _, _ => ([], 0, 0)
  | f + 1, c :: r, p, k =>
    if cls c = 1 ∨ cls c = 2 then lexN f (r.drop (width (c :: r) - 1)) (p + width (c :: r)) k
    else if width (c :: r) = 0 then ([], 10, p)
    else if k = 2000 then ([], 2, p)
    else if (tokOf (cls c) ((c :: r).take (width (c :: r)))).1 ≠ 0 then ([], (tokOf (cls c) ((c :: r).take (width (c :: r)))).1, p)
    else ({ (tokOf (cls c) ((c :: r).take (width (c :: r)))).2 with pos := p } :: (lexN f (r.drop (width (c :: r) - 1)) (p + width (c :: r)) (k + 1)).1, (lexN f (r.drop (width (c :: r) - 1)) (p + width (c :: r)) (k + 1)).2)
theorem lexN_eq : ∀ (f : Nat) (l : List UInt8) (p k : Nat), l.length < f → lexN f l p k = lexFrom l p k
  | 0, _, _, _, h => by omega
  | f + 1, [], _, _, _ => by rw [lexN, lexFrom]
  | f + 1, c :: r, p, k, h => by
    simp only [List.length_cons] at h
    rw [lexN, lexFrom, lexN_eq f (r.drop (width (c :: r) - 1)) _ k (by simp; omega), lexN_eq f (r.drop (width (c :: r) - 1)) _ (k + 1) (by simp; omega)]
theorem lex_eval {s : List UInt8} {x : List Tok × Int × Nat} (h8 : s.length ≤ 8000) (h : lexN (s.length + 1) s 0 0 = x) : lex s = if x.2.1 = 0 then (x.1, 0, 0) else ([], x.2) := by
  rw [lexN_eq _ _ _ _ (by omega)] at h
  rw [lex, if_neg (by omega), h]
theorem ex1 : lex [122, 111, 110, 101, 32, 120, 46, 32, 123, 32, 64, 32, 116, 101, 120, 116, 32, 34, 97, 32, 98, 34, 59, 32, 125] =
    ([⟨1, [122, 111, 110, 101], 0, 0⟩, ⟨1, [120, 46], 0, 5⟩, ⟨3, [123], 0, 8⟩, ⟨3, [64], 0, 10⟩, ⟨1, [116, 101, 120, 116], 0, 12⟩, ⟨1, [34, 97, 32, 98, 34], 0, 17⟩, ⟨3, [59], 0, 22⟩, ⟨3, [125], 0, 24⟩], 0, 0) :=
  lex_eval (x := ([⟨1, [122, 111, 110, 101], 0, 0⟩, ⟨1, [120, 46], 0, 5⟩, ⟨3, [123], 0, 8⟩, ⟨3, [64], 0, 10⟩, ⟨1, [116, 101, 120, 116], 0, 12⟩, ⟨1, [34, 97, 32, 98, 34], 0, 17⟩, ⟨3, [59], 0, 22⟩, ⟨3, [125], 0, 24⟩], 0, 0)) (by decide) (by decide +kernel)
theorem ex2 : lex [48, 97, 32, 55, 32, 35, 32, 56, 10, 46, 32, 42, 46, 97] = ([⟨1, [48, 97], 0, 0⟩, ⟨2, [], 7, 3⟩, ⟨1, [46], 0, 9⟩, ⟨1, [42, 46, 97], 0, 11⟩], 0, 0) := lex_eval (x := ([⟨1, [48, 97], 0, 0⟩, ⟨2, [], 7, 3⟩, ⟨1, [46], 0, 9⟩, ⟨1, [42, 46, 97], 0, 11⟩], 0, 0)) (by decide) (by decide +kernel)
theorem ex3 : lex [45, 97] = ([], 10, 0) := lex_eval (x := ([], 10, 0)) (by decide) (by decide +kernel)
theorem ex4 : lex [32, 46, 97] = ([], 10, 1) := lex_eval (x := ([], 10, 1)) (by decide) (by decide +kernel)
theorem ex5 : lex [97, 32, 48, 49] = ([], 10, 2) := lex_eval (x := ([⟨1, [97], 0, 0⟩], 10, 2)) (by decide) (by decide +kernel)
theorem ex6 : lex [49, 48, 48, 48, 48, 48, 48, 48, 48, 49] = ([], 3, 0) := lex_eval (x := ([], 3, 0)) (by decide) (by decide +kernel)
theorem ex7 : lex [34, 34] = ([], 10, 0) := lex_eval (x := ([], 10, 0)) (by decide) (by decide +kernel)
end Go.Proofs.YtafpbfmhhpcalaaDoor.Np
