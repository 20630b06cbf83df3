/- The lexer, plain: the first error. -/
import Derived.Test.YtafpbfmhhpcalaaDoorLexPlain
namespace Go.Proofs.YtafpbfmhhpcalaaDoor.Np
theorem lex_err {s : List UInt8} {m : List Tok} {f : Int} {p : Nat} (h : lex s = (m, f, p)) (h0 : f ≠ 0) (h2 : f ≠ 2) : s.length ≤ 8000 ∧ m = [] ∧ (lexFrom s 0 0).2 = (f, p) ∧ (lexFrom s 0 0).1.length < s.length ∧ ∃ c, s[p]? = some c ∧ c ≠ 10 := by
  unfold lex at h
  split at h
  · cases h; exact absurd rfl h2
  · rename_i h8
    split at h
    · cases h; exact absurd rfl h0
    · rename_i he
      have h4 := (lex_place s.length s 0 0 (Nat.le_refl _) (by omega)).2.2.2.1 he
      simp only [Prod.mk.injEq] at h
      obtain ⟨rfl, h⟩ := h
      rw [h] at h4
      exact ⟨by omega, rfl, h, h4.1, by simpa using h4.2.2⟩
/-- The first error, behind a source without one, and whatever follows its line. -/
theorem lex_errors {a line c x : List UInt8} {l m : List Tok} {q p : Nat} {f : Int} (ha : lex a = (l, 0, q)) (hb : lex (line ++ x) = (m, f, p)) (hx : Fresh x) (h0 : f ≠ 0) (h2 : f ≠ 2) (hp : p < line.length)
    (h8 : a.length + 1 + line.length + 1 + c.length ≤ 8000) (hk : l.length + line.length ≤ 2000) : lex (a ++ 10 :: (line ++ 10 :: c)) = ([], f, a.length + 1 + p) := by
  obtain ⟨_, ha⟩ := lex_ok ha
  obtain ⟨_, _, hb, _, _⟩ := lex_err hb h0 h2
  have hs := lex_split line.length line x 0 0 (Nat.le_refl _) hx
  have hle : (lexFrom line 0 0).2 = (f, p) ∧ (lexFrom line 0 0).2.1 ≠ 0 := by
    by_cases he : (lexFrom line 0 0).2.1 = 0
    · exfalso
      rw [if_pos he] at hs
      rw [hs] at hb
      simp only [addTo] at hb
      have h4 := (lex_place x.length x (0 + line.length) (0 + (lexFrom line 0 0).1.length) (Nat.le_refl _) (by have := (lex_place line.length line 0 0 (Nat.le_refl _) (by omega)).2.2.1; omega)).2.2.2.1
      rw [hb] at h4
      have := (h4 h0).2.1
      simp at this
      omega
    · rw [if_neg he] at hs
      rw [hs] at hb
      exact ⟨hb, he⟩
  have hpl := lex_place line.length line 0 0 (Nat.le_refl _) (by omega)
  have hlt := (hpl.2.2.2.1 hle.2).1
  have hm := lex_move line.length line 0 (a.length + 1) 0 l.length (Nat.le_refl _) (by omega) (by rw [hle.1]; exact h2) (fun _ => by omega)
  rw [hle.1] at hm
  have e1 : lexFrom (a ++ 10 :: (line ++ 10 :: c)) 0 0 = addTo l ((lexFrom line 0 0).1.map (shift (a.length + 1 : Nat)), f, p + (a.length + 1)) := by
    rw [lex_split a.length a (10 :: (line ++ 10 :: c)) 0 0 (Nat.le_refl _) (.inr rfl), ha]
    simp only [if_true, Nat.zero_add]
    rw [lexFrom_gap a.length l.length (c := 10) (r := line ++ 10 :: c) (.inl (by decide)), show width (10 :: (line ++ 10 :: c)) = 1 from rfl]
    simp only [List.drop_succ_cons, List.drop_zero]
    rw [lex_split line.length line (10 :: c) (a.length + 1) l.length (Nat.le_refl _) (.inr rfl)]
    rw [Nat.zero_add] at hm
    rw [hm]
    simp [h0]
  unfold lex
  rw [if_neg (by simp; omega), e1]
  simp [addTo, h0]
  omega
end Go.Proofs.YtafpbfmhhpcalaaDoor.Np
