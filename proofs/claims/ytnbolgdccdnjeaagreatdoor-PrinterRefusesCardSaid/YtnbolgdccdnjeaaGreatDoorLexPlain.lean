/- The lexer, plain: sources one behind the other. -/
import Derived.Test.YtnbolgdccdnjeaaGreatDoorLexSpec
namespace Go.Proofs.YtnbolgdccdnjeaaGreatDoor.Np
def addTo (ts : List Tok) (x : List Tok × Int × Nat) : List Tok × Int × Nat := (ts ++ x.1, x.2)
/-- Nothing, or a line feed first. -/
def Fresh (x : List UInt8) : Prop := x = [] ∨ x.head? = some 10
theorem takeWhile_app {p : UInt8 → Bool} (u x : List UInt8) (hx : x = [] ∨ ∃ c r, x = c :: r ∧ p c = false) : (u ++ x).takeWhile p = u.takeWhile p := by
  induction u with
  | nil =>
    rcases hx with rfl | ⟨c, r, rfl, h⟩
    · rfl
    · simp [h]
  | cons a u ih => rw [List.cons_append, List.takeWhile_cons, List.takeWhile_cons, ih]
theorem fresh_stop {p : UInt8 → Bool} (hp : p 10 = false) {x : List UInt8} (h : Fresh x) : x = [] ∨ ∃ c r, x = c :: r ∧ p c = false := by
  rcases h with h | h
  · exact .inl h
  · cases x with
    | nil => cases h
    | cons c r => simp at h; subst h; exact .inr ⟨_, _, rfl, hp⟩
theorem isRun10 : isRun 10 = false := by decide
theorem quoteW_app (r x : List UInt8) (h : Fresh x) : quoteW (r ++ x) = quoteW r := by
  have ht : (r ++ x).takeWhile inText = r.takeWhile inText := takeWhile_app r x (fresh_stop (by decide) h)
  unfold quoteW
  rw [ht]
  have hle : (r.takeWhile inText).length ≤ r.length := takeWhile_le r
  generalize (r.takeWhile inText).length = i at *
  rcases Nat.lt_or_ge i r.length with hlt | hge
  · rw [List.getElem?_append_left hlt]
  · have hi : i = r.length := by omega
    subst hi
    rw [List.getElem?_append_right (Nat.le_refl _), List.getElem?_eq_none (Nat.le_refl _), Nat.sub_self]
    rcases h with rfl | h
    · simp
    · cases x with
      | nil => cases h
      | cons c r => simp at h; subst h; simp
theorem width_app (c : UInt8) (u x : List UInt8) (h : Fresh x) : width (c :: (u ++ x)) = width (c :: u) := by
  have e : c :: (u ++ x) = (c :: u) ++ x := rfl
  rw [width, width]
  split
  · rfl
  · rw [e, takeWhile_app (c :: u) x (fresh_stop (by decide) h)]
  · rw [e, takeWhile_app (c :: u) x (fresh_stop isRun10 h)]
  · rw [e, takeWhile_app (c :: u) x (fresh_stop isRun10 h)]
  · exact quoteW_app u x h
  · rfl
  · rfl
/-- What comes first is split as if it stood alone. -/
theorem lex_split : ∀ (n : Nat) (u x : List UInt8) (p k : Nat), u.length ≤ n → Fresh x →
    lexFrom (u ++ x) p k = if (lexFrom u p k).2.1 = 0 then addTo (lexFrom u p k).1 (lexFrom x (p + u.length) (k + (lexFrom u p k).1.length)) else lexFrom u p k := by
  intro n
  induction n with
  | zero =>
    intro u x p k hn hx
    have : u = [] := List.eq_nil_of_length_eq_zero (by omega)
    subst this
    simp [lexFrom, addTo]
  | succ n ih =>
    intro u x p k hn hx
    cases u with
    | nil => simp [lexFrom, addTo]
    | cons c u =>
      have hw := width_app c u x hx
      have hle := width_le (c :: u)
      rw [List.cons_append]
      have hdrop : (c :: (u ++ x)).drop (width (c :: u)) = (c :: u).drop (width (c :: u)) ++ x := by
        rw [show c :: (u ++ x) = (c :: u) ++ x from rfl, List.drop_append_of_le_length hle]
      have htake : (c :: (u ++ x)).take (width (c :: u)) = (c :: u).take (width (c :: u)) := by
        rw [show c :: (u ++ x) = (c :: u) ++ x from rfl, List.take_append_of_le_length hle]
      by_cases hg : cls c = 1 ∨ cls c = 2
      · have h1 := width_gap (r := u) hg
        rw [lexFrom_gap p k hg, lexFrom_gap p k hg, hw, hdrop, ih _ x _ k (by simp at hn ⊢; omega) hx]
        simp only [List.length_drop, List.length_cons]
        rw [show p + width (c :: u) + (u.length + 1 - width (c :: u)) = p + (u.length + 1) by simp at hle; omega]
      · by_cases h0 : width (c :: u) = 0
        · rw [lexFrom_bad p k hg (by rw [hw]; exact h0), lexFrom_bad p k hg h0]
          simp
        · by_cases hk : k = 2000
          · subst hk
            rw [lexFrom_limit p hg (by rw [hw]; exact h0), lexFrom_limit p hg h0]
            simp
          · by_cases he : (tokOf (cls c) ((c :: u).take (width (c :: u)))).1 = 0
            · rw [lexFrom_tok p k hg (by rw [hw]; exact h0) hk (by rw [hw, htake]; exact he), lexFrom_tok p k hg h0 hk he, hw, hdrop, htake, ih _ x _ (k + 1) (by simp at hn ⊢; omega) hx]
              simp only [List.length_drop, List.length_cons]
              by_cases hr : (lexFrom ((c :: u).drop (width (c :: u))) (p + width (c :: u)) (k + 1)).2.1 = 0
              · rw [if_pos hr, if_pos hr]
                simp only [addTo, List.cons_append]
                rw [show p + width (c :: u) + (u.length + 1 - width (c :: u)) = p + (u.length + 1) by simp at hle; omega]
                rw [show k + 1 + (lexFrom ((c :: u).drop (width (c :: u))) (p + width (c :: u)) (k + 1)).1.length = k + ((lexFrom ((c :: u).drop (width (c :: u))) (p + width (c :: u)) (k + 1)).1.length + 1) by omega]
              · rw [if_neg hr, if_neg hr]
            · rw [lexFrom_err p k hg (by rw [hw]; exact h0) hk (by rw [hw, htake]; exact he), lexFrom_err p k hg h0 hk he, hw, htake]
              simp [he]
/-- Tokens further on. -/
def shift (b : Int) (t : Tok) : Tok := { t with pos := t.pos + b }
/-- Where a source stands, and how many tokens were before it, does not matter, but for the limit. -/
theorem lex_move : ∀ (n : Nat) (s : List UInt8) (p d k k' : Nat), s.length ≤ n → k' + (lexFrom s p k).1.length ≤ 2000 → (lexFrom s p k).2.1 ≠ 2 → ((lexFrom s p k).2.1 ≠ 0 → k' + (lexFrom s p k).1.length < 2000) →
    lexFrom s (p + d) k' = ((lexFrom s p k).1.map (shift d), (lexFrom s p k).2.1, if (lexFrom s p k).2.1 = 0 then 0 else (lexFrom s p k).2.2 + d) := by
  intro n
  induction n with
  | zero =>
    intro s p d k k' hn _ _ _
    have : s = [] := List.eq_nil_of_length_eq_zero (by omega)
    subst this
    simp [lexFrom]
  | succ n ih =>
    intro s p d k k' hn h1 h2 h3
    cases s with
    | nil => simp [lexFrom]
    | cons c r =>
      have hle := width_le (c :: r)
      by_cases hg : cls c = 1 ∨ cls c = 2
      · have hw := width_gap (r := r) hg
        rw [lexFrom_gap p k hg] at h1 h2 h3 ⊢
        rw [lexFrom_gap (p + d) k' hg, show p + d + width (c :: r) = p + width (c :: r) + d by omega]
        exact ih _ _ d k k' (by simp at hn ⊢; omega) h1 h2 h3
      · by_cases h0 : width (c :: r) = 0
        · rw [lexFrom_bad p k hg h0, lexFrom_bad (p + d) k' hg h0]; simp
        · by_cases hk : k = 2000
          · subst hk
            rw [lexFrom_limit p hg h0] at h2
            exact absurd rfl h2
          · by_cases he : (tokOf (cls c) ((c :: r).take (width (c :: r)))).1 = 0
            · rw [lexFrom_tok p k hg h0 hk he] at h1 h2 h3 ⊢
              simp only [List.length_cons] at h1 h3
              have hk' : k' ≠ 2000 := by omega
              rw [lexFrom_tok (p + d) k' hg h0 hk' he, show p + d + width (c :: r) = p + width (c :: r) + d by omega]
              rw [ih _ _ d (k + 1) (k' + 1) (by simp at hn ⊢; omega) (by omega) h2 (fun h => by have := h3 h; omega)]
              simp [shift]
            · rw [lexFrom_err p k hg h0 hk he] at h1 h2 h3 ⊢
              have hk' : k' ≠ 2000 := by have := h3 he; simp at this; omega
              rw [lexFrom_err (p + d) k' hg h0 hk' he]
              simp [he]
/-- Where tokens lie, and errors. -/
theorem lex_place : ∀ (n : Nat) (s : List UInt8) (p k : Nat), s.length ≤ n → k ≤ 2000 →
    (∀ t ∈ (lexFrom s p k).1, (p : Int) ≤ t.pos ∧ t.pos < p + s.length) ∧ (lexFrom s p k).1.length ≤ s.length ∧ k + (lexFrom s p k).1.length ≤ 2000 ∧
      ((lexFrom s p k).2.1 ≠ 0 → (lexFrom s p k).1.length < s.length ∧ p ≤ (lexFrom s p k).2.2 ∧ ∃ c, s[(lexFrom s p k).2.2 - p]? = some c ∧ c ≠ 10) ∧ ((lexFrom s p k).2.1 = 0 → (lexFrom s p k).2.2 = 0) := by
  intro n
  induction n with
  | zero =>
    intro s p k hn hk
    have : s = [] := List.eq_nil_of_length_eq_zero (by omega)
    subst this
    simp [lexFrom, hk]
  | succ n ih =>
    intro s p k hn hk
    cases s with
    | nil => simp [lexFrom, hk]
    | cons c r =>
      have hle := width_le (c :: r)
      by_cases hg : cls c = 1 ∨ cls c = 2
      · have hw := width_gap (r := r) hg
        rw [lexFrom_gap p k hg]
        obtain ⟨i1, i2, i3, i4, i5⟩ := ih ((c :: r).drop (width (c :: r))) (p + width (c :: r)) k (by simp at hn ⊢; omega) hk
        simp only [List.length_drop] at i1 i2 i4
        refine ⟨fun t ht => by have := i1 t ht; simp at *; omega, by simp at *; omega, i3, fun h => ?_, i5⟩
        obtain ⟨j1, j2, c', j3, j4⟩ := i4 h
        refine ⟨by simp at *; omega, by omega, c', ?_, j4⟩
        rw [List.getElem?_drop] at j3
        rw [← j3]
        congr 1
        omega
      · have hc : c ≠ 10 := fun e => hg (by subst e; left; decide)
        by_cases h0 : width (c :: r) = 0
        · rw [lexFrom_bad p k hg h0]; simp [hk, hc]
        · by_cases hk2 : k = 2000
          · subst hk2
            rw [lexFrom_limit p hg h0]; simp [hc]
          · by_cases he : (tokOf (cls c) ((c :: r).take (width (c :: r)))).1 = 0
            · rw [lexFrom_tok p k hg h0 hk2 he]
              obtain ⟨i1, i2, i3, i4, i5⟩ := ih ((c :: r).drop (width (c :: r))) (p + width (c :: r)) (k + 1) (by simp at hn ⊢; omega) (by omega)
              simp only [List.length_drop] at i1 i2 i4
              refine ⟨fun t ht => ?_, by simp at *; omega, by simp at *; omega, fun h => ?_, i5⟩
              · rcases List.mem_cons.1 ht with rfl | ht
                · simp; omega
                · have h1 := i1 t ht; simp only [List.length_cons] at *; omega
              · obtain ⟨j1, j2, c', j3, j4⟩ := i4 h
                dsimp only
                refine ⟨by simp only [List.length_cons] at *; omega, by omega, c', ?_, j4⟩
                rw [List.getElem?_drop] at j3
                rw [← j3]
                congr 1
                omega
            · rw [lexFrom_err p k hg h0 hk2 he]; simp [hk, hc, he]
theorem lex_ok {s : List UInt8} {l : List Tok} {q : Nat} (h : lex s = (l, 0, q)) : s.length ≤ 8000 ∧ lexFrom s 0 0 = (l, 0, 0) := by
  unfold lex at h
  split at h
  · cases h
  · rename_i h8
    split at h
    · rename_i he
      refine ⟨by omega, ?_⟩
      have h5 := (lex_place s.length s 0 0 (Nat.le_refl _) (by omega)).2.2.2.2 he
      simp only [Prod.mk.injEq] at h
      rw [← h.1]
      exact Prod.ext rfl (Prod.ext he h5)
    · rename_i he
      simp only [Prod.mk.injEq] at h
      exact absurd (by rw [h.2]) he
theorem lex_of {s : List UInt8} {l : List Tok} (h8 : s.length ≤ 8000) (h : lexFrom s 0 0 = (l, 0, 0)) : lex s = (l, 0, 0) := by
  unfold lex; rw [if_neg (by omega), h]; rfl
/-- Two sources, joined by a line feed. -/
theorem lex_join {a b : List UInt8} {l m : List Tok} {q q' : Nat} (ha : lex a = (l, 0, q)) (hb : lex b = (m, 0, q')) (h8 : a.length + b.length + 1 ≤ 8000) (h2 : l.length + m.length ≤ 2000) :
    lex (a ++ 10 :: b) = (l ++ m.map (shift (a.length + 1 : Nat)), 0, 0) := by
  obtain ⟨_, ha⟩ := lex_ok ha
  obtain ⟨_, hb⟩ := lex_ok hb
  refine lex_of (by simp; omega) ?_
  rw [lex_split a.length a (10 :: b) 0 0 (Nat.le_refl _) (.inr rfl), ha]
  simp only [if_true, Nat.zero_add]
  have hm := lex_move b.length b 0 (a.length + 1) 0 l.length (Nat.le_refl _) (by rw [hb]; exact h2) (by rw [hb]; simp) (by rw [hb]; intro h; exact absurd rfl h)
  rw [lexFrom_gap a.length l.length (c := 10) (r := b) (.inl (by decide)), show width (10 :: b) = 1 from rfl]
  simp only [List.drop_succ_cons, List.drop_zero]
  rw [Nat.zero_add] at hm
  rw [hm, hb]
  simp [addTo]
end Go.Proofs.YtnbolgdccdnjeaaGreatDoor.Np
