/- The lexer, plain: gaps put between tokens. -/
import Derived.Test.YtnbolgdccdnjeaaGreatDoorLexPlain
namespace Go.Proofs.YtnbolgdccdnjeaaGreatDoor.Np
/-- A gap: whatever follows is split as without it; it begins no word further; a comment swallows it, or its beginning. -/
structure IsGap (g : List UInt8) : Prop where
  skip : ∀ x p k, lexFrom (g ++ x) p k = lexFrom x (p + g.length) k
  stop : ∃ c r, g = c :: r ∧ isRun c = false
  rest : ∀ p k, lexFrom (g.drop (g.takeWhile notEnd).length) p k = ([], 0, 0)
theorem takeWhile_take {p : UInt8 → Bool} : ∀ (s : List UInt8) (j : Nat) (y : List UInt8), (s.takeWhile p).length ≤ j → j ≤ s.length → ((s.takeWhile p).length < j ∨ ∃ c r, y = c :: r ∧ p c = false) → (s.take j ++ y).takeWhile p = s.takeWhile p := by
  intro s
  induction s with
  | nil =>
    intro j y h1 h2 h3
    simp at h2
    subst h2
    rcases h3 with h3 | ⟨c, r, rfl, h⟩
    · simp at h3
    · simp [h]
  | cons a s ih =>
    intro j y h1 h2 h3
    by_cases ha : p a = true
    · rw [List.takeWhile_cons, if_pos ha] at h1 h3 ⊢
      simp only [List.length_cons] at h1 h2 h3
      obtain ⟨i, rfl⟩ : ∃ i, j = i + 1 := ⟨j - 1, by omega⟩
      rw [List.take_succ_cons, List.cons_append, List.takeWhile_cons, if_pos ha, ih i y (by omega) (by omega) (h3.imp_left (by omega))]
    · have ha' : p a = false := by simpa using ha
      rw [List.takeWhile_cons, if_neg ha] at h1 h3 ⊢
      cases j with
      | zero =>
        rcases h3 with h3 | ⟨c, r, rfl, h⟩
        · simp at h3
        · simp [h]
      | succ i => rw [List.take_succ_cons, List.cons_append, List.takeWhile_cons, if_neg ha]
theorem quoteW_take (r : List UInt8) (j : Nat) (y : List UInt8) (h0 : quoteW r ≠ 0) (h1 : quoteW r ≤ j + 1) (h2 : j ≤ r.length) : quoteW (r.take j ++ y) = quoteW r := by
  unfold quoteW at *
  split at h0
  · rename_i hc
    rw [if_pos hc] at h1
    have ht := takeWhile_take (p := inText) r j y (by omega) h2 (.inl (by omega))
    rw [ht, if_pos hc, if_pos]
    refine ⟨hc.1, ?_⟩
    rw [List.getElem?_append_left (by rw [List.length_take]; omega), List.getElem?_take, if_pos (by omega)]
    exact hc.2
  · exact absurd rfl h0
theorem width_take (c : UInt8) (r : List UInt8) (j : Nat) (y : List UInt8) (h0 : width (c :: r) ≠ 0) (h1 : width (c :: r) ≤ j + 1) (h2 : j ≤ r.length) (hy : ∃ a b, y = a :: b ∧ isRun a = false) (h3 : cls c = 2 → width (c :: r) < j + 1) :
    width (c :: (r.take j ++ y)) = width (c :: r) := by
  have e : c :: (r.take j ++ y) = (c :: r).take (j + 1) ++ y := rfl
  rw [width, width]
  rw [width] at h0 h1 h3
  split at h0
  · rfl
  · rename_i hc
    rw [hc] at h1 h3
    rw [e, takeWhile_take (c :: r) (j + 1) y h1 (by simpa using h2) (.inl (h3 rfl))]
  · rename_i hc
    rw [hc] at h1
    rw [e, takeWhile_take (c :: r) (j + 1) y h1 (by simpa using h2) (.inr hy)]
  · rename_i hc
    rw [hc] at h1
    simp only at h0 h1
    split at h0
    · rename_i h
      rw [e, takeWhile_take (c :: r) (j + 1) y (by omega) (by simpa using h2) (.inr hy)]
    · exact absurd rfl h0
  · rename_i hc
    rw [hc] at h1
    exact quoteW_take r j y h0 h1 h2
  · rfl
  · exact absurd rfl h0
theorem width_com {c : UInt8} {r : List UInt8} (h : cls c = 2) : width (c :: r) = ((c :: r).takeWhile notEnd).length := by
  rw [width]; simp [h]
theorem takeWhile_all {p : UInt8 → Bool} : ∀ (l : List UInt8), (l.takeWhile p).length = l.length → ∀ a ∈ l, p a = true := by
  intro l
  induction l with
  | nil => intro _ a ha; cases ha
  | cons b l ih =>
    intro h a ha
    by_cases hb : p b = true
    · rw [List.takeWhile_cons, if_pos hb] at h
      rcases List.mem_cons.1 ha with rfl | ha
      · exact hb
      · exact ih (by simpa using h) a ha
    · rw [List.takeWhile_cons, if_neg hb] at h
      simp at h
theorem fresh_rest (l : List UInt8) : Fresh (l.drop (l.takeWhile notEnd).length) := by
  induction l with
  | nil => left; rfl
  | cons c l ih =>
    by_cases h : c = 10
    · right; subst h; rfl
    · have : notEnd c = true := by simp [notEnd, h]
      simp only [List.takeWhile_cons, this, if_true, List.length_cons, List.drop_succ_cons]
      exact ih
/-- A gap at the end. -/
theorem lex_gap_end {g : List UInt8} (hg : IsGap g) : ∀ (n : Nat) (s : List UInt8) (p k : Nat) (l : List Tok), s.length ≤ n → lexFrom s p k = (l, 0, 0) → lexFrom (s ++ g) p k = (l, 0, 0) := by
  have hnil : ∀ p k, lexFrom g p k = ([], 0, 0) := fun p k => by
    have := hg.skip [] p k
    rw [List.append_nil] at this
    rw [this, lexFrom]
  intro n
  induction n with
  | zero =>
    intro s p k l hn h
    have : s = [] := List.eq_nil_of_length_eq_zero (by omega)
    subst this
    rw [lexFrom] at h
    rw [List.nil_append, hnil, ← h]
  | succ n ih =>
    intro s p k l hn h
    cases s with
    | nil =>
      rw [lexFrom] at h
      rw [List.nil_append, hnil, ← h]
    | cons c r =>
      have hle := width_le (c :: r)
      have hlr : width (c :: r) ≤ r.length + 1 := by simpa using hle
      have hn' : r.length ≤ n := by simpa using hn
      have hw0 : width (c :: r) ≠ 0 → (cls c = 2 → width (c :: r) < r.length + 1) → width (c :: (r ++ g)) = width (c :: r) := fun h0 h3 => by
        have := width_take c r r.length g h0 hlr (Nat.le_refl _) hg.stop h3
        rwa [List.take_length] at this
      have hdrop : (c :: (r ++ g)).drop (width (c :: r)) = (c :: r).drop (width (c :: r)) ++ g := by
        rw [show c :: (r ++ g) = (c :: r) ++ g from rfl, List.drop_append_of_le_length hle]
      have htake : (c :: (r ++ g)).take (width (c :: r)) = (c :: r).take (width (c :: r)) := by
        rw [show c :: (r ++ g) = (c :: r) ++ g from rfl, List.take_append_of_le_length hle]
      rw [List.cons_append]
      by_cases hgp : cls c = 1 ∨ cls c = 2
      · have hw := width_gap (r := r) hgp
        rw [lexFrom_gap p k hgp] at h
        by_cases hc : cls c = 2 → width (c :: r) < r.length + 1
        · rw [lexFrom_gap p k hgp, hw0 (by omega) hc, hdrop]
          exact ih _ _ k l (by simp; omega) h
        · simp only [Classical.not_imp] at hc
          have hwe : width (c :: r) = r.length + 1 := by omega
          rw [hwe] at h
          rw [List.drop_of_length_le (by simp), lexFrom] at h
          have hall : ∀ a ∈ c :: r, notEnd a = true := by
            have h1 : ((c :: r).takeWhile notEnd).length = (c :: r).length := by rw [← width_com hc.1, hwe]; rfl
            exact takeWhile_all _ h1
          have hw2 : width (c :: (r ++ g)) = (c :: r).length + (g.takeWhile notEnd).length := by
            rw [width_com hc.1, show c :: (r ++ g) = (c :: r) ++ g from rfl, List.takeWhile_append_of_pos hall, List.length_append]
          rw [lexFrom_gap p k hgp, hw2, show c :: (r ++ g) = (c :: r) ++ g from rfl, ← List.drop_drop, List.drop_left, hg.rest, ← h]
      · by_cases h0 : width (c :: r) = 0
        · rw [lexFrom_bad p k hgp h0] at h; cases h
        · have hc : cls c = 2 → width (c :: r) < r.length + 1 := fun h => absurd (.inr h) hgp
          have hw := hw0 h0 hc
          by_cases hk : k = 2000
          · subst hk
            rw [lexFrom_limit p hgp h0] at h; cases h
          · by_cases he : (tokOf (cls c) ((c :: r).take (width (c :: r)))).1 = 0
            · rw [lexFrom_tok p k hgp h0 hk he] at h
              rw [lexFrom_tok p k hgp (by rw [hw]; exact h0) hk (by rw [hw, htake]; exact he), hw, hdrop, htake]
              generalize hx : lexFrom ((c :: r).drop (width (c :: r))) (p + width (c :: r)) (k + 1) = x at h
              obtain ⟨x1, x2⟩ := x
              simp only [Prod.mk.injEq] at h
              obtain ⟨h1, rfl⟩ := h
              rw [ih _ _ (k + 1) x1 (by simp; omega) hx, ← h1]
            · rw [lexFrom_err p k hgp h0 hk he] at h
              simp only [Prod.mk.injEq] at h
              exact absurd h.2.1 he
/-- A gap before a token. -/
theorem lex_gap_at {g : List UInt8} (hg : IsGap g) : ∀ (n : Nat) (s : List UInt8) (p k : Nat) (l : List Tok) (i j : Nat) (t : Tok), s.length ≤ n → lexFrom s p k = (l, 0, 0) → k ≤ 2000 → l[i]? = some t → t.pos = p + j →
    lexFrom (s.take j ++ g ++ s.drop j) p k = (l.take i ++ (l.drop i).map (shift g.length), 0, 0) := by
  intro n
  induction n with
  | zero =>
    intro s p k l i j t hn h _ ht _
    have : s = [] := List.eq_nil_of_length_eq_zero (by omega)
    subst this
    rw [lexFrom] at h
    cases h
    simp at ht
  | succ n ih =>
    intro s p k l i j t hn h hk2 ht hj
    cases s with
    | nil =>
      rw [lexFrom] at h
      cases h
      simp at ht
    | cons c r =>
      have hle := width_le (c :: r)
      have hlr : width (c :: r) ≤ r.length + 1 := by simpa using hle
      have hn' : r.length ≤ n := by simpa using hn
      have hpl := (lex_place _ (c :: r) p k (Nat.le_refl _) hk2).1 t (by rw [h]; exact List.mem_of_getElem? ht)
      have hjl : j ≤ r.length := by have := hpl.2; rw [hj] at this; simp only [List.length_cons] at this; omega
      -- behind the first piece
      have hwid : width (c :: r) ≠ 0 → width (c :: r) ≤ j → (cls c = 2 → width (c :: r) < j) → width (c :: (r.take (j - 1) ++ (g ++ r.drop (j - 1)))) = width (c :: r) := fun h0 h1 h3 => by
        refine width_take c r (j - 1) _ h0 (by omega) (by omega) ?_ (fun h => by have := h3 h; omega)
        obtain ⟨a, b, rfl, ha⟩ := hg.stop
        exact ⟨a, b ++ r.drop (j - 1), rfl, ha⟩
      have hcut : 1 ≤ j → (c :: r).take j ++ g ++ (c :: r).drop j = c :: (r.take (j - 1) ++ (g ++ r.drop (j - 1))) := fun h1 => by
        obtain ⟨i, rfl⟩ : ∃ i, j = i + 1 := ⟨j - 1, by omega⟩
        simp
      have hdrop : width (c :: r) ≤ j → ((c :: r).take j ++ g ++ (c :: r).drop j).drop (width (c :: r)) = ((c :: r).drop (width (c :: r))).take (j - width (c :: r)) ++ g ++ ((c :: r).drop (width (c :: r))).drop (j - width (c :: r)) := fun h1 => by
        rw [List.append_assoc, List.drop_append_of_le_length (by rw [List.length_take]; simp only [List.length_cons]; omega), List.drop_take, List.drop_drop, show width (c :: r) + (j - width (c :: r)) = j by omega, List.append_assoc]
      have htake : width (c :: r) ≤ j → ((c :: r).take j ++ g ++ (c :: r).drop j).take (width (c :: r)) = (c :: r).take (width (c :: r)) := fun h1 => by
        rw [List.append_assoc, List.take_append_of_le_length (by rw [List.length_take]; simp only [List.length_cons]; omega), List.take_take, Nat.min_eq_left h1]
      by_cases hgp : cls c = 1 ∨ cls c = 2
      · have hw := width_gap (r := r) hgp
        rw [lexFrom_gap p k hgp] at h
        have hpl2 := (lex_place _ ((c :: r).drop (width (c :: r))) (p + width (c :: r)) k (Nat.le_refl _) hk2).1 t (by rw [h]; exact List.mem_of_getElem? ht)
        have hwj : width (c :: r) ≤ j := by have := hpl2.1; rw [hj] at this; omega
        have hc : cls c = 2 → width (c :: r) < j := fun hc => by
          rcases Nat.lt_or_ge (width (c :: r)) j with h1 | h1
          · exact h1
          · exfalso
            have hwe : width (c :: r) = j := by omega
            have hfr := fresh_rest (c :: r)
            rw [← width_com hc] at hfr
            generalize hrs : (c :: r).drop (width (c :: r)) = rs at hfr h
            rcases hfr with rfl | hfr
            · rw [lexFrom] at h
              cases h
              simp at ht
            · cases rs with
              | nil => cases hfr
              | cons b rs =>
                simp only [List.head?_cons, Option.some.injEq] at hfr
                subst hfr
                rw [lexFrom_gap _ k (c := 10) (r := rs) (.inl (by decide)), show width (10 :: rs) = 1 from rfl] at h
                have h9 := ((lex_place _ (List.drop 1 (10 :: rs)) (p + width (c :: r) + 1) k (Nat.le_refl _) hk2).1 t (by rw [h]; exact List.mem_of_getElem? ht)).1
                rw [hj] at h9
                omega
        rw [hcut (by omega), lexFrom_gap p k hgp, hwid (by omega) hwj hc, ← hcut (by omega), hdrop hwj]
        exact ih _ _ k l i _ t (by simp; omega) h hk2 ht (by rw [hj]; omega)
      · by_cases h0 : width (c :: r) = 0
        · rw [lexFrom_bad p k hgp h0] at h; cases h
        · by_cases hk : k = 2000
          · subst hk
            rw [lexFrom_limit p hgp h0] at h; cases h
          · by_cases he : (tokOf (cls c) ((c :: r).take (width (c :: r)))).1 = 0
            · cases i with
              | zero =>
                have hk3 := (lex_place _ (c :: r) p k (Nat.le_refl _) hk2).2.2.1
                rw [h] at hk3
                have hmv := lex_move _ (c :: r) p g.length k k (Nat.le_refl _) (by rw [h]; exact hk3) (by rw [h]; simp) (by rw [h]; simp)
                rw [h] at hmv
                rw [lexFrom_tok p k hgp h0 hk he] at h
                simp only [Prod.mk.injEq] at h
                rw [← h.1] at ht
                simp only [List.getElem?_cons_zero, Option.some.injEq] at ht
                rw [← ht] at hj
                have hj0 : j = 0 := by simp only at hj; omega
                subst hj0
                rw [List.take_zero, List.nil_append, List.drop_zero, hg.skip, hmv]
                simp
              | succ i =>
                rw [lexFrom_tok p k hgp h0 hk he] at h
                generalize hx : lexFrom ((c :: r).drop (width (c :: r))) (p + width (c :: r)) (k + 1) = x at h
                obtain ⟨x1, x2⟩ := x
                simp only [Prod.mk.injEq] at h
                obtain ⟨h1, rfl⟩ := h
                subst h1
                rw [List.getElem?_cons_succ] at ht
                have hpl2 := (lex_place _ ((c :: r).drop (width (c :: r))) (p + width (c :: r)) (k + 1) (Nat.le_refl _) (by omega)).1 t (by rw [hx]; exact List.mem_of_getElem? ht)
                have hwj : width (c :: r) ≤ j := by have := hpl2.1; rw [hj] at this; omega
                have hw := hwid h0 hwj (fun hc => absurd (.inr hc) hgp)
                rw [← hcut (by omega)] at hw
                have hI := ih _ _ (k + 1) x1 i (j - width (c :: r)) t (by simp; omega) hx (by omega) ht (by rw [hj]; omega)
                rw [hcut (by omega)] at hw hdrop htake ⊢
                rw [lexFrom_tok p k hgp (by rw [hw]; exact h0) hk (by rw [hw, htake hwj]; exact he), hw, hdrop hwj, htake hwj, hI]
                simp
            · rw [lexFrom_err p k hgp h0 hk he] at h
              simp only [Prod.mk.injEq] at h
              exact absurd h.2.1 he
theorem lex_gaps_at {g s : List UInt8} (hg : IsGap g) {l : List Tok} {q i j : Nat} {t : Tok} (h : lex s = (l, 0, q)) (h8 : s.length + g.length ≤ 8000) (ht : l[i]? = some t) (hj : t.pos = j) :
    lex (s.take j ++ g ++ s.drop j) = (l.take i ++ (l.drop i).map (shift g.length), 0, 0) := by
  obtain ⟨_, h⟩ := lex_ok h
  refine lex_of (by simp; omega) (lex_gap_at hg _ s 0 0 l i j t (Nat.le_refl _) h (by omega) ht (by rw [hj]; simp))
theorem lex_gaps_end {g s : List UInt8} (hg : IsGap g) {l : List Tok} {q : Nat} (h : lex s = (l, 0, q)) (h8 : s.length + g.length ≤ 8000) : lex (s ++ g) = (l, 0, 0) := by
  obtain ⟨_, h⟩ := lex_ok h
  exact lex_of (by simp; omega) (lex_gap_end hg _ s 0 0 l (Nat.le_refl _) h)
theorem lex_blank (c : UInt8) (hc : cls c = 1) (x : List UInt8) (p k : Nat) : lexFrom (c :: x) p k = lexFrom x (p + 1) k := by
  have hw : width (c :: x) = 1 := by rw [width]; simp [hc]
  rw [lexFrom_gap p k (.inl hc), hw]; rfl
theorem gap_blank (c : UInt8) (hc : cls c = 1) (hr : isRun c = false) : IsGap [c] where
  skip x p k := lex_blank c hc x p k
  stop := ⟨c, [], rfl, hr⟩
  rest p k := by
    by_cases h : notEnd c = true
    · simp [h, lexFrom]
    · simp [h]; rw [lex_blank c hc]; simp [lexFrom]
theorem gap_feed {g : List UInt8} (hg : IsGap g) : IsGap (10 :: g) where
  skip x p k := by rw [List.cons_append, lex_blank 10 (by decide), hg.skip]; congr 1; simp; omega
  stop := ⟨10, g, rfl, by decide⟩
  rest p k := by
    have : ((10 :: g).takeWhile notEnd).length = 0 := rfl
    rw [this, List.drop_zero, lex_blank 10 (by decide)]
    have := hg.skip [] (p + 1) k
    rw [List.append_nil] at this
    rw [this, lexFrom]
theorem gap_com {a : List UInt8} (h : ∀ c ∈ a, notEnd c = true) : IsGap (35 :: (a ++ [10])) where
  skip x p k := by
    have hw : width (35 :: (a ++ [10]) ++ x) = a.length + 1 := by
      rw [List.cons_append, width_com (by decide), show 35 :: (a ++ [10] ++ x) = (35 :: a) ++ (10 :: x) by simp, List.takeWhile_append_of_pos (by simpa using ⟨by decide, h⟩)]
      simp [notEnd]
    rw [List.cons_append] at hw ⊢
    rw [lexFrom_gap p k (.inr (by decide)), hw]
    have : (35 :: (a ++ [10] ++ x)).drop (a.length + 1) = 10 :: x := by simp
    rw [this, lex_blank 10 (by decide)]
    congr 1; simp; omega
  stop := ⟨35, _, rfl, by decide⟩
  rest p k := by
    have : ((35 :: (a ++ [10])).takeWhile notEnd).length = a.length + 1 := by
      rw [show 35 :: (a ++ [10]) = (35 :: a) ++ [10] by simp, List.takeWhile_append_of_pos (by simpa using ⟨by decide, h⟩)]
      simp [notEnd]
    rw [this]
    have : (35 :: (a ++ [10])).drop (a.length + 1) = [10] := by simp
    rw [this, lex_blank 10 (by decide), lexFrom]
theorem gap_tab {g : List UInt8} (hg : IsGap (10 :: g)) : IsGap (9 :: 10 :: g) where
  skip x p k := by rw [List.cons_append, lex_blank 9 (by decide), hg.skip]; congr 1; simp; omega
  stop := ⟨9, _, rfl, by decide⟩
  rest p k := by
    have : ((9 :: 10 :: g).takeWhile notEnd).length = 1 := rfl
    rw [this]
    have := hg.skip [] p k
    rw [List.append_nil] at this
    rw [List.drop_succ_cons, List.drop_zero, this, lexFrom]
theorem gap0 : IsGap [32] := gap_blank 32 (by decide) (by decide)
theorem gap1 : IsGap [10] := gap_blank 10 (by decide) (by decide)
theorem gap2 : IsGap [9, 10, 32] := gap_tab (gap_feed gap0)
theorem gap3 : IsGap [35, 32, 97, 32, 123, 32, 34, 32, 48, 49, 10] := gap_com (a := [32, 97, 32, 123, 32, 34, 32, 48, 49]) (by decide)
theorem gap4 : IsGap [10, 35, 45, 10] := gap_feed (gap_com (a := [45]) (by decide))
end Go.Proofs.YtnbolgdccdnjeaaGreatDoor.Np
