/- Joined by program from: ParJoin, ParJoin2, LexEval, ParEval. No condition. -/
import Derived.Test.YtnbolgdccdnjeaaGreatDoorPB
import Derived.Test.YtnbolgdccdnjeaaGreatDoorPA
/- The plain law of two files, one after the other. No program in sight. -/
namespace Go.Proofs.YtnbolgdccdnjeaaGreatDoor.Np
/-- Wherever a source stands: the same tokens, or too many. -/
theorem lex_move2 : ∀ (n : Nat) (s : List UInt8) (p d k k' : Nat), s.length ≤ n → (lexFrom s p k).2.1 ≠ 2 →
    (lexFrom s (p + d) k').2.1 = 2 ∨ lexFrom s (p + d) k' = ((lexFrom s p k).1.map (shift d), (lexFrom s p k).2.1, if (lexFrom s p k).2.1 = 0 then 0 else (lexFrom s p k).2.2 + d) := by
  intro n
  induction n with
  | zero =>
    intro s p d k k' hn _
    have : s = [] := List.eq_nil_of_length_eq_zero (by omega)
    subst this
    right; simp [lexFrom]
  | succ n ih =>
    intro s p d k k' hn h2
    cases s with
    | nil => right; simp [lexFrom]
    | cons c r =>
      have hle := width_le (c :: r)
      by_cases hg : cls c = 1 ∨ cls c = 2
      · have hw := width_gap (r := r) hg
        rw [lexFrom_gap p k hg] at h2 ⊢
        rw [lexFrom_gap (p + d) k' hg, show p + d + width (c :: r) = p + width (c :: r) + d by omega]
        exact ih _ _ d k k' (by simp at hn ⊢; omega) h2
      · by_cases h0 : width (c :: r) = 0
        · right; rw [lexFrom_bad p k hg h0, lexFrom_bad (p + d) k' hg h0]; simp
        · by_cases hk : k = 2000
          · subst hk
            rw [lexFrom_limit p hg h0] at h2
            exact absurd rfl h2
          · by_cases hk' : k' = 2000
            · left; subst hk'; rw [lexFrom_limit (p + d) hg h0]
            · by_cases he : (tokOf (cls c) ((c :: r).take (width (c :: r)))).1 = 0
              · rw [lexFrom_tok p k hg h0 hk he] at h2 ⊢
                rw [lexFrom_tok (p + d) k' hg h0 hk' he, show p + d + width (c :: r) = p + width (c :: r) + d by omega]
                rcases ih _ (p + width (c :: r)) d (k + 1) (k' + 1) (by simp at hn ⊢; omega) h2 with h | h
                · left; exact h
                · right; rw [h]; simp [shift]
              · right
                rw [lexFrom_err p k hg h0 hk he, lexFrom_err (p + d) k' hg h0 hk' he]
                simp [he]
theorem lex_two {a b : List UInt8} {ta : List Tok} {q : Nat} (ha : lex a = (ta, 0, q)) (hb : b.length ≤ 8000) (h8 : a.length + b.length + 1 ≤ 8000) (h2 : (lex b).2.1 ≠ 2) :
    (lex (a ++ 10 :: b)).2.1 = 2 ∨ ((lex b).2.1 = 0 ∧ lex (a ++ 10 :: b) = (ta ++ (lex b).1.map (shift (a.length + 1 : Nat)), 0, 0)) ∨ ((lex b).2.1 ≠ 0 ∧ (lex (a ++ 10 :: b)).2 = ((lex b).2.1, (lex b).2.2 + (a.length + 1))) := by
  obtain ⟨_, ha⟩ := lex_ok ha
  have hs : lexFrom (a ++ 10 :: b) 0 0 = addTo ta (lexFrom b (0 + (a.length + 1)) ta.length) := by
    rw [lex_split a.length a (10 :: b) 0 0 (Nat.le_refl _) (.inr rfl), ha]
    simp only [if_true, Nat.zero_add]
    rw [lex_blank 10 (by decide)]
  have hl8 : ¬ 8000 < (a ++ 10 :: b).length := by simp; omega
  have hb8 : ¬ 8000 < b.length := by omega
  have e2 : (lexFrom b 0 0).2.1 = (lex b).2.1 := by
    unfold lex
    rw [if_neg hb8]
    split
    · rename_i h; exact h
    · rfl
  rcases lex_move2 _ b 0 (a.length + 1) 0 ta.length (Nat.le_refl _) (by rw [e2]; exact h2) with h | h
  · left
    unfold lex
    rw [if_neg hl8, hs]
    have : (addTo ta (lexFrom b (0 + (a.length + 1)) ta.length)).2.1 = 2 := h
    rw [if_neg (by rw [this]; decide)]
    exact this
  · rw [h] at hs
    by_cases h0 : (lex b).2.1 = 0
    · right; left
      refine ⟨h0, ?_⟩
      have hl := lex_eta h0
      obtain ⟨_, hb'⟩ := lex_ok hl
      refine lex_of (by omega) ?_
      rw [hs, hb']
      simp [addTo]
    · right; right
      refine ⟨h0, ?_⟩
      have e3 : (lexFrom b 0 0).2 = (lex b).2 := by
        unfold lex
        rw [if_neg hb8, if_neg (by rw [e2]; exact h0)]
      have h1 : (lexFrom (a ++ 10 :: b) 0 0).2 = ((lexFrom b 0 0).2.1, (lexFrom b 0 0).2.2 + (a.length + 1)) := by
        rw [hs]
        simp only [addTo]
        rw [if_neg (by rw [e2]; exact h0)]
      have h2 : lex (a ++ 10 :: b) = ([], (lexFrom (a ++ 10 :: b) 0 0).2) := by
        unfold lex
        rw [if_neg hl8, if_neg (by rw [h1]; dsimp only; rw [e2]; exact h0)]
      rw [h2]
      dsimp only
      rw [h1, e3]
/-! ### What is read without a diagnostic is read so whatever follows -/
theorem peek_app {r : List Tok} (h : r ≠ []) (x : List Tok) : peekT (r ++ x) = peekT r ∧ (r ++ x).tail = r.tail ++ x := by
  cases r with
  | nil => exact absurd rfl h
  | cons a r => exact ⟨rfl, rfl⟩
theorem ne_of {r : List Tok} (h : r.tail.length + 1 = r.length) : r ≠ [] := fun e => by rw [e] at h; simp at h
theorem isS_app {s : List UInt8} {r : List Tok} (h : r ≠ []) (x : List Tok) : isS s (r ++ x) = isS s r := by unfold isS; rw [(peek_app h x).1]
theorem isW_app {s : List UInt8} {r : List Tok} (h : r ≠ []) (x : List Tok) : isW s (r ++ x) = isW s r := by unfold isW; rw [(peek_app h x).1]
theorem isAny_app {r : List Tok} (h : r ≠ []) (x : List Tok) : isAny (r ++ x) = isAny r := by unfold isAny; rw [(peek_app h x).1]
theorem isTxt_app {r : List Tok} (h : r ≠ []) (x : List Tok) : isTxt (r ++ x) = isTxt r := by unfold isTxt; rw [(peek_app h x).1]
theorem isNum_app {r : List Tok} (h : r ≠ []) (x : List Tok) : isNum (r ++ x) = isNum r := by unfold isNum; rw [(peek_app h x).1]
theorem numR_app {t : Int} {mk : Int → Datum} {r r' : List Tok} {n : Int} (h : numR t mk r = .ok n r') (x : List Tok) : numR t mk (r ++ x) = .ok n (r' ++ x) ∧ r'.length + 1 = r.length := by
  unfold numR at h ⊢
  split at h
  · cases h
  · rename_i h1
    have hl := isNum_ne (bt h1)
    have hne := ne_of hl
    split at h
    · cases h
    · rename_i h2
      simp only [Res.ok.injEq] at h
      rw [isNum_app hne, (peek_app hne x).1, (peek_app hne x).2, if_neg h1, if_neg h2, h.1, h.2]
      exact ⟨rfl, by rw [← h.2]; exact hl⟩
theorem hostR_app {r r' : List Tok} {d : Datum} (h : hostR r = .ok d r') (x : List Tok) : hostR (r ++ x) = .ok d (r' ++ x) ∧ r'.length + 1 = r.length := by
  unfold hostR at h ⊢
  split at h
  · cases h
  · rename_i h1
    have hl := isAny_ne (bt h1)
    have hne := ne_of hl
    split at h
    · cases h
    · rename_i h2
      simp only [Res.ok.injEq] at h
      rw [isAny_app hne, (peek_app hne x).1, (peek_app hne x).2, if_neg h1, if_neg h2, h.1, h.2]
      exact ⟨rfl, by rw [← h.2]; exact hl⟩
theorem textR_app {r r' : List Tok} {d : Datum} (hne : r ≠ []) (h : textR r = .ok d r') (x : List Tok) : textR (r ++ x) = .ok d (r' ++ x) ∧ r'.length + 1 = r.length := by
  unfold textR at h ⊢
  split at h
  · cases h
  · rename_i h2
    simp only [Res.ok.injEq] at h
    rw [(peek_app hne x).1, (peek_app hne x).2, if_neg h2, h.1, h.2]
    refine ⟨rfl, ?_⟩
    rw [← h.2]
    cases r with
    | nil => exact absurd rfl hne
    | cons a r => rfl
theorem pairR_app {t u : Int} {r r' : List Tok} {d : Datum} (h : pairR t u r = .ok d r') (x : List Tok) : pairR t u (r ++ x) = .ok d (r' ++ x) ∧ r'.length + 2 = r.length := by
  unfold pairR at h ⊢
  cases hh : numR t (fun n => ⟨[], n, u⟩) r with
  | err e r1 => rw [hh] at h; cases h
  | ok n r1 =>
    obtain ⟨h1, h2⟩ := numR_app hh x
    rw [hh] at h
    dsimp only at h
    cases hh2 : numR t (fun m => ⟨[], u, m⟩) r1 with
    | err e r2 => rw [hh2] at h; cases h
    | ok m r2 =>
      obtain ⟨h3, h4⟩ := numR_app hh2 x
      rw [hh2] at h
      simp only [Res.ok.injEq] at h
      rw [h1]
      dsimp only
      rw [h3]
      dsimp only
      rw [h.1, h.2]
      exact ⟨rfl, by rw [← h.2]; omega⟩
theorem addrR_app {r r' : List Tok} {d : Datum} (h : addrR r = .ok d r') (x : List Tok) : addrR (r ++ x) = .ok d (r' ++ x) ∧ r'.length + 1 = r.length := by
  unfold addrR at h ⊢
  cases hh : numR 1 (fun n => ⟨[], n, 0⟩) r with
  | err e r1 => rw [hh] at h; cases h
  | ok n r1 =>
    obtain ⟨h1, h2⟩ := numR_app hh x
    rw [hh] at h
    simp only [Res.ok.injEq] at h
    rw [h1]
    dsimp only
    rw [h.1, h.2]
    exact ⟨rfl, by rw [← h.2]; omega⟩
theorem readR_app {t : Int} {r r' : List Tok} {d : Datum} (hne : r ≠ []) (h : readR t r = .ok d r') (x : List Tok) : readR t (r ++ x) = .ok d (r' ++ x) ∧ r'.length + 1 ≤ r.length := by
  unfold readR at h ⊢
  split at h
  · have := addrR_app h x; rename_i ht; rw [if_pos ht]; exact ⟨this.1, by omega⟩
  · rename_i ht; rw [if_neg ht]
    split at h
    · have := hostR_app h x; rename_i ht; rw [if_pos ht]; exact ⟨this.1, by omega⟩
    · rename_i ht; rw [if_neg ht]
      split at h
      · have := textR_app hne h x; rename_i ht; rw [if_pos ht]; exact ⟨this.1, by omega⟩
      · rename_i ht; rw [if_neg ht]
        split at h
        · have := pairR_app h x; rename_i ht; rw [if_pos ht]; exact ⟨this.1, by omega⟩
        · have := pairR_app h x; rename_i ht; rw [if_neg ht]; exact ⟨this.1, by omega⟩
theorem firstR_ne {t : Int} {r : List Tok} (h : firstR t r = true) : r ≠ [] := by
  unfold firstR at h
  split at h
  · exact ne_of (isAny_ne h)
  · split at h
    · exact ne_of (isTxt_ne h)
    · exact ne_of (isNum_ne h)
theorem firstR_app {t : Int} {r : List Tok} (h : r ≠ []) (x : List Tok) : firstR t (r ++ x) = firstR t r := by
  unfold firstR; rw [isAny_app h, isTxt_app h, isNum_app h]
theorem datumR_app {t : Int} {n : Nat} {r r' : List Tok} {d : Datum} (h : datumR t n r = .ok d r') (x : List Tok) : datumR t n (r ++ x) = .ok d (r' ++ x) ∧ r'.length + 1 ≤ r.length := by
  unfold datumR at h ⊢
  split at h
  · cases h
  · rename_i h1
    have hne := firstR_ne (bt h1)
    split at h
    · cases h
    · rename_i h2
      rw [firstR_app hne, if_neg h1, if_neg h2]
      exact readR_app hne h x
theorem dataR_app {t : Int} : ∀ (n : Nat) (acc l : List Datum) (r r' : List Tok), dataR t n acc r = .ok l r' → ∀ x, dataR t n acc (r ++ x) = .ok l (r' ++ x) ∧ r'.length + 2 ≤ r.length
  | 0, _, _, _, _, h, _ => by cases h
  | n + 1, acc, l, r, r', h, x => by
    rw [dataR] at h ⊢
    cases hh : datumR t acc.length r with
    | err e r1 => rw [hh] at h; cases h
    | ok d r1 =>
      obtain ⟨h1, h2⟩ := datumR_app hh x
      rw [hh] at h
      rw [h1]
      dsimp only at h ⊢
      split at h
      · cases h
      · rename_i c1
        have hne : r1 ≠ [] := fun e => c1 (by rw [e]; rfl)
        rw [isS_app hne, isS_app hne, if_neg c1, (peek_app hne x).2]
        have htl : r1.tail.length + 1 = r1.length := by cases r1 with | nil => exact absurd rfl hne | cons a r => rfl
        split at h
        · cases h
        · rename_i c2
          rw [if_neg c2]
          split at h
          · rename_i c3
            obtain ⟨h3, h4⟩ := dataR_app n _ _ _ _ h x
            rw [if_pos c3]
            exact ⟨h3, by omega⟩
          · rename_i c3
            simp only [Res.ok.injEq] at h
            rw [if_neg c3, h.1, h.2]
            exact ⟨rfl, by rw [← h.2]; omega⟩
theorem ownerR_app {apex s : List UInt8} {r r' : List Tok} (h : ownerR apex r = .ok s r') (x : List Tok) : ownerR apex (r ++ x) = .ok s (r' ++ x) := by
  unfold ownerR at h ⊢
  split at h
  · rename_i h1
    have hne := ne_of (isS_ne h1)
    simp only [Res.ok.injEq] at h
    rw [isS_app hne, if_pos h1, (peek_app hne x).2, h.1, h.2]
  · rename_i h1
    split at h
    · cases h
    · rename_i h2
      have hne := ne_of (isAny_ne (bt h2))
      split at h
      · cases h
      · rename_i h3
        split at h
        · cases h
        · rename_i h4
          simp only [Res.ok.injEq] at h
          rw [isS_app hne, if_neg h1, isAny_app hne, if_neg h2, (peek_app hne x).1, (peek_app hne x).2, if_neg h3, if_neg h4, h.1, h.2]
theorem lifeR_app {t : Int} {r r' : List Tok} {n : Int} (h : lifeR t r = .ok n r') (hl : 2 ≤ r'.length) (x : List Tok) : lifeR t (r ++ x) = .ok n (r' ++ x) := by
  unfold lifeR at h ⊢
  have hlr : 2 ≤ r.length := by
    split at h
    · simp only [Res.ok.injEq] at h; rw [h.2]; exact hl
    · split at h
      · cases h
      · split at h
        · cases h
        · simp only [Res.ok.injEq] at h
          have := (suf2 r).length_le
          rw [h.2] at this; omega
  have hne : r ≠ [] := fun e => by rw [e] at hlr; simp at hlr
  have hne2 : r.tail ≠ [] := by
    cases r with
    | nil => exact absurd rfl hne
    | cons a r => intro e; simp only [List.tail_cons] at e; rw [e] at hlr; simp at hlr
  rw [isW_app hne, (peek_app hne x).2, isNum_app hne2, (peek_app hne2 x).1, (peek_app hne2 x).2]
  split at h
  · rename_i h1; simp only [Res.ok.injEq] at h; rw [if_pos h1, h.1, h.2]
  · rename_i h1
    rw [if_neg h1]
    split at h
    · cases h
    · rename_i h2
      rw [if_neg h2]
      split at h
      · cases h
      · rename_i h3
        simp only [Res.ok.injEq] at h
        rw [if_neg h3, h.1, h.2]
theorem entryR_app {apex : List UInt8} {sets : List (List UInt8 × Int)} {s : DSet} {r r' : List Tok} (h : entryR apex sets r = .ok s r') (x : List Tok) : entryR apex sets (r ++ x) = .ok s (r' ++ x) := by
  unfold entryR at h ⊢
  cases hh : ownerR apex r with
  | err e r' => rw [hh] at h; cases h
  | ok s1 r1 =>
    rw [hh] at h
    rw [ownerR_app hh x]
    dsimp only at h ⊢
    split at h
    · cases h
    · rename_i h1
      have hne := ne_of (isAny_ne (bt h1))
      rw [isAny_app hne, if_neg h1, (peek_app hne x).1, (peek_app hne x).2]
      split at h
      · cases h
      · rename_i h2
        rw [if_neg h2]
        split at h
        · cases h
        · rename_i h3
          rw [if_neg h3]
          split at h
          · cases h
          · rename_i h4
            rw [if_neg h4]
            cases hh2 : lifeR (typeR (peekT r1).text) r1.tail with
            | err e r' => rw [hh2] at h; cases h
            | ok life r2 =>
              rw [hh2] at h
              dsimp only at h
              cases hh3 : dataR (typeR (peekT r1).text) 9 [] r2 with
              | err e r' => rw [hh3] at h; cases h
              | ok l r3 =>
                rw [hh3] at h
                simp only [Res.ok.injEq] at h
                obtain ⟨d1, d2⟩ := dataR_app 9 [] l r2 r3 hh3 x
                rw [lifeR_app hh2 (by omega) x]
                dsimp only
                rw [d1]
                dsimp only
                rw [h.1, h.2]
theorem headerR_app {known k' : List (List UInt8)} {r r' : List Tok} {a : List UInt8} (h : headerR known r = (k', .ok a r')) (x : List Tok) (k2 : List (List UInt8)) (hk : a ∉ k2) : headerR k2 (r ++ x) = (a :: k2, .ok a (r' ++ x)) := by
  unfold headerR at h ⊢
  split at h
  · cases h
  · rename_i h1
    have hne := ne_of (isW_ne (bt h1))
    rw [isW_app hne, if_neg h1, (peek_app hne x).2]
    split at h
    · cases h
    · rename_i h2
      have hne2 := ne_of (isAny_ne (bt h2))
      rw [isAny_app hne2, if_neg h2, (peek_app hne2 x).1, (peek_app hne2 x).2]
      split at h
      · cases h
      · rename_i h3
        rw [if_neg h3]
        split at h
        · cases h
        · split at h
          · cases h
          · rename_i h5
            have hne3 := ne_of (isS_ne (bt h5))
            simp only [Prod.mk.injEq, Res.ok.injEq] at h
            rw [h.2.1, if_neg hk, isS_app hne3, if_neg h5, (peek_app hne3 x).2, h.2.2]
/-! ### Diagnostics stay -/
theorem body_pre (size : Int) (apex : List UInt8) : ∀ (n : Nat) (r : List Tok) (sets : List (List UInt8 × Int)) (acc : List Signed) (diags : List Diag), r.length ≤ n → ∃ new, (bodyR size apex sets acc diags r).2.2.1 = diags ++ new := by
  intro n
  induction n with
  | zero =>
    intro r sets acc diags hn
    have : r = [] := List.eq_nil_of_length_eq_zero (by omega)
    subst this
    have h1 : isS [125] ([] : List Tok) = false := rfl
    rw [bodyR, h1, if_neg (by simp)]
    cases hh : entryR apex sets [] with
    | ok s r' => have := entryR_lt hh; simp at this
    | err e r' =>
      have hf := entryR_fine apex sets []
      rw [hh] at hf
      have hr' : r' = [] := List.suffix_nil.1 hf.1
      subst hr'
      dsimp only
      split
      · exact ⟨_, rfl⟩
      · rw [if_pos (by rfl)]; exact ⟨_, rfl⟩
  | succ n ih =>
    intro r sets acc diags hn
    rw [bodyR]
    split
    · exact ⟨[], (List.append_nil _).symm⟩
    · cases hh : entryR apex sets r with
      | ok s r' =>
        have hlt := entryR_lt hh
        dsimp only
        rw [if_pos hlt]
        exact ih r' _ _ _ (by omega)
      | err e r' =>
        dsimp only
        split
        · exact ⟨_, rfl⟩
        · split
          · exact ⟨_, rfl⟩
          · split
            · split
              · obtain ⟨new, h⟩ := ih (skipR r').tail sets acc (diags ++ [⟨e, posT size r'⟩]) (by omega)
                exact ⟨⟨e, posT size r'⟩ :: new, by rw [h]; simp⟩
              · exact ⟨[], (List.append_nil _).symm⟩
            · split
              · obtain ⟨new, h⟩ := ih (skipR r') sets acc (diags ++ [⟨e, posT size r'⟩]) (by omega)
                exact ⟨⟨e, posT size r'⟩ :: new, by rw [h]; simp⟩
              · exact ⟨[], (List.append_nil _).symm⟩
theorem file_pre (size : Int) : ∀ (n : Nat) (r : List Tok) (known : List (List UInt8)) (zones : List Zone) (diags : List Diag), r.length ≤ n → ∃ new, (fileR size known zones diags r).2 = diags ++ new := by
  intro n
  induction n with
  | zero =>
    intro r known zones diags hn
    have : r = [] := List.eq_nil_of_length_eq_zero (by omega)
    subst this
    rw [fileR, if_pos rfl]
    exact ⟨[], (List.append_nil _).symm⟩
  | succ n ih =>
    intro r known zones diags hn
    rw [fileR]
    split
    · exact ⟨[], (List.append_nil _).symm⟩
    · rcases hh : headerR known r with ⟨known', x⟩
      cases x with
      | ok apex r' =>
        have hlt := headerR_lt hh
        dsimp only
        obtain ⟨new, hp⟩ := body_pre size apex _ r' [] [] diags (Nat.le_refl _)
        rcases hb : bodyR size apex [] [] diags r' with ⟨b, sets, diags', r''⟩
        rw [hb] at hp
        replace hp : diags' = diags ++ new := hp
        cases b with
        | true =>
          dsimp only
          split
          · obtain ⟨new2, h2⟩ := ih r'' known' (zones ++ [⟨apex, sets⟩]) diags' (by omega)
            exact ⟨new ++ new2, by rw [h2, hp, List.append_assoc]⟩
          · exact ⟨new, hp⟩
        | false => exact ⟨new, hp⟩
      | err e r' =>
        dsimp only
        split
        · exact ⟨_, rfl⟩
        · split
          · obtain ⟨new, h⟩ := ih (skipZ r') known' zones (diags ++ [⟨e, posT size r'⟩]) (by omega)
            exact ⟨⟨e, posT size r'⟩ :: new, by rw [h]; simp⟩
          · exact ⟨[], (List.append_nil _).symm⟩
theorem snoc_ne {ds new : List Diag} {d : Diag} (h : [] = (ds ++ [d]) ++ new) : False := by
  have := congrArg List.length h; simp at this
/-- A body that is read without a diagnostic is read so whatever follows, and whatever the size. -/
theorem body_free {size : Int} {apex : List UInt8} : ∀ (n : Nat) (r : List Tok) (sets : List (List UInt8 × Int)) (acc : List Signed) (b : Bool) (S : List Signed) (r'' : List Tok), r.length ≤ n → bodyR size apex sets acc [] r = (b, S, [], r'') →
    b = true ∧ ∀ size2 diags x, bodyR size2 apex sets acc diags (r ++ x) = (true, S, diags, r'' ++ x) := by
  intro n
  induction n with
  | zero =>
    intro r sets acc b S r'' hn h
    have : r = [] := List.eq_nil_of_length_eq_zero (by omega)
    subst this
    have h1 : isS [125] ([] : List Tok) = false := rfl
    rw [bodyR, h1, if_neg (by simp)] at h
    cases hh : entryR apex sets [] with
    | ok s r' => have := entryR_lt hh; simp at this
    | err e r' =>
      have hf := entryR_fine apex sets []
      rw [hh] at h hf
      have hr' : r' = [] := List.suffix_nil.1 hf.1
      subst hr'
      dsimp only at h
      split at h
      · simp at h
      · rw [if_pos (by rfl)] at h; simp at h
  | succ n ih =>
    intro r sets acc b S r'' hn h
    rw [bodyR] at h
    split at h
    · rename_i hS
      have hne := ne_of (isS_ne hS)
      simp only [Prod.mk.injEq] at h
      refine ⟨h.1.symm, fun size2 diags x => ?_⟩
      rw [bodyR, isS_app hne, if_pos hS, (peek_app hne x).2, h.2.1, h.2.2.2]
    · rename_i hS
      cases hh : entryR apex sets r with
      | ok s r' =>
        have hlt := entryR_lt hh
        rw [hh] at h
        dsimp only at h
        rw [if_pos hlt] at h
        obtain ⟨h1, h2⟩ := ih r' _ _ _ _ _ (by omega) h
        refine ⟨h1, fun size2 diags x => ?_⟩
        have hne : r ≠ [] := fun e => by rw [e] at hlt; simp at hlt
        rw [bodyR, isS_app hne, if_neg hS, entryR_app hh x]
        dsimp only
        rw [if_pos (by simp; omega)]
        exact h2 size2 diags x
      | err e r' =>
        exfalso
        rw [hh] at h
        dsimp only at h
        split at h
        · simp at h
        · split at h
          · simp at h
          · split at h
            · split at h
              · obtain ⟨new, hp⟩ := body_pre size apex _ (skipR r').tail sets acc ([] ++ [⟨e, posT size r'⟩]) (Nat.le_refl _)
                rw [h] at hp
                exact snoc_ne hp
              · rename_i hlt
                have hf := entryR_fine apex sets r
                rw [hh] at hf
                have h1 := (skipR_suf r').length_le
                have h2 := hf.1.length_le
                have h3 := isS_ne (by assumption : isS [59] (skipR r') = true)
                omega
            · split at h
              · obtain ⟨new, hp⟩ := body_pre size apex _ (skipR r') sets acc ([] ++ [⟨e, posT size r'⟩]) (Nat.le_refl _)
                rw [h] at hp
                exact snoc_ne hp
              · rename_i hlt
                have hf := entryR_fine apex sets r
                rw [hh] at hf
                have h2 := hf.1.length_le
                have h1 := (skipR_suf r').length_le
                have e1 := suf_eq hf.1 (by omega)
                subst e1
                have e2 := suf_eq (skipR_suf r') hlt
                have hsk : skipR r' ≠ [] := by assumption
                have hst := skipR_stop r' hsk
                rw [e2] at hst
                have h59 : ¬ isS [59] (skipR r') = true := by assumption
                rw [e2] at h59
                have h59 : isS [59] r' = false := by simpa using h59
                have hS : isS [125] r' = false := by simpa using hS
                rw [hS, h59] at hst; cases hst
/-- A file that is read without a diagnostic: its zones, whatever follows, and whatever other names are known. -/
theorem file_free {size : Int} : ∀ (n : Nat) (r : List Tok) (K : List (List UInt8)) (acc zs : List Zone), r.length ≤ n → fileR size K acc [] r = (zs, []) →
    ∃ new, zs = acc ++ new ∧ (∀ z ∈ new, z.apex ∉ K) ∧ ∀ size2 K2 acc2 x, (∀ z ∈ new, z.apex ∉ K2) → fileR size2 K2 acc2 [] (r ++ x) = fileR size2 ((new.map (·.apex)).reverse ++ K2) (acc2 ++ new) [] x := by
  intro n
  induction n with
  | zero =>
    intro r K acc zs hn h
    have : r = [] := List.eq_nil_of_length_eq_zero (by omega)
    subst this
    rw [fileR, if_pos rfl] at h
    simp only [Prod.mk.injEq, and_true] at h
    exact ⟨[], by simp [h], by simp, fun size2 K2 acc2 x _ => by simp⟩
  | succ n ih =>
    intro r K acc zs hn h
    rw [fileR] at h
    split at h
    · rename_i hr
      subst hr
      simp only [Prod.mk.injEq, and_true] at h
      exact ⟨[], by simp [h], by simp, fun size2 K2 acc2 x _ => by simp⟩
    · rename_i hne
      rcases hh : headerR K r with ⟨K', y⟩
      rw [hh] at h
      cases y with
      | ok apex r' =>
        have hlt := headerR_lt hh
        dsimp only at h
        obtain ⟨pre, hp⟩ := body_pre size apex _ r' [] [] [] (Nat.le_refl _)
        have hbs := body_suf size apex _ r' [] [] [] (Nat.le_refl _)
        rcases hb : bodyR size apex [] [] [] r' with ⟨b, S, ds, r''⟩
        rw [hb] at h hp hbs
        replace hbs : r'' <:+ r' := hbs
        have hds : ds = [] := by
          cases b with
          | true =>
            dsimp only at h
            split at h
            · obtain ⟨new, hp2⟩ := file_pre size _ r'' K' (acc ++ [⟨apex, S⟩]) ds (Nat.le_refl _)
              rw [h] at hp2
              exact (List.append_eq_nil_iff.1 hp2.symm).1
            · simp only [Prod.mk.injEq] at h; exact h.2
          | false => simp only [Prod.mk.injEq] at h; exact h.2
        subst hds
        obtain ⟨rfl, hB⟩ := body_free _ r' [] [] b S r'' (Nat.le_refl _) hb
        have hkk : K' = apex :: K ∧ apex ∉ K := by
          have hx := hh
          unfold headerR at hx
          split at hx
          · cases hx
          · split at hx
            · cases hx
            · split at hx
              · cases hx
              · split at hx
                · cases hx
                · rename_i hk
                  split at hx
                  · cases hx
                  · simp only [Prod.mk.injEq, Res.ok.injEq] at hx
                    rw [← hx.1, ← hx.2.1]
                    exact ⟨rfl, hk⟩
        obtain ⟨rfl, hk⟩ := hkk
        dsimp only at h
        have hl2 := hbs.length_le
        rw [if_pos (by omega)] at h
        obtain ⟨new, rfl, h2, h3⟩ := ih r'' _ _ _ (by omega) h
        refine ⟨⟨apex, S⟩ :: new, by simp, fun z hz => ?_, fun size2 K2 acc2 x hx => ?_⟩
        · rcases List.mem_cons.1 hz with e | hz
          · subst e; exact hk
          · exact fun e => h2 z hz (List.mem_cons_of_mem _ e)
        · have hne2 : r ++ x ≠ [] := by simp [hne]
          rw [fileR, if_neg hne2, headerR_app hh x K2 (hx ⟨apex, S⟩ (by simp))]
          dsimp only
          rw [hB size2 [] x]
          dsimp only
          rw [if_pos (by simp; omega)]
          rw [h3 size2 (apex :: K2) (acc2 ++ [Zone.mk apex S]) x (fun z hz => by
            rw [List.mem_cons, not_or]
            exact ⟨fun e => h2 z hz (by rw [e]; simp), hx z (List.mem_cons_of_mem _ hz)⟩)]
          simp
      | err e r' =>
        exfalso
        dsimp only at h
        split at h
        · simp at h
        · rw [if_pos (header_err_lt hh hne)] at h
          obtain ⟨new, hp⟩ := file_pre size _ (skipZ r') K' acc ([] ++ [⟨e, posT size r'⟩]) (Nat.le_refl _)
          rw [h] at hp
          exact snoc_ne hp
end Go.Proofs.YtnbolgdccdnjeaaGreatDoor.Np
/- The plain law of two files, one after the other: diagnostics. No program in sight. -/
namespace Go.Proofs.YtnbolgdccdnjeaaGreatDoor.Np
theorem posT_nil_le {size : Int} {r r' : List Tok} (h : Placed size r) (hs : r' <:+ r) {p : Int} (hp : posT size r' ≤ p) : posT size r ≤ p := by
  have := posT_le h hs; omega
/-- What is new stands at or behind what is read. -/
theorem body_low {size : Int} {apex : List UInt8} : ∀ (n : Nat) (r : List Tok) (sets : List (List UInt8 × Int)) (acc : List Signed) (diags : List Diag), r.length ≤ n → Placed size r →
    ∃ new, (bodyR size apex sets acc diags r).2.2.1 = diags ++ new ∧ ∀ d ∈ new, posT size r ≤ d.pos := by
  intro n
  induction n with
  | zero =>
    intro r sets acc diags hn hP
    have : r = [] := List.eq_nil_of_length_eq_zero (by omega)
    subst this
    have h1 : isS [125] ([] : List Tok) = false := rfl
    rw [bodyR, h1, if_neg (by simp)]
    cases hh : entryR apex sets [] with
    | ok s r' => have := entryR_lt hh; simp at this
    | err e r' =>
      have hf := entryR_fine apex sets []
      rw [hh] at hf
      have hr' : r' = [] := List.suffix_nil.1 hf.1
      subst hr'
      dsimp only
      split
      · exact ⟨_, rfl, by simp⟩
      · rw [if_pos (by rfl)]; exact ⟨_, rfl, by simp⟩
  | succ n ih =>
    intro r sets acc diags hn hP
    rw [bodyR]
    split
    · exact ⟨[], (List.append_nil _).symm, by simp⟩
    · cases hh : entryR apex sets r with
      | ok s r' =>
        dsimp only
        split
        · have hf := entryR_fine apex sets r
          rw [hh] at hf
          have hf : r' <:+ r := hf
          obtain ⟨new, h1, h2⟩ := ih r' ((s.name, s.type) :: sets) (acc ++ [⟨s, []⟩]) diags (by omega) (hP.suf hf)
          exact ⟨new, h1, fun d hd => posT_nil_le hP hf (h2 d hd)⟩
        · exact ⟨[], (List.append_nil _).symm, by simp⟩
      | err e r' =>
        have hf := entryR_fine apex sets r
        rw [hh] at hf
        have hf : r' <:+ r := hf.1
        have hp := posT_le hP hf
        dsimp only
        split
        · exact ⟨_, rfl, by simpa using hp⟩
        · split
          · exact ⟨_, rfl, by simpa using hp⟩
          · split
            · split
              · have hs : (skipR r').tail <:+ r := ((suf_tail _).trans (skipR_suf r')).trans hf
                obtain ⟨new, h1, h2⟩ := ih (skipR r').tail sets acc (diags ++ [⟨e, posT size r'⟩]) (by omega) (hP.suf hs)
                refine ⟨⟨e, posT size r'⟩ :: new, by rw [h1]; simp, fun d hd => ?_⟩
                rcases List.mem_cons.1 hd with rfl | hd
                · exact hp
                · exact posT_nil_le hP hs (h2 d hd)
              · exact ⟨[], (List.append_nil _).symm, by simp⟩
            · split
              · have hs : skipR r' <:+ r := (skipR_suf r').trans hf
                obtain ⟨new, h1, h2⟩ := ih (skipR r') sets acc (diags ++ [⟨e, posT size r'⟩]) (by omega) (hP.suf hs)
                refine ⟨⟨e, posT size r'⟩ :: new, by rw [h1]; simp, fun d hd => ?_⟩
                rcases List.mem_cons.1 hd with rfl | hd
                · exact hp
                · exact posT_nil_le hP hs (h2 d hd)
              · exact ⟨[], (List.append_nil _).symm, by simp⟩
theorem file_low {size : Int} : ∀ (n : Nat) (r : List Tok) (known : List (List UInt8)) (zones : List Zone) (diags : List Diag), r.length ≤ n → Placed size r →
    ∃ new, (fileR size known zones diags r).2 = diags ++ new ∧ ∀ d ∈ new, posT size r ≤ d.pos := by
  intro n
  induction n with
  | zero =>
    intro r known zones diags hn hP
    have : r = [] := List.eq_nil_of_length_eq_zero (by omega)
    subst this
    rw [fileR, if_pos rfl]
    exact ⟨[], (List.append_nil _).symm, by simp⟩
  | succ n ih =>
    intro r known zones diags hn hP
    rw [fileR]
    split
    · exact ⟨[], (List.append_nil _).symm, by simp⟩
    · rcases hh : headerR known r with ⟨known', x⟩
      have hf := headerR_fine known r
      rw [hh] at hf
      cases x with
      | ok apex r' =>
        have hf : r' <:+ r := hf
        have hlt := headerR_lt hh
        dsimp only
        obtain ⟨new, hp, hp2⟩ := body_low (apex := apex) _ r' [] [] diags (Nat.le_refl _) (hP.suf hf)
        have hbs := body_suf size apex _ r' [] [] diags (Nat.le_refl _)
        rcases hb : bodyR size apex [] [] diags r' with ⟨b, sets, diags', r''⟩
        rw [hb] at hp hbs
        replace hp : diags' = diags ++ new := hp
        replace hbs : r'' <:+ r' := hbs
        cases b with
        | true =>
          dsimp only
          split
          · obtain ⟨new2, h2, h3⟩ := ih r'' known' (zones ++ [⟨apex, sets⟩]) diags' (by omega) ((hP.suf hf).suf hbs)
            refine ⟨new ++ new2, by rw [h2, hp, List.append_assoc], fun d hd => ?_⟩
            rcases List.mem_append.1 hd with hd | hd
            · exact posT_nil_le hP hf (hp2 d hd)
            · exact posT_nil_le hP (hbs.trans hf) (h3 d hd)
          · exact ⟨new, hp, fun d hd => posT_nil_le hP hf (hp2 d hd)⟩
        | false => exact ⟨new, hp, fun d hd => posT_nil_le hP hf (hp2 d hd)⟩
      | err e r' =>
        have hf : r' <:+ r := hf.1
        have hp := posT_le hP hf
        dsimp only
        split
        · exact ⟨_, rfl, by simpa using hp⟩
        · split
          · have hs : skipZ r' <:+ r := (skipZ_suf r').trans hf
            obtain ⟨new, h1, h2⟩ := ih (skipZ r') known' zones (diags ++ [⟨e, posT size r'⟩]) (by omega) (hP.suf hs)
            refine ⟨⟨e, posT size r'⟩ :: new, by rw [h1]; simp, fun d hd => ?_⟩
            rcases List.mem_cons.1 hd with rfl | hd
            · exact hp
            · exact posT_nil_le hP hs (h2 d hd)
          · exact ⟨[], (List.append_nil _).symm, by simp⟩
/-- A header, with more names that are known. -/
theorem header_more {K K2 : List (List UInt8)} (hK : ∀ x ∈ K, x ∈ K2) (r : List Tok) :
    (∀ K' a r', headerR K r = (K', .ok a r') → K' = a :: K ∧ (headerR K2 r = (a :: K2, .ok a r') ∨ (headerR K2 r = (K2, .err 5 r.tail) ∧ r' <:+ r.tail))) ∧
    (∀ K' e r', headerR K r = (K', .err e r') → ∃ K2' e2 r2, headerR K2 r = (K2', .err e2 r2) ∧ r' <:+ r2) := by
  unfold headerR
  split
  · exact ⟨fun _ _ _ h => by simp at h, fun _ e r' h => by simp only [Prod.mk.injEq, Res.err.injEq] at h; exact ⟨_, _, _, rfl, by rw [← h.2.2]; exact List.suffix_refl _⟩⟩
  · split
    · exact ⟨fun _ _ _ h => by simp at h, fun _ e r' h => by simp only [Prod.mk.injEq, Res.err.injEq] at h; exact ⟨_, _, _, rfl, by rw [← h.2.2]; exact List.suffix_refl _⟩⟩
    · split
      · exact ⟨fun _ _ _ h => by simp at h, fun _ e r' h => by simp only [Prod.mk.injEq, Res.err.injEq] at h; exact ⟨_, _, _, rfl, by rw [← h.2.2]; exact List.suffix_refl _⟩⟩
      · by_cases hk : (peekT r.tail).text ∈ K
        · rw [if_pos hk, if_pos (hK _ hk)]
          exact ⟨fun _ _ _ h => by simp at h, fun _ e r' h => by simp only [Prod.mk.injEq, Res.err.injEq] at h; exact ⟨_, _, _, rfl, by rw [← h.2.2]; exact List.suffix_refl _⟩⟩
        · rw [if_neg hk]
          by_cases hk2 : (peekT r.tail).text ∈ K2
          · rw [if_pos hk2]
            split
            · exact ⟨fun _ _ _ h => by simp at h, fun _ e r' h => by simp only [Prod.mk.injEq, Res.err.injEq] at h; exact ⟨_, _, _, rfl, by rw [← h.2.2]; exact suf_tail _⟩⟩
            · refine ⟨fun K' a r' h => ?_, fun _ _ _ h => by simp at h⟩
              simp only [Prod.mk.injEq, Res.ok.injEq] at h
              exact ⟨by rw [← h.1, ← h.2.1], .inr ⟨rfl, by rw [← h.2.2]; exact suf2 _⟩⟩
          · rw [if_neg hk2]
            split
            · exact ⟨fun _ _ _ h => by simp at h, fun _ e r' h => by simp only [Prod.mk.injEq, Res.err.injEq] at h; exact ⟨_, _, _, rfl, by rw [← h.2.2]; exact List.suffix_refl _⟩⟩
            · refine ⟨fun K' a r' h => ?_, fun _ _ _ h => by simp at h⟩
              simp only [Prod.mk.injEq, Res.ok.injEq] at h
              exact ⟨by rw [← h.1, ← h.2.1], .inl (by rw [← h.2.1, ← h.2.2])⟩
/-- With an error at its header the file has this diagnostic first. -/
theorem file_err {size : Int} {K K' : List (List UInt8)} {r r' : List Tok} {e : Int} (zs : List Zone) (hne : r ≠ []) (h : headerR K r = (K', .err e r')) : ∃ new, (fileR size K zs [] r).2 = ⟨e, posT size r'⟩ :: new := by
  rw [fileR, if_neg hne, h]
  dsimp only
  rw [if_neg (by simp), if_pos (header_err_lt h hne)]
  obtain ⟨new, h1⟩ := file_pre size _ (skipZ r') K' zs ([] ++ [⟨e, posT size r'⟩]) (Nat.le_refl _)
  exact ⟨new, by rw [h1]; rfl⟩
/-- With more names that are known the first diagnostic does not come later. -/
theorem file_first {size : Int} : ∀ (n : Nat) (r : List Tok) (K K2 : List (List UInt8)) (zs zs2 : List Zone) (d : Diag) (rest : List Diag), r.length ≤ n → Placed size r → (∀ x ∈ K, x ∈ K2) → (fileR size K zs [] r).2 = d :: rest →
    ∃ d2 rest2, (fileR size K2 zs2 [] r).2 = d2 :: rest2 ∧ d2.pos ≤ d.pos := by
  intro n
  induction n with
  | zero =>
    intro r K K2 zs zs2 d rest hn hP hK h
    have : r = [] := List.eq_nil_of_length_eq_zero (by omega)
    subst this
    rw [fileR, if_pos rfl] at h
    cases h
  | succ n ih =>
    intro r K K2 zs zs2 d rest hn hP hK h
    by_cases hne : r = []
    · rw [fileR, if_pos hne] at h; cases h
    rcases hh : headerR K r with ⟨K', x⟩
    obtain ⟨m1, m2⟩ := header_more hK r
    have hf := headerR_fine K r
    rw [hh] at hf
    cases x with
    | err e r' =>
      obtain ⟨K2', e2, r2, h2, hs⟩ := m2 K' e r' hh
      obtain ⟨new, e1⟩ := file_err (size := size) zs hne hh
      obtain ⟨new2, e3⟩ := file_err (size := size) zs2 hne h2
      rw [e1] at h
      simp only [List.cons.injEq] at h
      have hf2 := headerR_fine K2 r
      rw [h2] at hf2
      refine ⟨_, _, e3, ?_⟩
      rw [← h.1]
      exact posT_le (hP.suf hf2.1) hs
    | ok apex r' =>
      have hf : r' <:+ r := hf
      have hlt := headerR_lt hh
      obtain ⟨rfl, m1⟩ := m1 K' apex r' hh
      have hbs := body_suf size apex _ r' [] [] [] (Nat.le_refl _)
      obtain ⟨nb, hb1, hb2⟩ := body_low (size := size) (apex := apex) _ r' [] [] [] (Nat.le_refl _) (hP.suf hf)
      rcases m1 with m1 | ⟨m1, hs⟩
      · rw [fileR, if_neg hne, hh] at h
        rw [fileR, if_neg hne, m1]
        dsimp only at h ⊢
        rcases hb : bodyR size apex [] [] [] r' with ⟨b, S, ds, r''⟩
        rw [hb] at h hbs hb1
        replace hbs : r'' <:+ r' := hbs
        have hl2 := hbs.length_le
        cases b with
        | false =>
          dsimp only at h ⊢
          exact ⟨d, rest, h, Int.le_refl _⟩
        | true =>
          dsimp only at h ⊢
          rw [if_pos (by omega)] at h ⊢
          cases ds with
          | nil => exact ih r'' (apex :: K) (apex :: K2) _ _ d rest (by omega) ((hP.suf hf).suf hbs) (fun x hx => by
              rcases List.mem_cons.1 hx with e | hx
              · rw [e]; simp
              · exact List.mem_cons_of_mem _ (hK x hx)) h
          | cons d0 ds =>
            obtain ⟨nw, g1⟩ := file_pre size _ r'' (apex :: K) (zs ++ [⟨apex, S⟩]) (d0 :: ds) (Nat.le_refl _)
            obtain ⟨nw2, g2⟩ := file_pre size _ r'' (apex :: K2) (zs2 ++ [⟨apex, S⟩]) (d0 :: ds) (Nat.le_refl _)
            rw [g1] at h
            simp only [List.cons_append, List.cons.injEq] at h
            exact ⟨d0, ds ++ nw2, g2, by rw [h.1]; exact Int.le_refl _⟩
      · obtain ⟨new2, e3⟩ := file_err (size := size) zs2 hne m1
        refine ⟨_, _, e3, ?_⟩
        obtain ⟨new, g1, g2⟩ := file_low (size := size) _ r K zs [] (Nat.le_refl _) hP
        -- the first diagnostic comes from behind the header
        rw [fileR, if_neg hne, hh] at h
        dsimp only at h
        rcases hb : bodyR size apex [] [] [] r' with ⟨b, S, ds, r''⟩
        rw [hb] at h hbs hb1
        replace hbs : r'' <:+ r' := hbs
        have hl2 := hbs.length_le
        have hP' := hP.suf hf
        have hq : posT size r' ≤ d.pos := by
          cases b with
          | false =>
            dsimp only at h hb1
            rw [List.nil_append] at hb1
            exact hb2 d (by rw [← hb1, h]; simp)
          | true =>
            dsimp only at h hb1
            rw [if_pos (by omega)] at h
            rw [List.nil_append] at hb1
            obtain ⟨nw, k1, k2⟩ := file_low (size := size) _ r'' (apex :: K) (zs ++ [⟨apex, S⟩]) ds (Nat.le_refl _) (hP'.suf hbs)
            rw [k1] at h
            have hm : d ∈ ds ++ nw := by rw [h]; simp
            rcases List.mem_append.1 hm with hm | hm
            · exact hb2 d (by rw [← hb1]; exact hm)
            · exact posT_nil_le hP' hbs (k2 d hm)
        have := posT_le (hP.suf (suf_tail r)) hs
        dsimp only
        omega
theorem shift_mv (k : Nat) (l : List Tok) : l.map (shift k) = mvL (fun x => x + k) l := rfl
theorem placed_mv {size : Int} {l : List Tok} (h : Placed size l) (k : Nat) : Placed (size + k) (mvL (fun x => x + k) l) := by
  refine ⟨?_, fun t ht => ?_⟩
  · unfold mvL
    rw [List.pairwise_map]
    exact h.1.imp fun hab => by simp only [mvT]; omega
  · obtain ⟨u, hu, rfl⟩ := List.mem_map.1 ht
    have := h.2 u hu
    simp only [mvT]; omega
/-- Two files, one after the other. -/
theorem parse_joins {a b : List UInt8} {l : List Zone} (ha : parse a = (l, [])) (h8 : a.length + b.length + 1 ≤ 8000)
    (hC : ¬ (((parse b).2.length = 1 ∧ ∀ d ∈ (parse b).2, d.err ≠ 10) ∨ ((parse (a ++ 10 :: b)).2.length = 1 ∧ ∀ d ∈ (parse (a ++ 10 :: b)).2, d.err = 2))) :
    ((∃ x ∈ l, ∃ y ∈ (parse b).1, x.apex = y.apex) → (parse (a ++ 10 :: b)).2 ≠ []) ∧
    ((∀ x ∈ l, ∀ y ∈ (parse b).1, x.apex ≠ y.apex) → (parse b).2 = [] → parse (a ++ 10 :: b) = (l ++ (parse b).1, [])) ∧
    ((parse b).2 ≠ [] → (parse (a ++ 10 :: b)).1 = [] ∧ ∃ d2 r2 d r, (parse (a ++ 10 :: b)).2 = d2 :: r2 ∧ (parse b).2 = d :: r ∧ (a.length : Int) < d2.pos ∧ d2.pos ≤ d.pos + a.length + 1) := by
  have ha0 : (lex a).2.1 = 0 := by
    by_cases h : (lex a).2.1 = 0
    · exact h
    · rw [parse_bad h] at ha; simp at ha
  have hla := lex_eta ha0
  rw [parse_of hla] at ha
  have hfa : fileR a.length [] [] [] (lex a).1 = (l, []) := by
    split at ha
    · rename_i hc
      simp only [Prod.mk.injEq, and_true] at ha
      exact Prod.ext ha hc
    · rename_i hc
      simp only [Prod.mk.injEq] at ha
      exact absurd ha.2 hc
  by_cases hb2 : (lex b).2.1 = 2
  · exfalso
    apply hC
    left
    rw [parse_bad (by rw [hb2]; decide), hb2]
    exact ⟨rfl, by simp⟩
  rcases lex_two hla (by omega) h8 hb2 with h | ⟨hb0, h⟩ | ⟨hb0, h⟩
  · exfalso
    apply hC
    right
    rw [parse_bad (by rw [h]; decide), h]
    exact ⟨rfl, by simp⟩
  · have hlb := lex_eta hb0
    obtain ⟨p1, _, _, _⟩ := lex_placed hlb
    have hsz : ((a ++ 10 :: b).length : Int) = (b.length : Int) + ((a.length + 1 : Nat) : Int) := by simp; omega
    obtain ⟨new, hln, n2, n3⟩ := file_free _ (lex a).1 [] [] l (Nat.le_refl _) hfa
    rw [List.nil_append] at hln
    subst l
    have hj := n3 ((a ++ 10 :: b).length) [] [] ((lex b).1.map (shift (a.length + 1 : Nat))) (by simp)
    rw [List.append_nil, List.nil_append] at hj
    have hmv := fun K zs => fileR_mv (fun x => x + ((a.length + 1 : Nat) : Int)) b.length _ (lex b).1 K zs [] rfl
    simp only [List.map_nil] at hmv
    rw [hsz, shift_mv, hmv] at hj
    generalize hK : (new.map (·.apex)).reverse = K2 at hj
    have hKm : ∀ y : Zone, y.apex ∈ K2 ↔ ∃ x ∈ new, x.apex = y.apex := fun y => by rw [← hK]; simp
    rw [parse_of hlb, parse_of h, hsz, shift_mv, hj]
    dsimp only
    by_cases he : (fileR b.length [] [] [] (lex b).1).2 = []
    · rw [if_pos he]
      have hfb : fileR b.length [] [] [] (lex b).1 = ((fileR b.length [] [] [] (lex b).1).1, []) := Prod.ext rfl he
      obtain ⟨newb, m1, m2, m3⟩ := file_free _ (lex b).1 [] [] _ (Nat.le_refl _) hfb
      rw [List.nil_append] at m1
      rw [m1]
      refine ⟨fun ⟨x, hx, y, hy, hxy⟩ hc => ?_, fun hd _ => ?_, fun hc => absurd rfl hc⟩
      · by_cases hf : (fileR b.length K2 new [] (lex b).1).2 = []
        · have hf2 : fileR b.length K2 new [] (lex b).1 = ((fileR b.length K2 new [] (lex b).1).1, []) := Prod.ext rfl hf
          obtain ⟨new2, k1, k2, k3⟩ := file_free _ (lex b).1 K2 new _ (Nat.le_refl _) hf2
          have e1 := k3 b.length [] [] [] (by simp)
          rw [List.append_nil, fileR.eq_1 (r := []), if_pos rfl, List.nil_append, hfb, m1] at e1
          simp only [Prod.mk.injEq, and_true] at e1
          rw [e1] at hy
          exact k2 y hy ((hKm y).2 ⟨x, hx, hxy⟩)
        · rw [if_neg (by simpa using hf)] at hc
          simp at hc
          exact hf hc
      · have e1 := m3 b.length K2 new [] (fun z hz hk => by
          obtain ⟨x, hx, hxz⟩ := (hKm z).1 hk
          exact hd x hx z hz hxz)
        rw [List.append_nil, fileR.eq_1 (r := []), if_pos rfl] at e1
        rw [e1]
        simp
    · rw [if_neg he]
      refine ⟨fun ⟨x, _, y, hy, _⟩ => by simp at hy, fun _ hc => absurd hc he, fun _ => ?_⟩
      cases hd : (fileR b.length [] [] [] (lex b).1).2 with
      | nil => exact absurd hd he
      | cons d r =>
        obtain ⟨d2, r2, e1, e2⟩ := file_first _ (lex b).1 [] K2 [] new d r (Nat.le_refl _) p1 (by simp) hd
        obtain ⟨nw, e3, e4⟩ := file_low _ (lex b).1 K2 new [] (Nat.le_refl _) p1
        rw [e1]
        rw [e1, List.nil_append] at e3
        have hpos := (posT_bd p1 (by omega)).1
        have hd2 := e4 d2 (by rw [← e3]; simp)
        rw [if_neg (by simp)]
        refine ⟨rfl, mvD (fun x => x + ((a.length + 1 : Nat) : Int)) d2, r2.map (mvD fun x => x + ((a.length + 1 : Nat) : Int)), d, r, by simp, rfl, ?_, ?_⟩
        · simp only [mvD]; omega
        · simp only [mvD]; omega
  · have hnb : (lex (a ++ 10 :: b)).2.1 ≠ 0 := by rw [h]; exact hb0
    rw [parse_bad hb0, parse_bad hnb, h]
    refine ⟨fun ⟨x, _, y, hy, _⟩ => by simp at hy, fun _ hc => by simp at hc, fun _ => ⟨rfl, _, _, _, _, rfl, rfl, ?_, ?_⟩⟩
    · dsimp only; omega
    · dsimp only; omega
end Go.Proofs.YtnbolgdccdnjeaaGreatDoor.Np
/- The lexer, by fuel: so that examples can be computed. -/
namespace Go.Proofs.YtnbolgdccdnjeaaGreatDoor.Np
def lexN : Nat → List UInt8 → Nat → Nat → List Tok × Int × Nat
  | 0, _, _, _ => ([], 0, 0)
  | _ + 1, [], _, _ => ([], 0, 0)
  | f + 1, c :: r, p, k =>
    if cls c = 1 ∨ cls c = 2 then lexN f (r.drop (width (c :: r) - 1)) (p + width (c :: r)) k
    else if width (c :: r) = 0 then ([], 10, p)
    else if k = 2000 then ([], 2, p)
    else if (tokOf (cls c) ((c :: r).take (width (c :: r)))).1 ≠ 0 then ([], (tokOf (cls c) ((c :: r).take (width (c :: r)))).1, p)
    else ({ (tokOf (cls c) ((c :: r).take (width (c :: r)))).2 with pos := p } :: (lexN f (r.drop (width (c :: r) - 1)) (p + width (c :: r)) (k + 1)).1, (lexN f (r.drop (width (c :: r) - 1)) (p + width (c :: r)) (k + 1)).2)
theorem lexN_eq : ∀ (f : Nat) (l : List UInt8) (p k : Nat), l.length < f → lexN f l p k = lexFrom l p k
  | 0, _, _, _, h => by omega
  | f + 1, [], _, _, _ => by rw [lexN, lexFrom]
  | f + 1, c :: r, p, k, h => by
    simp only [List.length_cons] at h
    rw [lexN, lexFrom, lexN_eq f (r.drop (width (c :: r) - 1)) _ k (by simp; omega), lexN_eq f (r.drop (width (c :: r) - 1)) _ (k + 1) (by simp; omega)]
theorem lex_eval {s : List UInt8} {x : List Tok × Int × Nat} (h8 : s.length ≤ 8000) (h : lexN (s.length + 1) s 0 0 = x) : lex s = if x.2.1 = 0 then (x.1, 0, 0) else ([], x.2) := by
  rw [lexN_eq _ _ _ _ (by omega)] at h
  rw [lex, if_neg (by omega), h]
theorem ex1 : lex [122, 111, 110, 101, 32, 120, 46, 32, 123, 32, 64, 32, 116, 101, 120, 116, 32, 34, 97, 32, 98, 34, 59, 32, 125] =
    ([⟨1, [122, 111, 110, 101], 0, 0⟩, ⟨1, [120, 46], 0, 5⟩, ⟨3, [123], 0, 8⟩, ⟨3, [64], 0, 10⟩, ⟨1, [116, 101, 120, 116], 0, 12⟩, ⟨1, [34, 97, 32, 98, 34], 0, 17⟩, ⟨3, [59], 0, 22⟩, ⟨3, [125], 0, 24⟩], 0, 0) :=
  lex_eval (x := ([⟨1, [122, 111, 110, 101], 0, 0⟩, ⟨1, [120, 46], 0, 5⟩, ⟨3, [123], 0, 8⟩, ⟨3, [64], 0, 10⟩, ⟨1, [116, 101, 120, 116], 0, 12⟩, ⟨1, [34, 97, 32, 98, 34], 0, 17⟩, ⟨3, [59], 0, 22⟩, ⟨3, [125], 0, 24⟩], 0, 0)) (by decide) (by decide +kernel)
theorem ex2 : lex [48, 97, 32, 55, 32, 35, 32, 56, 10, 46, 32, 42, 46, 97] = ([⟨1, [48, 97], 0, 0⟩, ⟨2, [], 7, 3⟩, ⟨1, [46], 0, 9⟩, ⟨1, [42, 46, 97], 0, 11⟩], 0, 0) := lex_eval (x := ([⟨1, [48, 97], 0, 0⟩, ⟨2, [], 7, 3⟩, ⟨1, [46], 0, 9⟩, ⟨1, [42, 46, 97], 0, 11⟩], 0, 0)) (by decide) (by decide +kernel)
theorem ex3 : lex [45, 97] = ([], 10, 0) := lex_eval (x := ([], 10, 0)) (by decide) (by decide +kernel)
theorem ex4 : lex [32, 46, 97] = ([], 10, 1) := lex_eval (x := ([], 10, 1)) (by decide) (by decide +kernel)
theorem ex5 : lex [97, 32, 48, 49] = ([], 10, 2) := lex_eval (x := ([⟨1, [97], 0, 0⟩], 10, 2)) (by decide) (by decide +kernel)
theorem ex6 : lex [49, 48, 48, 48, 48, 48, 48, 48, 48, 49] = ([], 3, 0) := lex_eval (x := ([], 3, 0)) (by decide) (by decide +kernel)
theorem ex7 : lex [34, 34] = ([], 10, 0) := lex_eval (x := ([], 10, 0)) (by decide) (by decide +kernel)
end Go.Proofs.YtnbolgdccdnjeaaGreatDoor.Np
/- The parser, by fuel: so that examples can be computed; sorted lists are one alone. No program in sight. -/
namespace Go.Proofs.YtnbolgdccdnjeaaGreatDoor.Np
theorem TO.tie {α : Type} {c : α → α → Int} (h : TO c) {a b : α} (h1 : ¬ c b a < 0) (h2 : ¬ c a b < 0) : a = b := by
  refine h.zero a b ?_
  by_cases h3 : 0 < c a b
  · exact absurd (h.anti' _ _ h3) h1
  · omega
theorem sorted_unique {α : Type} {le : α → α → Prop} : ∀ {l1 l2 : List α}, (∀ a ∈ l1, ∀ b ∈ l1, le a b → le b a → a = b) → l1.Pairwise le → l2.Pairwise le → l1.Perm l2 → l1 = l2
  | [], l2, _, _, _, hp => hp.nil_eq
  | a :: l1, l2, ha, h1, h2, hp => by
    cases l2 with
    | nil => exact absurd hp.length_eq (by simp)
    | cons b l2 =>
      have hab : a = b := by
        have hb : b ∈ a :: l1 := hp.mem_iff.2 (by simp)
        have ha2 : a ∈ b :: l2 := hp.mem_iff.1 (by simp)
        rcases List.mem_cons.1 hb with e | hb1
        · exact e.symm
        · rcases List.mem_cons.1 ha2 with e | ha1
          · exact e
          · exact ha a (by simp) b hb ((List.pairwise_cons.1 h1).1 b hb1) ((List.pairwise_cons.1 h2).1 a ha1)
      subst hab
      rw [sorted_unique (fun x hx y hy => ha x (List.mem_cons_of_mem _ hx) y (List.mem_cons_of_mem _ hy)) (List.pairwise_cons.1 h1).2 (List.pairwise_cons.1 h2).2 (List.Perm.cons_inv hp)]
theorem sortD_unique {l l' : List Datum} (hp : l.Perm l') (hs : l.Pairwise fun a b => ¬ cmpD b a < 0) : sortD l' = l :=
  (sorted_unique (fun _ _ _ _ h1 h2 => toD.tie h1 h2) hs (sortD_sorted l') (hp.trans (sortD_perm l').symm)).symm
theorem strict_le {α : Type} {c : α → α → Int} (h : TO c) {a b : α} (hab : c a b < 0) : ¬ c b a < 0 := by have := h.anti _ _ hab; omega
theorem sortS_unique {l l' : List Signed} (hp : l.Perm l') (hs : l.Pairwise fun a b => cmpSet a.set b.set < 0) : sortS l' = l := by
  have hle : l.Pairwise fun a b => ¬ cmpSet b.set a.set < 0 := hs.imp fun hab => by
    rw [cmpSet_key] at hab ⊢
    exact strict_le toKey hab
  refine (sorted_unique (fun a ha b hb h1 h2 => ?_) hle (sortS_sorted l') (hp.trans (sortS_perm l').symm)).symm
  rw [cmpSet_key] at h1 h2
  have he := toKey.tie h1 h2
  obtain ⟨i, hi, rfl⟩ := List.mem_iff_getElem.1 ha
  obtain ⟨j, hj, rfl⟩ := List.mem_iff_getElem.1 hb
  have hp := List.pairwise_iff_getElem.1 hs
  rcases Nat.lt_trichotomy i j with hl | hl | hl
  · have := hp i j hi hj hl
    rw [cmpSet_key, he, toKey.self] at this
    omega
  · subst hl; rfl
  · have := hp j i hj hi hl
    rw [cmpSet_key, he, toKey.self] at this
    omega
/-! ### By fuel -/
def insD (d : Datum) : List Datum → List Datum
  | [] => [d]
  | x :: l => if cmpD d x < 0 then d :: x :: l else x :: insD d l
def isortD (l : List Datum) : List Datum := l.foldr insD []
theorem insD_perm (d : Datum) : ∀ l, (insD d l).Perm (d :: l)
  | [] => List.Perm.refl _
  | x :: l => by
    unfold insD
    split
    · exact List.Perm.refl _
    · exact (List.Perm.cons x (insD_perm d l)).trans (List.Perm.swap _ _ _)
theorem insD_sorted (d : Datum) : ∀ l, l.Pairwise (fun a b => ¬ cmpD b a < 0) → (insD d l).Pairwise fun a b => ¬ cmpD b a < 0
  | [], _ => by simp [insD]
  | x :: l, h => by
    unfold insD
    obtain ⟨h1, h2⟩ := List.pairwise_cons.1 h
    split
    · rename_i hlt
      refine List.pairwise_cons.2 ⟨fun y hy => ?_, h⟩
      rcases List.mem_cons.1 hy with e | hy
      · subst e; exact strict_le toD hlt
      · intro hc
        exact h1 y hy (toD.trans _ _ _ hc hlt)
    · rename_i hlt
      refine List.pairwise_cons.2 ⟨fun y hy => ?_, insD_sorted d l h2⟩
      rcases List.mem_cons.1 ((insD_perm d l).mem_iff.1 hy) with e | hy
      · subst e; exact hlt
      · exact h1 y hy
theorem isortD_eq (l : List Datum) : sortD l = isortD l := by
  refine sortD_unique ?_ ?_
  · induction l with
    | nil => exact List.Perm.refl _
    | cons a l ih => exact (insD_perm a _).trans (List.Perm.cons a ih)
  · induction l with
    | nil => exact List.Pairwise.nil
    | cons a l ih => exact insD_sorted a _ ih
def entryE (apex : List UInt8) (sets : List (List UInt8 × Int)) (r : List Tok) : Res DSet :=
  match ownerR apex r with
  | .err e r' => .err e r'
  | .ok s r1 =>
    if isAny r1 = false then .err 10 r1
    else if typeR (peekT r1).text = 0 then .err 10 r1
    else if (isWild s && (decide (typeR (peekT r1).text ≠ 1) && decide (typeR (peekT r1).text ≠ 5))) = true then .err 12 r1
    else if (s, typeR (peekT r1).text) ∈ sets then .err 5 r1
    else match lifeR (typeR (peekT r1).text) r1.tail with
      | .err e r' => .err e r'
      | .ok life r2 => match dataR (typeR (peekT r1).text) 9 [] r2 with
        | .err e r' => .err e r'
        | .ok l r3 => .ok ⟨s, typeR (peekT r1).text, life, isortD l⟩ r3
theorem entryE_eq (apex : List UInt8) (sets : List (List UInt8 × Int)) (r : List Tok) : entryR apex sets r = entryE apex sets r := by
  have h : sortD = isortD := funext isortD_eq
  unfold entryR
  rw [h]
  rfl
def bodyE (size : Int) (apex : List UInt8) : Nat → List (List UInt8 × Int) → List Signed → List Diag → List Tok → Bool × List Signed × List Diag × List Tok
  | 0, _, acc, ds, r => (false, acc, ds, r)
  | f + 1, sets, acc, ds, r =>
    if isS [125] r = true then (true, acc, ds, r.tail)
    else match entryE apex sets r with
      | .ok s r' => if r'.length < r.length then bodyE size apex f ((s.name, s.type) :: sets) (acc ++ [⟨s, []⟩]) ds r' else (false, acc, ds, r')
      | .err e r' =>
        if 20 ≤ (ds ++ [Diag.mk e (posT size r')]).length then (false, acc, ds ++ [⟨e, posT size r'⟩], r')
        else if skipR r' = [] then (false, acc, ds ++ [⟨e, posT size r'⟩], [])
        else if isS [59] (skipR r') = true then (if (skipR r').tail.length < r.length then bodyE size apex f sets acc (ds ++ [⟨e, posT size r'⟩]) (skipR r').tail else (false, acc, ds, r'))
        else (if (skipR r').length < r.length then bodyE size apex f sets acc (ds ++ [⟨e, posT size r'⟩]) (skipR r') else (false, acc, ds, r'))
theorem bodyE_eq (size : Int) (apex : List UInt8) : ∀ (f : Nat) (sets : List (List UInt8 × Int)) (acc : List Signed) (ds : List Diag) (r : List Tok), r.length < f →
    bodyR size apex sets acc ds r = ((bodyE size apex f sets acc ds r).1, (if (bodyE size apex f sets acc ds r).1 = true then sortS (bodyE size apex f sets acc ds r).2.1 else (bodyE size apex f sets acc ds r).2.1), (bodyE size apex f sets acc ds r).2.2) := by
  intro f
  induction f with
  | zero => intro sets acc ds r h; omega
  | succ f ih =>
    intro sets acc ds r h
    rw [bodyR, bodyE, entryE_eq]
    split
    · rfl
    · cases hh : entryE apex sets r with
      | ok s r' =>
        dsimp only
        split
        · exact ih _ _ _ _ (by omega)
        · rfl
      | err e r' =>
        dsimp only
        split
        · rfl
        · split
          · rfl
          · split
            · split
              · exact ih _ _ _ _ (by omega)
              · rfl
            · split
              · exact ih _ _ _ _ (by omega)
              · rfl
/-- The examples of layer 4. -/
def pex1 : List UInt8 := [122, 111, 110, 101, 32, 120, 32, 123, 32, 64, 32, 115, 116, 97, 114, 116, 32, 49, 32, 54, 48, 59, 32, 64, 32, 115, 101, 114, 118, 101, 114, 32, 97, 46, 110, 115, 59, 32, 98, 46, 120, 32, 97, 100, 100, 114, 32, 55, 44, 32, 51, 59, 32, 125]
def pex2 : List UInt8 := [122, 111, 110, 101, 32, 120, 32, 123, 32, 121, 32, 97, 100, 100, 114, 32, 49, 59, 32, 98, 46, 120, 32, 97, 100, 100, 114, 32, 48, 59, 32, 64, 32, 97, 108, 105, 97, 115, 32, 97, 44, 32, 98, 59, 32, 125]
def pexS1 : Signed := ⟨⟨[120], 2, 300, [⟨[97, 46, 110, 115], 0, 0⟩]⟩, []⟩
def pexS2 : Signed := ⟨⟨[120], 4, 300, [⟨[], 1, 60⟩]⟩, []⟩
def pexS3 : Signed := ⟨⟨[98, 46, 120], 1, 300, [⟨[], 3, 0⟩, ⟨[], 7, 0⟩]⟩, []⟩
def pexZ : Zone := ⟨[120], [pexS1, pexS2, pexS3]⟩
theorem fileR_one {size : Int} {a : List UInt8} {r r' : List Tok} {K : List (List UInt8)} {S : List Signed} {ds : List Diag} (hne : r ≠ []) (hh : headerR [] r = (K, .ok a r')) (hb : bodyR size a [] [] [] r' = (true, S, ds, [])) : fileR size [] [] [] r = ([⟨a, S⟩], ds) := by
  have hlt := headerR_lt hh
  rw [fileR, if_neg hne, hh]
  dsimp only
  rw [hb]
  dsimp only
  rw [if_pos (by simp; omega), fileR, if_pos rfl]
  rfl
def ptk1 : List Tok := [⟨1, [122, 111, 110, 101], 0, 0⟩, ⟨1, [120], 0, 5⟩, ⟨3, [123], 0, 7⟩, ⟨3, [64], 0, 9⟩, ⟨1, [115, 116, 97, 114, 116], 0, 11⟩, ⟨2, [], 1, 17⟩, ⟨2, [], 60, 19⟩, ⟨3, [59], 0, 21⟩, ⟨3, [64], 0, 23⟩, ⟨1, [115, 101, 114, 118, 101, 114], 0, 25⟩, ⟨1, [97, 46, 110, 115], 0, 32⟩, ⟨3, [59], 0, 36⟩, ⟨1, [98, 46, 120], 0, 38⟩, ⟨1, [97, 100, 100, 114], 0, 42⟩, ⟨2, [], 7, 47⟩, ⟨3, [44], 0, 48⟩, ⟨2, [], 3, 50⟩, ⟨3, [59], 0, 51⟩, ⟨3, [125], 0, 53⟩]
def ptk2 : List Tok := [⟨1, [122, 111, 110, 101], 0, 0⟩, ⟨1, [120], 0, 5⟩, ⟨3, [123], 0, 7⟩, ⟨1, [121], 0, 9⟩, ⟨1, [97, 100, 100, 114], 0, 11⟩, ⟨2, [], 1, 16⟩, ⟨3, [59], 0, 17⟩, ⟨1, [98, 46, 120], 0, 19⟩, ⟨1, [97, 100, 100, 114], 0, 23⟩, ⟨2, [], 0, 28⟩, ⟨3, [59], 0, 29⟩, ⟨3, [64], 0, 31⟩, ⟨1, [97, 108, 105, 97, 115], 0, 33⟩, ⟨1, [97], 0, 39⟩, ⟨3, [44], 0, 40⟩, ⟨1, [98], 0, 42⟩, ⟨3, [59], 0, 43⟩, ⟨3, [125], 0, 45⟩]
theorem parse_ex1 : parse pex1 = ([pexZ], []) := by
  have hl : lex pex1 = (ptk1, 0, 0) := lex_eval (x := (ptk1, 0, 0)) (by decide) (by decide +kernel)
  have hb : bodyR 54 [120] [] [] [] (ptk1.drop 3) = (true, [pexS1, pexS2, pexS3], [], []) := by
    rw [bodyE_eq 54 [120] 20 [] [] [] (ptk1.drop 3) (by decide), show bodyE 54 [120] 20 [] [] [] (ptk1.drop 3) = (true, [pexS2, pexS1, pexS3], [], []) by decide +kernel]
    dsimp only
    rw [if_pos rfl, sortS_unique (l := [pexS1, pexS2, pexS3]) (by decide +kernel) (by decide +kernel)]
  have hf := fileR_one (r := ptk1) (r' := ptk1.drop 3) (K := [[120]]) (by decide) (by decide +kernel) hb
  unfold parse
  rw [hl]
  have h54 : ((pex1.length : Nat) : Int) = 54 := by decide
  rw [h54]
  dsimp only
  rw [hf]
  rfl
theorem parse_ex2 : parse pex2 = ([], [⟨20, 9⟩, ⟨3, 28⟩, ⟨2, 42⟩]) := by
  have hl : lex pex2 = (ptk2, 0, 0) := lex_eval (x := (ptk2, 0, 0)) (by decide) (by decide +kernel)
  have hb : bodyR 46 [120] [] [] [] (ptk2.drop 3) = (true, [], [⟨20, 9⟩, ⟨3, 28⟩, ⟨2, 42⟩], []) := by
    rw [bodyE_eq 46 [120] 20 [] [] [] (ptk2.drop 3) (by decide), show bodyE 46 [120] 20 [] [] [] (ptk2.drop 3) = (true, [], [⟨20, 9⟩, ⟨3, 28⟩, ⟨2, 42⟩], []) by decide +kernel]
    dsimp only
    rw [if_pos rfl, sortS_unique (l := []) (by decide +kernel) (by decide +kernel)]
  have hf := fileR_one (r := ptk2) (r' := ptk2.drop 3) (K := [[120]]) (by decide) (by decide +kernel) hb
  unfold parse
  rw [hl]
  have h46 : ((pex2.length : Nat) : Int) = 46 := by decide
  rw [h46]
  dsimp only
  rw [hf]
  rfl
theorem parse_ex0 : parse [] = ([], []) := by
  have hl : lex [] = ([], 0, 0) := lex_eval (x := ([], 0, 0)) (by decide) (by decide +kernel)
  unfold parse
  rw [hl]
  simp [fileR]
end Go.Proofs.YtnbolgdccdnjeaaGreatDoor.Np
