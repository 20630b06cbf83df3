/- The lexer, plain: the texts of tokens. -/
import Derived.Test.YtnbolgdccdnjeaaGreatDoorLexPlain3
namespace Go.Proofs.YtnbolgdccdnjeaaGreatDoor.Np
def decimal (n : Nat) : List UInt8 := if n < 10 then [UInt8.ofNat (48 + n)] else decimal (n / 10) ++ [UInt8.ofNat (48 + n % 10)]
def textOf (t : Tok) : List UInt8 := if t.kind = 2 then decimal t.n.toNat else t.text
theorem isDig_val {c : UInt8} (h : isDig c = true) : 48 ≤ c.toNat ∧ c.toNat ≤ 57 := by
  simp only [isDig, Bool.and_eq_true, decide_eq_true_eq, UInt8.le_iff_toNat_le] at h
  exact ⟨h.1, h.2⟩
theorem dec_snoc (t : List UInt8) (c : UInt8) : dec (t ++ [c]) = 10 * dec t + (c.toNat - 48) := by simp [dec]
theorem dig_back {c : UInt8} (h : isDig c = true) : UInt8.ofNat (48 + (c.toNat - 48)) = c := by
  obtain ⟨h1, h2⟩ := isDig_val h
  rw [show 48 + (c.toNat - 48) = c.toNat by omega]
  simp
theorem split_last : ∀ (s : List UInt8), s ≠ [] → ∃ t c, s = t ++ [c] := fun s h => ⟨s.dropLast, s.getLast h, (List.dropLast_concat_getLast h).symm⟩
theorem head_app {t u : List UInt8} (h : t ≠ []) : (t ++ u).head? = t.head? := by
  cases t with
  | nil => exact absurd rfl h
  | cons a t => rfl
theorem dec_pos : ∀ (n : Nat) (s : List UInt8), s.length ≤ n → s ≠ [] → s.all isDig = true → s.head? ≠ some 48 → 1 ≤ dec s := by
  intro n
  induction n with
  | zero => intro s h h0; exact absurd (List.eq_nil_of_length_eq_zero (by omega)) h0
  | succ n ih =>
    intro s hn h0 ha hh
    obtain ⟨t, c, rfl⟩ := split_last s h0
    rw [dec_snoc]
    simp only [List.all_append, List.all_cons, List.all_nil, Bool.and_true, Bool.and_eq_true] at ha
    by_cases ht : t = []
    · subst ht
      simp only [List.nil_append, List.head?_cons, ne_eq, Option.some.injEq] at hh
      have h1 := isDig_val ha.2
      have : c.toNat ≠ 48 := fun h => hh (UInt8.toNat_inj.1 h)
      omega
    · have h1 := ih t (by simp at hn; omega) ht ha.1 (by rwa [head_app ht] at hh)
      omega
theorem decimal_dec : ∀ (n : Nat) (s : List UInt8), s.length ≤ n → s ≠ [] → s.all isDig = true → ¬ (1 < s.length ∧ s.head? = some 48) → decimal (dec s) = s := by
  intro n
  induction n with
  | zero => intro s h h0; exact absurd (List.eq_nil_of_length_eq_zero (by omega)) h0
  | succ n ih =>
    intro s hn h0 ha hh
    obtain ⟨t, c, rfl⟩ := split_last s h0
    rw [dec_snoc]
    simp only [List.all_append, List.all_cons, List.all_nil, Bool.and_true, Bool.and_eq_true] at ha
    have h1 := isDig_val ha.2
    by_cases ht : t = []
    · subst ht
      have : dec [] = 0 := rfl
      rw [this, decimal, if_pos (by omega), Nat.mul_zero, Nat.zero_add, dig_back ha.2]
      rfl
    · have hl : 1 < (t ++ [c]).length := by
        have : t.length ≠ 0 := fun h => ht (List.eq_nil_of_length_eq_zero h)
        simp; omega
      have hd : t.head? ≠ some 48 := fun h => hh ⟨hl, by rw [head_app ht]; exact h⟩
      have hp := dec_pos _ t (Nat.le_refl _) ht ha.1 hd
      rw [decimal, if_neg (by omega), show (10 * dec t + (c.toNat - 48)) / 10 = dec t by omega, show (10 * dec t + (c.toNat - 48)) % 10 = c.toNat - 48 by omega, dig_back ha.2, ih t (by simp at hn; omega) ht ha.1 (fun h => hd h.2)]
/-- What follows a token's text: nothing, or a blank. -/
def Blank (y : List UInt8) : Prop := y = [] ∨ y.head? = some 32
theorem blank_stop {y : List UInt8} (h : Blank y) : y.takeWhile isRun = [] := by
  rcases h with rfl | h
  · rfl
  · cases y with
    | nil => rfl
    | cons c r => simp only [List.head?_cons, Option.some.injEq] at h; subst h; rfl
theorem takeWhile_len {p : UInt8 → Bool} (s : List UInt8) : s.take (s.takeWhile p).length = s.takeWhile p := by
  induction s with
  | nil => rfl
  | cons a s ih =>
    by_cases h : p a = true
    · simp [h, ih]
    · simp [h]
theorem takeWhile_mem {p : UInt8 → Bool} (s : List UInt8) : ∀ a ∈ s.takeWhile p, p a = true := by
  induction s with
  | nil => intro a h; cases h
  | cons b s ih =>
    intro a h
    by_cases hb : p b = true
    · rw [List.takeWhile_cons, if_pos hb] at h
      rcases List.mem_cons.1 h with rfl | h
      · exact hb
      · exact ih a h
    · rw [List.takeWhile_cons, if_neg hb] at h; cases h
theorem run_again {s y : List UInt8} (h : Blank y) : ((s.take (s.takeWhile isRun).length ++ y).takeWhile isRun).length = (s.takeWhile isRun).length := by
  rw [takeWhile_len, List.takeWhile_append_of_pos (takeWhile_mem s), blank_stop h, List.append_nil]
/-- A token's own text is as wide as it was. -/
theorem width_again (c : UInt8) (r y : List UInt8) (hg : ¬ (cls c = 1 ∨ cls c = 2)) (h0 : width (c :: r) ≠ 0) (hy : Blank y) : width ((c :: r).take (width (c :: r)) ++ y) = width (c :: r) := by
  have hc : (c :: r).take (width (c :: r)) = c :: r.take (width (c :: r) - 1) := by
    obtain ⟨m, hm⟩ : ∃ m, width (c :: r) = m + 1 := ⟨width (c :: r) - 1, by omega⟩
    rw [hm]; rfl
  have hlt := cls_lt c
  have hcs : cls c = 3 ∨ cls c = 5 ∨ cls c = 6 ∨ cls c = 7 := by
    have h4 : cls c ≠ 0 ∧ cls c ≠ 4 := by
      constructor <;> intro h <;> exact h0 (by rw [width]; simp [h])
    omega
  rcases hcs with h | h | h | h
  · have hw : ∀ x, width (c :: x) = ((c :: x).takeWhile isRun).length := fun x => by rw [width]; simp [h]
    have e := run_again (s := c :: r) hy
    rw [← hw r, hc, List.cons_append, ← hw] at e
    rw [hc, List.cons_append]
    exact e
  · have hw : ∀ x, width (c :: x) = if ((c :: x).takeWhile isRun).length = 1 then 1 else 0 := fun x => by rw [width]; simp [h]
    have h1 : ((c :: r).takeWhile isRun).length = 1 := by
      rw [hw] at h0
      split at h0
      · assumption
      · exact absurd rfl h0
    have e := run_again (s := c :: r) hy
    have hwr : width (c :: r) = 1 := by rw [hw, if_pos h1]
    rw [h1] at e
    rw [hwr] at hc ⊢
    rw [hc, List.cons_append] at e ⊢
    rw [hw, if_pos e]
  · have hw : ∀ x, width (c :: x) = quoteW x := fun x => by rw [width]; simp [h]
    rw [hc, List.cons_append, hw, hw]
    rw [hw] at h0
    have := quoteW_le r
    exact quoteW_take r (quoteW r - 1) y h0 (by omega) (by omega)
  · have hw : ∀ x, width (c :: x) = 1 := fun x => by rw [width]; simp [h]
    rw [hc, List.cons_append, hw, hw]
/-- A token, but for its place. -/
def core (t : Tok) : Tok := { t with pos := 0 }
/-- A text that is split as a token wherever a blank or the end follows. -/
def Good (x : List UInt8) (t : Tok) : Prop := ∃ c r, x = c :: r ∧ ¬ (cls c = 1 ∨ cls c = 2) ∧ (∀ y, Blank y → width (x ++ y) = x.length) ∧ (tokOf (cls c) x).1 = 0 ∧ core (tokOf (cls c) x).2 = core t
theorem tokOf_text {k : Nat} {x : List UInt8} (hx : x ≠ []) (h : (tokOf k x).1 = 0) (p : Int) : textOf { (tokOf k x).2 with pos := p } = x := by
  unfold tokOf at *
  split
  · simp [textOf]
  · rename_i h7
    rw [if_neg h7] at h
    split
    · rename_i h6
      rw [if_pos h6] at h
      split
      · rename_i h; simp_all
      · simp [textOf]
    · rename_i h6
      rw [if_neg h6] at h
      split
      · rename_i hd
        rw [if_pos hd] at h
        split
        · rename_i h; simp_all
        · simp [textOf]
      · rename_i hd
        rw [if_neg hd] at h
        split
        · rename_i hz
          rw [if_pos hz] at h
          simp at h
        · rename_i hz
          rw [if_neg hz] at h
          split
          · rename_i hb
            rw [if_pos hb] at h
            simp at h
          · simp only [textOf, if_true, Int.toNat_natCast]
            exact decimal_dec _ x (Nat.le_refl _) hx (by simpa using hd) hz
theorem tokOf_kind {k : Nat} {x : List UInt8} (h : (tokOf k x).1 = 0) : 1 ≤ (tokOf k x).2.kind ∧ (tokOf k x).2.kind ≤ 3 ∧ 0 ≤ (tokOf k x).2.n ∧ (tokOf k x).2.n ≤ 1000000000 := by
  unfold tokOf at *
  by_cases h7 : k = 7
  · simp only [if_pos h7]; omega
  · simp only [if_neg h7] at h ⊢
    by_cases h6 : k = 6
    · simp only [if_pos h6] at h ⊢
      by_cases h5 : 42 < x.length
      · simp only [if_pos h5] at h; omega
      · simp only [if_neg h5]; omega
    · simp only [if_neg h6] at h ⊢
      by_cases hd : x.all isDig = false
      · simp only [if_pos hd] at h ⊢
        by_cases h5 : 60 < x.length
        · simp only [if_pos h5] at h; omega
        · simp only [if_neg h5]; omega
      · simp only [if_neg hd] at h ⊢
        by_cases hz : 1 < x.length ∧ x.head? = some 48
        · simp only [if_pos hz] at h; omega
        · simp only [if_neg hz] at h ⊢
          by_cases hb : 1000000000 < dec x
          · simp only [if_pos hb] at h; omega
          · simp only [if_neg hb]; omega
theorem lex_good : ∀ (n : Nat) (s : List UInt8) (p k : Nat) (l : List Tok), s.length ≤ n → lexFrom s p k = (l, 0, 0) → ∀ t ∈ l, Good (textOf t) t ∧ 1 ≤ t.kind ∧ t.kind ≤ 3 ∧ 0 ≤ t.n ∧ t.n ≤ 1000000000 := by
  intro n
  induction n with
  | zero =>
    intro s p k l hn h t ht
    have : s = [] := List.eq_nil_of_length_eq_zero (by omega)
    subst this
    rw [lexFrom] at h
    cases h
    cases ht
  | succ n ih =>
    intro s p k l hn h t ht
    cases s with
    | nil => rw [lexFrom] at h; cases h; cases ht
    | cons c r =>
      have hle := width_le (c :: r)
      by_cases hg : cls c = 1 ∨ cls c = 2
      · have hw := width_gap (r := r) hg
        rw [lexFrom_gap p k hg] at h
        exact ih _ _ k l (by simp at hn ⊢; omega) h t ht
      · by_cases h0 : width (c :: r) = 0
        · rw [lexFrom_bad p k hg h0] at h; cases h
        · by_cases hk : k = 2000
          · subst hk
            rw [lexFrom_limit p hg h0] at h; cases h
          · by_cases he : (tokOf (cls c) ((c :: r).take (width (c :: r)))).1 = 0
            · rw [lexFrom_tok p k hg h0 hk he] at h
              generalize hx : lexFrom ((c :: r).drop (width (c :: r))) (p + width (c :: r)) (k + 1) = x at h
              obtain ⟨x1, x2⟩ := x
              simp only [Prod.mk.injEq] at h
              obtain ⟨h1, rfl⟩ := h
              subst h1
              rcases List.mem_cons.1 ht with rfl | ht
              · have hne : (c :: r).take (width (c :: r)) ≠ [] := by
                  intro h; have := congrArg List.length h; rw [List.length_take] at this; simp at this; omega
                have hkd := tokOf_kind he
                refine ⟨?_, hkd⟩
                rw [tokOf_text hne he]
                refine ⟨c, r.take (width (c :: r) - 1), ?_, hg, fun y hy => ?_, he, rfl⟩
                · obtain ⟨m, hm⟩ : ∃ m, width (c :: r) = m + 1 := ⟨width (c :: r) - 1, by omega⟩
                  rw [hm]; rfl
                · rw [width_again c r y hg h0 hy, List.length_take]; simp at hle ⊢; omega
              · exact ih _ _ (k + 1) x1 (by simp at hn ⊢; omega) hx t ht
            · rw [lexFrom_err p k hg h0 hk he] at h
              simp only [Prod.mk.injEq] at h
              exact absurd h.2.1 he
def joinB : List (List UInt8) → List UInt8
  | [] => []
  | [x] => x
  | x :: y :: r => x ++ 32 :: joinB (y :: r)
theorem good_step {x y : List UInt8} {t : Tok} (h : Good x t) (hy : Blank y) (p k : Nat) (hk : k ≠ 2000) : ∃ t', core t' = core t ∧ lexFrom (x ++ y) p k = (t' :: (lexFrom y (p + x.length) (k + 1)).1, (lexFrom y (p + x.length) (k + 1)).2) := by
  obtain ⟨c, r, rfl, hg, hw, he, hc⟩ := h
  have hw := hw y hy
  rw [List.cons_append] at hw ⊢
  have htk : (c :: (r ++ y)).take (width (c :: (r ++ y))) = c :: r := by rw [hw, show c :: (r ++ y) = (c :: r) ++ y from rfl, List.take_left]
  have hdr : (c :: (r ++ y)).drop (width (c :: (r ++ y))) = y := by rw [hw, show c :: (r ++ y) = (c :: r) ++ y from rfl, List.drop_left]
  rw [lexFrom_tok p k hg (by rw [hw]; simp) hk (by rw [htk]; exact he), htk, hdr, hw]
  exact ⟨_, by rw [← hc]; rfl, rfl⟩
theorem lex_texts_from : ∀ (l : List Tok) (p k : Nat), (∀ t ∈ l, Good (textOf t) t) → k + l.length ≤ 2000 → ∃ m, lexFrom (joinB (l.map textOf)) p k = (m, 0, 0) ∧ m.map core = l.map core := by
  intro l
  induction l with
  | nil => intro p k _ _; exact ⟨[], by simp [joinB, lexFrom], rfl⟩
  | cons t l ih =>
    intro p k hg hk
    have h1 := hg t (List.mem_cons_self ..)
    simp only [List.length_cons] at hk
    cases l with
    | nil =>
      obtain ⟨t', e1, e2⟩ := good_step h1 (.inl rfl : Blank []) p k (by omega)
      refine ⟨[t'], ?_, by simp [e1]⟩
      rw [List.append_nil] at e2
      simp only [List.map_cons, List.map_nil, joinB]
      rw [e2, lexFrom]
    | cons t2 l =>
      obtain ⟨t', e1, e2⟩ := good_step h1 (.inr rfl : Blank (32 :: joinB ((t2 :: l).map textOf))) p k (by omega)
      obtain ⟨m, i1, i2⟩ := ih (p + (textOf t).length + 1) (k + 1) (fun a ha => hg a (List.mem_cons_of_mem _ ha)) (by omega)
      refine ⟨t' :: m, ?_, by rw [List.map_cons, e1, i2]; rfl⟩
      have e3 : joinB ((t :: t2 :: l).map textOf) = textOf t ++ 32 :: joinB ((t2 :: l).map textOf) := rfl
      rw [e3, e2, lex_blank 32 (by decide), i1]
/-- The texts of a source's tokens, split anew. -/
theorem lex_texts {s : List UInt8} {l : List Tok} {q : Nat} (h : lex s = (l, 0, q)) (h8 : (joinB (l.map textOf)).length ≤ 8000) : ∃ m, lex (joinB (l.map textOf)) = (m, 0, 0) ∧ m.map core = l.map core := by
  obtain ⟨_, h⟩ := lex_ok h
  have h2 := (lex_place _ s 0 0 (Nat.le_refl _) (by omega)).2.2.1
  rw [h] at h2
  obtain ⟨m, e1, e2⟩ := lex_texts_from l 0 0 (fun t ht => (lex_good _ s 0 0 l (Nat.le_refl _) h t ht).1) h2
  exact ⟨m, lex_of h8 e1, e2⟩
/-! Gaps. -/
/-- Only gaps, if a comment is open or not. -/
def gapB : Bool → List UInt8 → Bool
  | _, [] => true
  | b, c :: r => if c = 10 then gapB false r else if b then gapB true r else if c = 35 then gapB true r else (c == 32 || c == 9) && gapB false r
/-- Is a comment open behind it? -/
def gapS : Bool → List UInt8 → Bool
  | b, [] => b
  | b, c :: r => if c = 10 then gapS false r else if b then gapS true r else if c = 35 then gapS true r else gapS false r
theorem gapB_app : ∀ (u v : List UInt8) (b : Bool), gapB b (u ++ v) = (gapB b u && gapB (gapS b u) v) := by
  intro u
  induction u with
  | nil => intro v b; simp [gapB, gapS]
  | cons c u ih =>
    intro v b
    rw [List.cons_append, gapB, gapB, gapS]
    split
    · exact ih v false
    · split
      · exact ih v true
      · split
        · exact ih v true
        · rw [ih v false, Bool.and_assoc]
theorem gapS_app : ∀ (u v : List UInt8) (b : Bool), gapS b (u ++ v) = gapS (gapS b u) v := by
  intro u
  induction u with
  | nil => intro v b; simp [gapS]
  | cons c u ih =>
    intro v b
    rw [List.cons_append, gapS, gapS]
    split
    · exact ih v false
    · split
      · exact ih v true
      · split
        · exact ih v true
        · exact ih v false
theorem gapB_com : ∀ (u : List UInt8), (∀ a ∈ u, notEnd a = true) → gapB true u = true ∧ gapS true u = true := by
  intro u
  induction u with
  | nil => intro _; exact ⟨rfl, rfl⟩
  | cons c u ih =>
    intro h
    have h1 := h c (List.mem_cons_self ..)
    have hc : c ≠ 10 := by simpa [notEnd] using h1
    have := ih (fun a ha => h a (List.mem_cons_of_mem _ ha))
    rw [gapB, gapS, if_neg hc, if_neg hc]
    simpa using this
/-- Everything but the tokens is gaps. -/
def Cov (s : List UInt8) : Nat → List Tok → Prop
  | last, [] => gapB false (s.drop last) = true ∧ last ≤ s.length
  | last, t :: l => 1 ≤ t.kind ∧ t.kind ≤ 3 ∧ 0 ≤ t.n ∧ t.n ≤ 1000000000 ∧ ∃ a : Nat, t.pos = a ∧ last ≤ a ∧ a ≤ s.length ∧ textOf t ≠ [] ∧ textOf t <+: s.drop a ∧ gapB false ((s.take a).drop last) = true ∧ a + (textOf t).length ≤ s.length ∧ Cov s (a + (textOf t).length) l
theorem cls1 {c : UInt8} (h : cls c = 1) : c = 32 ∨ c = 9 ∨ c = 10 := by
  unfold cls at h
  split at h
  · assumption
  · repeat (split at h; · omega)
    omega
theorem lex_cover : ∀ (n : Nat) (s : List UInt8) (p k last : Nat) (l : List Tok), s.length - p ≤ n → p ≤ s.length → lexFrom (s.drop p) p k = (l, 0, 0) → last ≤ p →
    gapB false ((s.take p).drop last) = true → (gapS false ((s.take p).drop last) = false ∨ Fresh (s.drop p)) → Cov s last l := by
  intro n
  have hend : ∀ (s : List UInt8) (p k last : Nat) (l : List Tok), s.drop p = [] → p ≤ s.length → lexFrom (s.drop p) p k = (l, 0, 0) → last ≤ p → gapB false ((s.take p).drop last) = true → Cov s last l := by
    intro s p k last l hd hp h hl h1
    rw [hd, lexFrom] at h
    cases h
    have : p = s.length := by have := List.drop_eq_nil_iff.1 hd; omega
    subst this
    rw [List.take_length] at h1
    exact ⟨h1, hl⟩
  induction n with
  | zero =>
    intro s p k last l hn hp h hl h1 _
    exact hend s p k last l (List.drop_eq_nil_iff.2 (by omega)) hp h hl h1
  | succ n ih =>
    intro s p k last l hn hp h hl h1 h2
    cases hs : s.drop p with
    | nil => exact hend s p k last l hs hp h hl h1
    | cons c r =>
      have hlen : s.length - p = r.length + 1 := by have := congrArg List.length hs; simpa using this
      have hle := width_le (c :: r)
      simp only [List.length_cons] at hle
      have hdr : ∀ w, (c :: r).drop w = s.drop (p + w) := fun w => by rw [← hs, List.drop_drop]
      have htk : ∀ w, (s.take (p + w)).drop last = (s.take p).drop last ++ (c :: r).take w := fun w => by
        rw [← hs, List.take_add, List.drop_append_of_le_length (by rw [List.length_take]; omega)]
      rw [hs] at h
      have hst : c ≠ 10 → gapS false ((s.take p).drop last) = false := fun hc => by
        rcases h2 with h2 | h2
        · exact h2
        · rw [hs] at h2
          rcases h2 with h2 | h2
          · cases h2
          · simp only [List.head?_cons, Option.some.injEq] at h2
            exact absurd h2 hc
      by_cases hg : cls c = 1 ∨ cls c = 2
      · have hw := width_gap (r := r) hg
        rw [lexFrom_gap p k hg, hdr] at h
        rcases hg with hc | hc
        · have hw1 : width (c :: r) = 1 := by rw [width]; simp [hc]
          rw [hw1] at h
          refine ih s (p + 1) k last l (by omega) (by omega) h (by omega) ?_ ?_
          · rw [htk, gapB_app, h1]
            rcases cls1 hc with rfl | rfl | rfl
            · rw [hst (by decide)]; rfl
            · rw [hst (by decide)]; rfl
            · simp [gapB]
          · left
            rw [htk, gapS_app]
            rcases cls1 hc with rfl | rfl | rfl
            · rw [hst (by decide)]; rfl
            · rw [hst (by decide)]; rfl
            · simp [gapS]
        · have hc35 := cls2 hc
          subst hc35
          have hwc := width_com (r := r) hc
          have hcm := gapB_com (r.takeWhile notEnd) (takeWhile_mem r)
          have htk2 : (35 :: r).take (width (35 :: r)) = 35 :: r.takeWhile notEnd := by
            rw [hwc, takeWhile_len, List.takeWhile_cons, if_pos (by decide)]
          refine ih s (p + width (35 :: r)) k last l (by omega) (by omega) h (by omega) ?_ (.inr ?_)
          · rw [htk, gapB_app, h1, htk2, hst (by decide)]
            simpa [gapB] using hcm.1
          · rw [← hdr, hwc]; exact fresh_rest _
      · by_cases h0 : width (c :: r) = 0
        · rw [lexFrom_bad p k hg h0] at h; cases h
        · by_cases hk : k = 2000
          · subst hk
            rw [lexFrom_limit p hg h0] at h; cases h
          · by_cases he : (tokOf (cls c) ((c :: r).take (width (c :: r)))).1 = 0
            · rw [lexFrom_tok p k hg h0 hk he, hdr] at h
              generalize hx : lexFrom (s.drop (p + width (c :: r))) (p + width (c :: r)) (k + 1) = x at h
              obtain ⟨x1, x2⟩ := x
              simp only [Prod.mk.injEq] at h
              obtain ⟨h3, rfl⟩ := h
              subst h3
              have hne : (c :: r).take (width (c :: r)) ≠ [] := by
                intro h; have := congrArg List.length h; rw [List.length_take] at this; simp at this; omega
              have hkd := tokOf_kind he
              have htx := tokOf_text hne he (p : Int)
              have htl : ((c :: r).take (width (c :: r))).length = width (c :: r) := by rw [List.length_take]; simp; omega
              refine ⟨hkd.1, hkd.2.1, hkd.2.2.1, hkd.2.2.2, p, rfl, hl, hp, by rw [htx]; exact hne, ?_, h1, by rw [htx, htl]; omega, ?_⟩
              · rw [htx, hs]; exact List.take_prefix _ _
              · rw [htx, htl]
                refine ih s (p + width (c :: r)) (k + 1) _ x1 (by omega) (by omega) hx (Nat.le_refl _) ?_ (.inl ?_)
                · rw [List.drop_of_length_le (by rw [List.length_take]; omega)]; rfl
                · rw [List.drop_of_length_le (by rw [List.length_take]; omega)]; rfl
            · rw [lexFrom_err p k hg h0 hk he] at h
              simp only [Prod.mk.injEq] at h
              exact absurd h.2.1 he
theorem lex_covers {s : List UInt8} {l : List Tok} {q : Nat} (h : lex s = (l, 0, q)) : Cov s 0 l := by
  obtain ⟨_, h⟩ := lex_ok h
  exact lex_cover _ s 0 0 0 l (Nat.le_refl _) (by omega) (by simpa using h) (Nat.le_refl _) (by simp [gapB]) (.inl (by simp [gapS]))
end Go.Proofs.YtnbolgdccdnjeaaGreatDoor.Np
