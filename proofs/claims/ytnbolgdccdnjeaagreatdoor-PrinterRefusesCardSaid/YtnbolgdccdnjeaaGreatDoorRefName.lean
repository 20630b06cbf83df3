/- The references of layers 1 and 2, plain: names in parts. -/
import Derived.Test.YtnbolgdccdnjeaaGreatDoorPrintSpec
namespace Go.Proofs.YtnbolgdccdnjeaaGreatDoor.Np
def okR : List (List UInt8) → Bool
  | [] => true
  | [x] => isLabel x || x == [42]
  | x :: y :: r => isLabel x && okR (y :: r)
theorem star_label : isLabel [42] = false := by decide
theorem goodFrom_wild (xs : List (List UInt8)) (n : Nat) : goodFrom xs n true = xs.isEmpty := by cases xs <;> simp [goodFrom]
theorem goodFrom_ok : ∀ (xs : List (List UInt8)) (n : Nat), n ≤ 8 → goodFrom xs n false = (decide (n + xs.length ≤ 8) && okR xs) := by
  intro xs
  induction xs with
  | nil => intro n hn; simp [goodFrom, okR, hn]
  | cons x xs ih =>
    intro n hn
    rw [goodFrom]
    by_cases h8 : 8 < n + 1
    · rw [if_pos (by simp; omega), decide_eq_false (by simp; omega)]; rfl
    · rw [if_neg (by simp; omega)]
      by_cases hx : x = [42]
      · subst hx
        rw [if_pos rfl, goodFrom_wild]
        cases xs with
        | nil => simp [okR]; omega
        | cons y r => simp [okR, star_label]
      · rw [if_neg hx]
        by_cases hl : isLabel x = true
        · rw [if_pos hl, ih (n + 1) (by omega)]
          cases xs with
          | nil => simp [okR, hl]
          | cons y r => simp only [okR, hl, Bool.true_and, List.length_cons]; congr 1; congr 1; apply propext; omega
        · rw [if_neg hl]
          cases xs with
          | nil => simp [okR, hl, hx]
          | cons y r => simp [okR, hl]
def labelsOk : List (List UInt8) → Bool
  | [] => true
  | h :: t => (isLabel h || h == [42]) && t.all isLabel
theorem okR_snoc : ∀ (a : List (List UInt8)) (h : List UInt8), okR (a ++ [h]) = (a.all isLabel && (isLabel h || h == [42])) := by
  intro a h
  induction a with
  | nil => simp [okR]
  | cons x a ih =>
    cases a with
    | nil => simp [okR]
    | cons y r =>
      simp only [List.cons_append, okR] at ih ⊢
      rw [ih]; simp [Bool.and_assoc]
theorem okR_rev (l : List (List UInt8)) : okR l.reverse = labelsOk l := by
  cases l with
  | nil => rfl
  | cons h t => rw [List.reverse_cons, okR_snoc, labelsOk, List.all_reverse, Bool.and_comm]
theorem validName_ref (s : List UInt8) : validName s = if s = [46] then true else if 60 < s.length then false else labelsOk (splitDots s) && decide ((splitDots s).length ≤ 8) := by
  unfold validName
  split
  · rfl
  · split
    · rfl
    · rw [goodFrom_ok _ 0 (by omega), okR_rev, List.length_reverse, Bool.and_comm]; simp
def joinDots : List (List UInt8) → List UInt8
  | [] => []
  | [x] => x
  | x :: y :: r => x ++ 46 :: joinDots (y :: r)
theorem joinDots_cons (c : UInt8) (x : List UInt8) (xs : List (List UInt8)) : joinDots ((c :: x) :: xs) = c :: joinDots (x :: xs) := by
  cases xs <;> simp [joinDots]
theorem joinDots_split (s : List UInt8) : joinDots (splitDots s) = s := by
  induction s with
  | nil => rfl
  | cons c r ih =>
    rw [splitDots]
    have hne := splitDots_ne r
    cases hr : splitDots r with
    | nil => exact absurd hr hne
    | cons x xs =>
      rw [hr] at ih
      split
      · rename_i hc; subst hc; rw [joinDots, ih]; rfl
      · rw [joinDots_cons, ih]
theorem joinDots_app : ∀ (l m : List (List UInt8)), l ≠ [] → m ≠ [] → joinDots (l ++ m) = joinDots l ++ 46 :: joinDots m := by
  intro l
  induction l with
  | nil => intro m h; exact absurd rfl h
  | cons x l ih =>
    intro m _ hm
    cases l with
    | nil =>
      cases m with
      | nil => exact absurd rfl hm
      | cons y m => simp [joinDots]
    | cons y l =>
      have := ih m (by simp) hm
      simp only [List.cons_append, joinDots] at this ⊢
      rw [this]; simp
def parts (s : List UInt8) : List (List UInt8) := if s = [46] then [] else splitDots s
theorem parts_back (s : List UInt8) : (parts s).reverse = back s := by
  unfold parts back; split <;> rfl
theorem back_inj {a b : List UInt8} (h : back a = back b) : a = b := by
  unfold back at h
  by_cases ha : a = [46]
  · by_cases hb : b = [46]
    · rw [ha, hb]
    · rw [if_pos ha, if_neg hb] at h
      have := splitDots_ne b
      exact absurd (List.reverse_eq_nil_iff.1 h.symm) this
  · by_cases hb : b = [46]
    · rw [if_pos hb, if_neg ha] at h
      exact absurd (List.reverse_eq_nil_iff.1 h) (splitDots_ne a)
    · rw [if_neg ha, if_neg hb] at h
      have := List.reverse_inj.1 h
      rw [← joinDots_split a, this, joinDots_split]
def inL (l m : List (List UInt8)) : Bool := decide (m.length ≤ l.length) && (l.drop (l.length - m.length) == m)
theorem inL_iff {l m : List (List UInt8)} : inL l m = true ↔ ∃ p, l = p ++ m := by
  unfold inL
  simp only [Bool.and_eq_true, decide_eq_true_eq, beq_iff_eq]
  constructor
  · rintro ⟨h1, h2⟩
    exact ⟨l.take (l.length - m.length), by rw [← h2, List.length_drop]; conv => lhs; rw [← List.take_append_drop (l.length - m.length) l]
                                            congr 2; omega⟩
  · rintro ⟨p, rfl⟩
    refine ⟨by simp, ?_⟩
    rw [List.length_append, Nat.add_sub_cancel, List.drop_left]
theorem in_under {s z : List UInt8} (hz : z ≠ []) : inL (parts s) (parts z) = underL s z := by
  rw [Bool.eq_iff_iff, inL_iff]
  unfold underL parts
  simp only [Bool.or_eq_true, Bool.and_eq_true, beq_iff_eq, decide_eq_true_eq]
  by_cases h1 : z = [46]
  · rw [if_pos h1]
    exact ⟨fun _ => .inl (.inr h1), fun _ => ⟨_, (List.append_nil _).symm⟩⟩
  · rw [if_neg h1]
    by_cases h2 : s = [46]
    · rw [if_pos h2]
      constructor
      · rintro ⟨p, hp⟩
        have := List.append_eq_nil_iff.1 hp.symm
        exact absurd this.2 (splitDots_ne z)
      · rintro ((h | h) | ⟨⟨h3, _⟩, _⟩)
        · exact absurd (h ▸ h2) h1
        · exact absurd h h1
        · subst h2
          have h4 : z.length < 1 := h3
          exact absurd (List.eq_nil_of_length_eq_zero (by omega)) hz
    · rw [if_neg h2]
      constructor
      · rintro ⟨p, hp⟩
        by_cases h0 : p = []
        · subst h0
          rw [List.nil_append] at hp
          left; left
          rw [← joinDots_split s, hp, joinDots_split]
        · right
          have hs : s = joinDots p ++ 46 :: z := by
            rw [← joinDots_split s, hp, joinDots_app _ _ h0 (splitDots_ne z), joinDots_split]
          subst hs
          refine ⟨⟨by simp; omega, ?_⟩, ?_⟩
          · rw [show (joinDots p ++ 46 :: z).length - z.length = (joinDots p ++ [46]).length by simp; omega, show joinDots p ++ 46 :: z = (joinDots p ++ [46]) ++ z by simp, List.drop_left]
          · rw [show (joinDots p ++ 46 :: z).length - z.length - 1 = (joinDots p).length by simp; omega]
            rw [List.getElem?_append_right (Nat.le_refl _)]; simp
      · rintro ((h | h) | ⟨⟨h3, h4⟩, h5⟩)
        · exact ⟨[], by rw [h]; rfl⟩
        · exact absurd h h1
        · have hs : s = s.take (s.length - z.length - 1) ++ 46 :: z := by
            conv => lhs; rw [← List.take_append_drop (s.length - z.length - 1) s]
            congr 1
            obtain ⟨hl, he⟩ := List.getElem?_eq_some_iff.1 h5
            rw [List.drop_eq_getElem_cons hl, he, show s.length - z.length - 1 + 1 = s.length - z.length by omega, h4]
          exact ⟨splitDots (s.take (s.length - z.length - 1)), by conv => lhs; rw [hs]
                                                                  rw [splitDots_app]⟩
/-- Names in their order, as the reference has it. -/
def ordR : List (List UInt8) → List (List UInt8) → Int
  | [], [] => 0
  | [], _ :: _ => -1
  | _ :: _, [] => 1
  | x :: xs, y :: ys => if cmpS x y ≠ 0 then cmpS x y else ordR xs ys
theorem cmpS_self (x : List UInt8) : cmpS x x = 0 := by
  have : ∀ x : List UInt8, Go.Op.bytesLess x x = false := by
    intro x
    induction x with
    | nil => rfl
    | cons a x ih => simp [Go.Op.bytesLess, ih]
  simp [cmpS, this]
theorem cmpS_zero {x y : List UInt8} (h : cmpS x y = 0) : x = y := by
  unfold cmpS at h
  split at h
  · omega
  · split at h
    · assumption
    · omega
theorem ordR_self (l : List (List UInt8)) : ordR l l = 0 := by
  induction l with
  | nil => rfl
  | cons x l ih => rw [ordR, cmpS_self, if_neg (by simp), ih]
theorem ordR_ne : ∀ (l m : List (List UInt8)), l ≠ m → ordR l m = cmpL l m := by
  intro l
  induction l with
  | nil =>
    intro m h
    cases m with
    | nil => exact absurd rfl h
    | cons y m => rfl
  | cons x l ih =>
    intro m h
    cases m with
    | nil => rfl
    | cons y m =>
      rw [ordR, cmpL]
      by_cases hc : cmpS x y ≠ 0
      · rw [if_pos hc, if_pos hc]
      · rw [if_neg hc, if_neg hc]
        have := cmpS_zero (Decidable.not_not.1 hc)
        subst this
        exact ih m (fun e => h (by rw [e]))
theorem cmpName_ref (a b : List UInt8) : cmpName a b = ordR (back a) (back b) := by
  unfold cmpName
  split
  · rename_i h; rw [h, ordR_self]
  · rename_i h; exact (ordR_ne _ _ (fun e => h (back_inj e))).symm
theorem cmpName_self (a : List UInt8) : cmpName a a = 0 := by simp [cmpName]
theorem cmpName_zero {a b : List UInt8} (h : cmpName a b = 0) : a = b := by
  rw [cmpName_ref] at h
  refine back_inj ?_
  have : ∀ l m : List (List UInt8), ordR l m = 0 → l = m := by
    intro l
    induction l with
    | nil => intro m h; cases m with
      | nil => rfl
      | cons y m => simp [ordR] at h
    | cons x l ih =>
      intro m h
      cases m with
      | nil => simp [ordR] at h
      | cons y m =>
        rw [ordR] at h
        split at h
        · rename_i hc; exact absurd h hc
        · rename_i hc
          rw [cmpS_zero (Decidable.not_not.1 hc), ih m h]
  exact this _ _ h
/-- The order of sets, as the reference has it. -/
theorem cmpSet_ref (a b : DSet) : cmpSet a b = if cmpName a.name b.name ≠ 0 then cmpName a.name b.name else cmpI a.type b.type := by
  unfold cmpSet
  by_cases h : a.name = b.name
  · rw [if_neg (by simp [h]), h, cmpName_self, if_neg (by simp)]
  · rw [if_pos h, if_pos (fun e => h (cmpName_zero e))]
theorem bytesLess_tri : ∀ (x y : List UInt8), Go.Op.bytesLess x y = false → x ≠ y → Go.Op.bytesLess y x = true := by
  intro x
  induction x with
  | nil => intro y h hn; cases y with
    | nil => exact absurd rfl hn
    | cons b y => simp [Go.Op.bytesLess] at h
  | cons a x ih =>
    intro y h hn
    cases y with
    | nil => simp [Go.Op.bytesLess]
    | cons b y =>
      simp only [Go.Op.bytesLess] at h ⊢
      by_cases h1 : a < b
      · simp [h1] at h
      · by_cases h2 : b < a
        · simp [h2]
        · have h3 : a = b := by
            apply UInt8.toNat_inj.1
            simp only [UInt8.lt_iff_toNat_lt] at h1 h2
            omega
          subst h3
          simp [h1] at h ⊢
          exact ih y h (fun e => hn (by rw [e]))
theorem bytesLess_asym {x y : List UInt8} (h : Go.Op.bytesLess x y = true) : Go.Op.bytesLess y x = false := by
  induction x generalizing y with
  | nil => cases y <;> simp [Go.Op.bytesLess] at h ⊢
  | cons a x ih =>
    cases y with
    | nil => simp [Go.Op.bytesLess] at h
    | cons b y =>
      simp only [Go.Op.bytesLess] at h ⊢
      by_cases h1 : a < b
      · have h2 : ¬ b < a := by simp only [UInt8.lt_iff_toNat_lt] at *; omega
        have h3 : ¬ b = a := by rintro rfl; exact h2 h1
        simp [h2, h3]
      · by_cases h3 : a = b
        · subst h3
          simp [h1] at h ⊢
          exact ih h
        · simp [h1, h3] at h
theorem cmpS_eqs (x y : List UInt8) : (Go.Op.bytesLess x y = true ∧ cmpS x y = -1) ∨ (Go.Op.bytesLess x y = false ∧ Go.Op.bytesLess y x = true ∧ x ≠ y ∧ cmpS x y = 1) ∨ (Go.Op.bytesLess x y = false ∧ Go.Op.bytesLess y x = false ∧ x = y ∧ cmpS x y = 0) := by
  cases h : Go.Op.bytesLess x y with
  | true => exact .inl ⟨rfl, by simp [cmpS, h]⟩
  | false =>
    by_cases hn : x = y
    · subst hn; exact .inr (.inr ⟨rfl, h, rfl, cmpS_self x⟩)
    · exact .inr (.inl ⟨rfl, bytesLess_tri x y h hn, hn, by simp [cmpS, h, hn]⟩)
/-- A datum before another one, as the reference has it. -/
def lessD (a b : Datum) : Bool := if a.text ≠ b.text then Go.Op.bytesLess a.text b.text else if a.n ≠ b.n then decide (a.n < b.n) else decide (a.m < b.m)
theorem lessD_cmp (a b : Datum) : lessD a b = decide (cmpD a b < 0) := by
  unfold lessD cmpD
  rcases cmpS_eqs a.text b.text with ⟨h1, h2⟩ | ⟨h1, _, h3, h2⟩ | ⟨_, _, h3, h2⟩
  · have hn : a.text ≠ b.text := fun e => by rw [e, cmpS_self] at h2; omega
    rw [if_pos hn, if_pos (by omega), h1, h2]; rfl
  · rw [if_pos h3, if_pos (by omega), h1, h2]; rfl
  · rw [if_neg (show ¬ a.text ≠ b.text from fun e => e h3), if_neg (show ¬ cmpS a.text b.text ≠ 0 from fun e => e h2)]
    by_cases h4 : a.n = b.n
    · rw [if_neg (show ¬ a.n ≠ b.n from fun e => e h4)]
      have h5 : cmpI a.n b.n = 0 := by unfold cmpI; rw [if_neg (by omega), if_neg (by omega)]
      rw [if_neg (show ¬ cmpI a.n b.n ≠ 0 from fun e => e h5)]
      unfold cmpI
      by_cases h6 : a.m < b.m
      · rw [if_pos h6]; simp [h6]
      · by_cases h7 : b.m < a.m
        · rw [if_neg h6, if_pos h7]; simp; omega
        · rw [if_neg h6, if_neg h7]; simp; omega
    · rw [if_pos (show a.n ≠ b.n from h4)]
      by_cases h6 : a.n < b.n
      · have h5 : cmpI a.n b.n = -1 := by unfold cmpI; rw [if_pos h6]
        rw [h5]; simp [h6]
      · have h5 : cmpI a.n b.n = 1 := by unfold cmpI; rw [if_neg h6, if_pos (by omega)]
        rw [h5]; simp; omega
end Go.Proofs.YtnbolgdccdnjeaaGreatDoor.Np
