/- The printer, plain: how its text is split into tokens. -/
import Derived.Test.YtnbolgdccdnjeaaGreatDoorPrintSpec
namespace Go.Proofs.YtnbolgdccdnjeaaGreatDoor.Np
/-- Nothing, or a byte that is no part of a run. -/
def Stop (y : List UInt8) : Prop := y = [] ∨ ∃ c r, y = c :: r ∧ isRun c = false
/-- x is split into ts, whatever follows (free), or if what follows stops. -/
def Lx (x : List UInt8) (ts : List Tok) (free : Bool) : Prop :=
  ∀ (y : List UInt8) (p k : Nat), (free = true ∨ Stop y) → k ≤ 2000 →
    (k + ts.length ≤ 2000 → ∃ ts', ts'.map core = ts.map core ∧ lexFrom (x ++ y) p k = (ts' ++ (lexFrom y (p + x.length) (k + ts.length)).1, (lexFrom y (p + x.length) (k + ts.length)).2)) ∧
    (2000 < k + ts.length → (lexFrom (x ++ y) p k).2.1 = 2)
theorem Lx.weaken {x : List UInt8} {ts : List Tok} {f : Bool} (h : Lx x ts f) : Lx x ts false := fun y p k hy hk =>
  h y p k (.inr (by rcases hy with hy | hy; cases hy; exact hy)) hk
theorem lx_nil : Lx [] [] true := fun y p k _ hk => ⟨fun _ => ⟨[], rfl, by simp⟩, fun h => by simp at h; omega⟩
theorem Lx.app {x x' : List UInt8} {ts ts' : List Tok} {f f' : Bool} (h : Lx x ts f) (h' : Lx x' ts' f') (hf : f = true ∨ ∃ c r, x' = c :: r ∧ isRun c = false) : Lx (x ++ x') (ts ++ ts') f' := by
  intro y p k hy hk
  have hs : f = true ∨ Stop (x' ++ y) := hf.imp id (fun ⟨c, r, e, hc⟩ => .inr ⟨c, r ++ y, by rw [e]; rfl, hc⟩)
  obtain ⟨h1, h2⟩ := h (x' ++ y) p k hs hk
  rw [List.append_assoc]
  constructor
  · intro hl
    rw [List.length_append] at hl
    obtain ⟨t1, e1, e2⟩ := h1 (by omega)
    obtain ⟨t2, e3, e4⟩ := (h' y (p + x.length) (k + ts.length) hy (by omega)).1 (by omega)
    refine ⟨t1 ++ t2, by rw [List.map_append, List.map_append, e1, e3], ?_⟩
    rw [e2, e4]
    simp only [List.length_append, List.append_assoc, Nat.add_assoc]
  · intro hl
    rw [List.length_append] at hl
    by_cases hk2 : k + ts.length ≤ 2000
    · obtain ⟨t1, e1, e2⟩ := h1 hk2
      rw [e2]
      exact (h' y (p + x.length) (k + ts.length) hy hk2).2 (by omega)
    · exact h2 (by omega)
theorem lx_blank {c : UInt8} (hc : cls c = 1) : Lx [c] [] true := fun y p k _ hk => ⟨fun _ => ⟨[], rfl, by rw [List.singleton_append, lex_blank c hc]; simp⟩, fun h => by simp at h; omega⟩
theorem lx_tok {c : UInt8} {r : List UInt8} {f : Bool} {t : Tok} (hg : ¬ (cls c = 1 ∨ cls c = 2)) (hw : ∀ y, (f = true ∨ Stop y) → width (c :: r ++ y) = (c :: r).length) (ht : tokOf (cls c) (c :: r) = (0, t)) : Lx (c :: r) [t] f := by
  intro y p k hy hk
  have hw := hw y hy
  have e : (c :: r) ++ y = c :: (r ++ y) := rfl
  rw [e] at hw ⊢
  constructor
  · intro hl
    simp only [List.length_singleton] at hl
    have htk : (c :: (r ++ y)).take (width (c :: (r ++ y))) = c :: r := by rw [hw, ← e, List.take_left]
    have hdr : (c :: (r ++ y)).drop (width (c :: (r ++ y))) = y := by rw [hw, ← e, List.drop_left]
    rw [lexFrom_tok p k hg (by rw [hw]; simp) (by omega) (by rw [htk, ht]), htk, hdr, hw, ht]
    exact ⟨[_], by simp [core], rfl⟩
  · intro hl
    simp only [List.length_singleton] at hl
    have : k = 2000 := by omega
    subst this
    rw [lexFrom_limit p hg (by rw [hw]; simp)]
theorem lx_punct {c : UInt8} (hc : cls c = 7) : Lx [c] [⟨3, [c], 0, 0⟩] true :=
  lx_tok (by omega) (fun y _ => by rw [List.singleton_append, width]; simp [hc]) (by simp [tokOf, hc])
theorem run_stop {x y : List UInt8} (hx : x.all isRun = true) (hy : Stop y) : (x ++ y).takeWhile isRun = x := by
  rw [List.takeWhile_append_of_pos (List.all_eq_true.1 hx)]
  rcases hy with rfl | ⟨c, r, rfl, hc⟩
  · simp
  · simp [hc]
theorem lx_run {c : UInt8} {r : List UInt8} {t : Tok} (hc : cls c = 3) (hr : (c :: r).all isRun = true) (ht : tokOf 3 (c :: r) = (0, t)) : Lx (c :: r) [t] false :=
  lx_tok (by omega) (fun y hy => by
    rcases hy with hy | hy
    · cases hy
    · have e := run_stop hr hy
      rw [List.cons_append] at e ⊢
      rw [width]
      simp only [hc]
      rw [e]) (by rw [hc]; exact ht)
def wordTok (x : List UInt8) : Tok := ⟨1, x, 0, 0⟩
def numTok (n : Nat) : Tok := ⟨2, [], n, 0⟩
def signTok (c : UInt8) : Tok := ⟨3, [c], 0, 0⟩
/-! Names. -/
theorem mem_split : ∀ (s : List UInt8) (c : UInt8), c ∈ s → c = 46 ∨ ∃ x ∈ splitDots s, c ∈ x := by
  intro s
  induction s with
  | nil => intro c h; cases h
  | cons a r ih =>
    intro c hc
    rw [splitDots]
    by_cases ha : a = 46
    · rw [if_pos ha]
      rcases List.mem_cons.1 hc with e | e
      · exact .inl (e.trans ha)
      · rcases ih c e with h | ⟨x, hx, hcx⟩
        · exact .inl h
        · exact .inr ⟨x, List.mem_cons_of_mem _ hx, hcx⟩
    · rw [if_neg ha]
      have hne := splitDots_ne r
      cases hr : splitDots r with
      | nil => exact absurd hr hne
      | cons y ys =>
        rw [hr] at ih
        rcases List.mem_cons.1 hc with e | e
        · exact .inr ⟨a :: y, by simp, by simp [e]⟩
        · rcases ih c e with h | ⟨x, hx, hcx⟩
          · exact .inl h
          · rcases List.mem_cons.1 hx with rfl | hx
            · exact .inr ⟨a :: x, by simp, by simp [hcx]⟩
            · exact .inr ⟨x, by simp [hx], hcx⟩
theorem labelByte_run {c : UInt8} (h : labelByte c = true) : isRun c = true := by
  unfold labelByte at h
  have hl : ∀ c : UInt8, isLow c = true ∨ isDig c = true → cls c = 3 := by
    intro c h
    have hne : ¬ (c = 32 ∨ c = 9 ∨ c = 10) ∧ c ≠ 35 := by
      constructor
      · rintro (rfl | rfl | rfl) <;> revert h <;> decide
      · rintro rfl; revert h; decide
    unfold cls
    rw [if_neg hne.1, if_neg hne.2, if_pos (by rcases h with h | h <;> simp [h])]
  simp only [Bool.or_eq_true, beq_iff_eq] at h
  unfold isRun
  rcases h with h | h
  · rw [hl c h]; rfl
  · subst h; decide
theorem low_cls {c : UInt8} (h : isLow c = true ∨ isDig c = true) : cls c = 3 := by
  have hne : ¬ (c = 32 ∨ c = 9 ∨ c = 10) ∧ c ≠ 35 := by
    constructor
    · rintro (rfl | rfl | rfl) <;> revert h <;> decide
    · rintro rfl; revert h; decide
  unfold cls
  rw [if_neg hne.1, if_neg hne.2, if_pos (by rcases h with h | h <;> simp [h])]
theorem label_bytes {x : List UInt8} (h : isLabel x = true ∨ x = [42]) : ∀ c ∈ x, isRun c = true := by
  rcases h with h | rfl
  · unfold isLabel at h
    simp only [Bool.and_eq_true] at h
    exact fun c hc => labelByte_run (List.all_eq_true.1 h.2 c hc)
  · intro c hc; simp at hc; subst hc; decide
theorem label_head {x : List UInt8} (h : isLabel x = true ∨ x = [42]) : ∃ c r, x = c :: r ∧ cls c = 3 := by
  rcases h with h | rfl
  · unfold isLabel at h
    simp only [Bool.and_eq_true, decide_eq_true_eq, Bool.not_eq_true', beq_eq_false_iff_ne] at h
    cases x with
    | nil => simp at h
    | cons c r =>
      refine ⟨c, r, rfl, low_cls ?_⟩
      have h1 := List.all_eq_true.1 h.2 c (by simp)
      have h2 := h.1.1.2
      simp only [List.head?_cons, ne_eq, Option.some.injEq] at h2
      simp only [labelByte, Bool.or_eq_true, beq_iff_eq] at h1
      rcases h1 with h1 | h1
      · exact h1
      · exact absurd h1 h2
  · exact ⟨42, [], rfl, by decide⟩
theorem split_head : ∀ (s : List UInt8), ∃ h t, splitDots s = h :: t ∧ (∀ c r, h = c :: r → ∃ r', s = c :: r') := by
  intro s
  cases s with
  | nil => exact ⟨[], [], rfl, fun c r h => by cases h⟩
  | cons a r =>
    rw [splitDots]
    by_cases ha : a = 46
    · rw [if_pos ha]; exact ⟨[], _, rfl, fun c r h => by cases h⟩
    · rw [if_neg ha]
      have hne := splitDots_ne r
      cases hr : splitDots r with
      | nil => exact absurd hr hne
      | cons x xs => exact ⟨a :: x, xs, rfl, fun c r' h => by cases h; exact ⟨_, rfl⟩⟩
theorem name_form {s : List UInt8} (h : validName s = true) : s.length ≤ 60 ∧ (s = [46] ∨ ∃ c r, s = c :: r ∧ cls c = 3 ∧ s.all isRun = true) := by
  unfold validName at h
  split at h
  · rename_i e; subst e; exact ⟨by decide, .inl rfl⟩
  · split at h
    · cases h
    · rename_i h60
      have hg := good_labels _ _ _ h
      have hl : ∀ x ∈ splitDots s, isLabel x = true ∨ x = [42] := fun x hx => (hg x (List.mem_reverse.2 hx)).symm
      obtain ⟨a, t, e1, e2⟩ := split_head s
      obtain ⟨c, r, rfl, hc⟩ := label_head (hl a (by rw [e1]; simp))
      obtain ⟨r', rfl⟩ := e2 c r rfl
      refine ⟨by omega, .inr ⟨c, r', rfl, hc, List.all_eq_true.2 fun b hb => ?_⟩⟩
      rcases mem_split _ b hb with rfl | ⟨x, hx, hbx⟩
      · decide
      · exact label_bytes (hl x hx) b hbx
theorem lx_name {s : List UInt8} (h : validName s = true) (hd : s.all isDig = false) : Lx s [wordTok s] false := by
  obtain ⟨hl, h⟩ := name_form h
  rcases h with rfl | ⟨c, r, rfl, hc, hr⟩
  · refine lx_tok (c := 46) (r := []) (by decide) (fun y hy => ?_) (by decide)
    rcases hy with hy | hy
    · cases hy
    · have e := run_stop (x := [46]) (by decide) hy
      rw [List.singleton_append] at e ⊢
      rw [width, show cls 46 = 5 by decide]
      simp only
      rw [e]; rfl
  · exact lx_run hc hr (by rw [tokOf, if_neg (by decide), if_neg (by decide), if_pos hd, if_neg (by omega)]; rfl)
/-! Numbers. -/
theorem dig_of {k : Nat} (h : k < 10) : isDig (UInt8.ofNat (48 + k)) = true ∧ (UInt8.ofNat (48 + k)).toNat = 48 + k := by
  have : k = 0 ∨ k = 1 ∨ k = 2 ∨ k = 3 ∨ k = 4 ∨ k = 5 ∨ k = 6 ∨ k = 7 ∨ k = 8 ∨ k = 9 := by omega
  rcases this with rfl | rfl | rfl | rfl | rfl | rfl | rfl | rfl | rfl | rfl <;> exact ⟨by decide, by decide⟩
theorem decimal_digs (n : Nat) : (decimal n).all isDig = true ∧ decimal n ≠ [] ∧ dec (decimal n) = n ∧ (1 ≤ n → (decimal n).head? ≠ some 48) ∧ (n < 10 → (decimal n).length = 1) := by
  induction n using Nat.strongRecOn with
  | ind n ih =>
    rw [decimal]
    split
    · rename_i h
      have hd := dig_of h
      refine ⟨by rw [List.all_cons, hd.1]; rfl, by simp, by show 10 * 0 + ((UInt8.ofNat (48 + n)).toNat - 48) = n; rw [hd.2]; omega, fun h1 => ?_, fun _ => rfl⟩
      simp only [List.head?_cons, ne_eq, Option.some.injEq]
      intro e
      have := congrArg UInt8.toNat e
      rw [hd.2] at this
      simp at this; omega
    · rename_i h
      obtain ⟨i1, i2, i3, i4, _⟩ := ih (n / 10) (by omega)
      have hd := dig_of (k := n % 10) (by omega)
      refine ⟨by rw [List.all_append, i1, List.all_cons, hd.1]; rfl, by simp, ?_, fun _ => ?_, fun h2 => absurd h2 h⟩
      · rw [dec_snoc, i3, hd.2]; omega
      · rw [head_app i2]; exact i4 (by omega)
theorem decimal_zero (n : Nat) : ¬ (1 < (decimal n).length ∧ (decimal n).head? = some 48) := by
  rintro ⟨h1, h2⟩
  obtain ⟨_, _, _, h4, h5⟩ := decimal_digs n
  by_cases h : n < 10
  · have := h5 h; omega
  · exact h4 (by omega) h2
theorem dig_run {c : UInt8} (h : isDig c = true) : isRun c = true := by unfold isRun; rw [low_cls (.inr h)]; rfl
theorem lx_num {n : Nat} (h : n ≤ 1000000000) : Lx (decimal n) [numTok n] false := by
  obtain ⟨h1, h2, h3, _, _⟩ := decimal_digs n
  have h4 := decimal_zero n
  generalize decimal n = x at *
  cases x with
  | nil => exact absurd rfl h2
  | cons c r =>
    have hc := List.all_eq_true.1 h1 c (by simp)
    refine lx_run (low_cls (.inr hc)) (List.all_eq_true.2 fun b hb => dig_run (List.all_eq_true.1 h1 b hb)) ?_
    rw [tokOf, if_neg (by decide), if_neg (by decide), if_neg (by rw [h1]; simp), if_neg h4, h3, if_neg (by omega)]
    rfl
/-! Texts. -/
theorem lx_text {s : List UInt8} (h : isFree s = true) : Lx (34 :: s ++ [34]) [wordTok (34 :: s ++ [34])] true := by
  unfold isFree at h
  simp only [Bool.and_eq_true, decide_eq_true_eq] at h
  obtain ⟨⟨⟨⟨h1, h2⟩, _⟩, _⟩, h5⟩ := h
  have hin : ∀ c ∈ s, inText c = true := by
    intro c hc
    have := List.all_eq_true.1 h5 c hc
    unfold inText
    simp only [Bool.and_eq_true, bne_iff_ne]
    constructor
    · rintro rfl; revert this; decide
    · rintro rfl; revert this; decide
  refine lx_tok (c := 34) (r := s ++ [34]) (by decide) (fun y _ => ?_) ?_
  · rw [List.cons_append, width, show cls 34 = 6 by decide]
    simp only
    have e : ((s ++ [34]) ++ y).takeWhile inText = s := by
      rw [List.append_assoc, List.takeWhile_append_of_pos hin, List.singleton_append]
      rw [List.takeWhile_cons, if_neg (by decide), List.append_nil]
    unfold quoteW
    rw [e, if_pos ⟨h1, by rw [List.append_assoc, List.getElem?_append_right (Nat.le_refl _)]; simp⟩]
    simp
  · rw [show cls 34 = 6 by decide, tokOf, if_neg (by decide), if_pos rfl, if_neg (by simp; omega)]; rfl
/-! Lines. -/
def LxAll : List (List UInt8) → List (List Tok) → Prop
  | [], [] => True
  | w :: ws, t :: ts => Lx w t false ∧ LxAll ws ts
  | _, _ => False
theorem LxAll.app : ∀ {a b : List (List UInt8)} {s t : List (List Tok)}, LxAll a s → LxAll b t → LxAll (a ++ b) (s ++ t)
  | [], _, [], _, _, h => h
  | _ :: _, _, _ :: _, _, h, h' => ⟨h.1, LxAll.app h.2 h'⟩
  | [], _, _ :: _, _, h, _ => h.elim
  | _ :: _, _, [], _, h, _ => h.elim
theorem lx_join : ∀ (ws : List (List UInt8)) (tss : List (List Tok)), LxAll ws tss → Lx (joinB ws) tss.flatten false := by
  intro ws
  induction ws with
  | nil =>
    intro tss h
    cases tss with
    | nil => exact lx_nil.weaken
    | cons => exact h.elim
  | cons w ws ih =>
    intro tss h
    cases tss with
    | nil => exact h.elim
    | cons t ts =>
      cases ws with
      | nil =>
        cases ts with
        | nil => simpa [joinB] using h.1
        | cons => exact h.2.elim
      | cons v ws =>
        have h2 := ih ts h.2
        have hb : Lx [32] [] true := lx_blank (by decide)
        have := h.1.app (hb.app h2 (.inl rfl)) (.inr ⟨32, _, rfl, by decide⟩)
        simpa [joinB] using this
theorem lx_line {ws : List (List UInt8)} {tss : List (List Tok)} (h : LxAll ws tss) : Lx (lineText ws) tss.flatten true := by
  have hb : Lx [10] [] true := lx_blank (by decide)
  have := (lx_join ws tss h).app hb (.inr ⟨10, _, rfl, by decide⟩)
  simpa [lineText] using this
/-! Entries. -/
def datumToks (t : Int) (d : Datum) : List Tok := if t = 1 then [numTok d.n.toNat] else if t = 2 ∨ t = 3 then [wordTok d.text] else if t = 5 then [wordTok (34 :: d.text ++ [34])] else [numTok d.n.toNat, numTok d.m.toNat]
def dataToks (t : Int) : List Datum → List (List Tok)
  | [] => []
  | [d] => [datumToks t d ++ [signTok 59]]
  | d :: e :: r => (datumToks t d ++ [signTok 44]) :: dataToks t (e :: r)
def ownerTok (apex name : List UInt8) : Tok := if name = apex then signTok 64 else wordTok name
def lifeToks (n : Int) : List (List Tok) := if n = 300 then [] else [[wordTok [108, 105, 102, 101]], [numTok n.toNat]]
def entryToks (apex : List UInt8) (s : DSet) : List Tok := ([[], [ownerTok apex s.name], [wordTok (wordOf s.type)]] ++ lifeToks s.life ++ dataToks s.type s.data).flatten
def zoneToks (z : Zone) : List Tok := [wordTok [122, 111, 110, 101], wordTok z.apex, signTok 123] ++ (z.sets.flatMap fun x => entryToks z.apex x.set) ++ [signTok 125]
theorem lx_datum {t : Int} {d : Datum} (h1 : 1 ≤ t) (h7 : t ≤ 7) (h : validDatum (ruleOf t) d = true) (hp : t = 2 ∨ t = 3 → d.text.all isDig = false) : Lx (datumText t d) (datumToks t d) false := by
  have ht : t = 1 ∨ t = 2 ∨ t = 3 ∨ t = 4 ∨ t = 5 ∨ t = 6 ∨ t = 7 := by omega
  unfold validDatum at h
  simp only [Bool.and_eq_true, decide_eq_true_eq] at h
  obtain ⟨⟨⟨⟨a1, a2⟩, a3, a4⟩, _⟩, hv⟩ := h
  have hbd : d.n ≤ 1000000 ∧ d.m ≤ 1000000 := by
    rcases ht with rfl | rfl | rfl | rfl | rfl | rfl | rfl <;> simp [ruleOf, rules] at a2 a4 <;> omega
  have hnm : Lx (decimal d.n.toNat ++ 32 :: decimal d.m.toNat) [numTok d.n.toNat, numTok d.m.toNat] false := by
    have hb : Lx [32] [] true := lx_blank (by decide)
    have := (lx_num (n := d.n.toNat) (by omega)).app (hb.app (lx_num (n := d.m.toNat) (by omega)) (.inl rfl)) (.inr ⟨32, _, rfl, by decide⟩)
    simpa using this
  rcases ht with rfl | rfl | rfl | rfl | rfl | rfl | rfl
  · simpa [datumText, datumToks] using lx_num (n := d.n.toNat) (by omega)
  · have : validName d.text = true := by have h2 : validText 1 d.text = true := hv; simp [validText] at h2; exact h2.1
    simpa [datumText, datumToks] using lx_name this (hp (by simp))
  · have : validName d.text = true := by have h2 : validText 1 d.text = true := hv; simp [validText] at h2; exact h2.1
    simpa [datumText, datumToks] using lx_name this (hp (by simp))
  · simpa [datumText, datumToks] using hnm
  · have : isFree d.text = true := by have h2 : validText 3 d.text = true := hv; simpa [validText] using h2
    simpa [datumText, datumToks] using (lx_text this).weaken
  · simpa [datumText, datumToks] using hnm
  · simpa [datumText, datumToks] using hnm
theorem lx_data {t : Int} (h1 : 1 ≤ t) (h7 : t ≤ 7) : ∀ {ds : List Datum}, (∀ d ∈ ds, validDatum (ruleOf t) d = true ∧ (t = 2 ∨ t = 3 → d.text.all isDig = false)) → LxAll (dataWords t ds) (dataToks t ds)
  | [], _ => trivial
  | [d], h => by
    have hd := h d (by simp)
    exact ⟨((lx_datum h1 h7 hd.1 hd.2).app (lx_punct (c := 59) (by decide)) (.inr ⟨59, _, rfl, by decide⟩)).weaken, trivial⟩
  | d :: e :: r, h => by
    have hd := h d (by simp)
    exact ⟨((lx_datum h1 h7 hd.1 hd.2).app (lx_punct (c := 44) (by decide)) (.inr ⟨44, _, rfl, by decide⟩)).weaken, lx_data h1 h7 (fun x hx => h x (List.mem_cons_of_mem _ hx))⟩
theorem lx_word {x : List UInt8} (hx : x ∈ [[97, 100, 100, 114], [115, 101, 114, 118, 101, 114], [97, 108, 105, 97, 115], [115, 116, 97, 114, 116], [116, 101, 120, 116], [97, 110, 99, 104, 111, 114], [107, 101, 121], [108, 105, 102, 101], [122, 111, 110, 101]]) : Lx x [wordTok x] false := by
  have h1 : x.all isRun = true ∧ x.all isDig = false ∧ (∃ c r, x = c :: r ∧ cls c = 3) ∧ x.length ≤ 60 := by
    simp only [List.mem_cons, List.not_mem_nil, or_false] at hx
    rcases hx with rfl | rfl | rfl | rfl | rfl | rfl | rfl | rfl | rfl <;> exact ⟨by decide, by decide, ⟨_, _, rfl, by decide⟩, by decide⟩
  obtain ⟨h1, h2, ⟨c, r, rfl, hc⟩, h4⟩ := h1
  exact lx_run hc h1 (by rw [tokOf, if_neg (by decide), if_neg (by decide), if_pos h2, if_neg (by omega)]; rfl)
theorem word_mem {t : Int} (h1 : 1 ≤ t) (h7 : t ≤ 7) : wordOf t ∈ [[97, 100, 100, 114], [115, 101, 114, 118, 101, 114], [97, 108, 105, 97, 115], [115, 116, 97, 114, 116], [116, 101, 120, 116], [97, 110, 99, 104, 111, 114], [107, 101, 121]] := by
  have ht : t = 1 ∨ t = 2 ∨ t = 3 ∨ t = 4 ∨ t = 5 ∨ t = 6 ∨ t = 7 := by omega
  rcases ht with rfl | rfl | rfl | rfl | rfl | rfl | rfl <;> decide
theorem plain_parts {x : Signed} (h : plainS x = true) : x.sigs = [] ∧ x.set.type ≠ 8 ∧ x.set.name.all isDig = false ∧ (x.set.type = 2 ∨ x.set.type = 3 → ∀ d ∈ x.set.data, d.text.all isDig = false) := by
  unfold plainS at h
  simp only [Bool.and_eq_true, decide_eq_true_eq, Bool.or_eq_true, Bool.not_eq_true', List.isEmpty_iff, Bool.or_eq_false_iff, decide_eq_false_iff_not] at h
  obtain ⟨⟨⟨h1, h2⟩, h3⟩, h4⟩ := h
  refine ⟨h1, h2, h3, fun ht d hd => ?_⟩
  rcases h4 with h4 | h4
  · rcases ht with ht | ht
    · exact absurd ht h4.1
    · exact absurd ht h4.2
  · have := List.all_eq_true.1 h4 d hd
    simpa using this
theorem lx_entry {apex : List UInt8} {x : Signed} (hv : validSet x.set = true) (hp : plainS x = true) : Lx (lineText (entryWords apex x.set)) (entryToks apex x.set) true := by
  obtain ⟨v1, v2, v3, v4, v5, _, _, v8⟩ := valid_parts hv
  obtain ⟨p1, p2, p3, p4⟩ := plain_parts hp
  refine lx_line (LxAll.app (LxAll.app ⟨(lx_blank (by decide)).weaken, ?_, (lx_word (List.mem_append_left [[108, 105, 102, 101], [122, 111, 110, 101]] (word_mem v2 (by omega : x.set.type ≤ 7)))), trivial⟩ ?_) (lx_data v2 (by omega) (fun d hd => ⟨goodData_all v8 d hd, fun ht => p4 ht d hd⟩)))
  · unfold ownerOf ownerTok
    split
    · exact (lx_punct (by decide)).weaken
    · exact lx_name v1 p3
  · unfold lifeWords lifeToks
    split
    · trivial
    · exact ⟨lx_word (by simp), lx_num (by omega), trivial⟩
theorem lx_sets {apex : List UInt8} : ∀ {l : List Signed}, (∀ x ∈ l, validSet x.set = true ∧ plainS x = true) → Lx (setsText apex l) (l.flatMap fun x => entryToks apex x.set) true
  | [], _ => lx_nil
  | x :: l, h => by
    have h1 := h x (by simp)
    have := (lx_entry (apex := apex) h1.1 h1.2).app (lx_sets (apex := apex) (l := l) (fun y hy => h y (List.mem_cons_of_mem _ hy))) (.inl rfl)
    simpa [setsText] using this
theorem lx_zone {z : Zone} (hr : rightZ z = true) (hp : plainZ z = true) : Lx (zoneText z) (zoneToks z) true := by
  unfold rightZ at hr
  unfold plainZ at hp
  simp only [Bool.and_eq_true, Bool.not_eq_true'] at hr hp
  have h1 : Lx (zoneHead z) [wordTok [122, 111, 110, 101], wordTok z.apex, signTok 123] true :=
    lx_line (tss := [[wordTok [122, 111, 110, 101]], [wordTok z.apex], [signTok 123]]) ⟨lx_word (by simp), lx_name hr.1.1 hp.1, (lx_punct (by decide)).weaken, trivial⟩
  have h2 := lx_sets (apex := z.apex) (l := z.sets) (fun x hx => ⟨goodSets_valid hr.2 x hx, List.all_eq_true.1 hp.2 x hx⟩)
  have h3 : Lx (lineText [[125]]) [signTok 125] true := lx_line (tss := [[signTok 125]]) ⟨(lx_punct (by decide)).weaken, trivial⟩
  exact (h1.app h2 (.inl rfl)).app h3 (.inl rfl)
theorem lx_zones : ∀ {l : List Zone}, l.all rightZ = true → l.all plainZ = true → Lx (l.flatMap zoneText) (l.flatMap zoneToks) true
  | [], _, _ => lx_nil
  | z :: l, h, h' => by
    rw [List.all_cons, Bool.and_eq_true] at h h'
    have := (lx_zone h.1 h'.1).app (lx_zones h.2 h'.2) (.inl rfl)
    simpa using this
/-- How many tokens a set's entry has, as the reference counts them. -/
def tokensOf (s : DSet) : Nat := (if s.life = 300 then 2 else 4) + (if s.type = 4 ∨ s.type = 6 ∨ s.type = 7 then 3 else 2) * s.data.length
def manyOf (l : List Zone) : Nat := (l.map fun z => 4 + (z.sets.map fun x => tokensOf x.set).sum).sum
theorem datumToks_len {t : Int} (h1 : 1 ≤ t) (h7 : t ≤ 7) (d : Datum) : (datumToks t d).length + 1 = if t = 4 ∨ t = 6 ∨ t = 7 then 3 else 2 := by
  have ht : t = 1 ∨ t = 2 ∨ t = 3 ∨ t = 4 ∨ t = 5 ∨ t = 6 ∨ t = 7 := by omega
  rcases ht with rfl | rfl | rfl | rfl | rfl | rfl | rfl <;> rfl
theorem dataToks_len {t : Int} (h1 : 1 ≤ t) (h7 : t ≤ 7) : ∀ (ds : List Datum), (dataToks t ds).flatten.length = (if t = 4 ∨ t = 6 ∨ t = 7 then 3 else 2) * ds.length
  | [] => by simp [dataToks]
  | [d] => by
    have := datumToks_len h1 h7 d
    simp only [dataToks, List.flatten_cons, List.flatten_nil, List.append_nil, List.length_append, List.length_singleton, Nat.mul_one]
    exact this
  | d :: e :: r => by
    have h2 := datumToks_len h1 h7 d
    have h3 := dataToks_len h1 h7 (e :: r)
    rw [dataToks, List.flatten_cons, List.length_append, h3, List.length_append, List.length_singleton, h2]
    simp only [List.length_cons]
    rw [Nat.mul_add _ (r.length + 1) 1]
    omega
theorem entryToks_len {apex : List UInt8} {s : DSet} (h1 : 1 ≤ s.type) (h7 : s.type ≤ 7) : (entryToks apex s).length = tokensOf s := by
  unfold entryToks tokensOf
  rw [List.flatten_append, List.flatten_append, List.length_append, List.length_append, dataToks_len h1 h7]
  congr 1
  unfold lifeToks
  split <;> rfl
theorem many_len : ∀ {l : List Zone}, l.all rightZ = true → l.all plainZ = true → (l.flatMap zoneToks).length = manyOf l
  | [], _, _ => rfl
  | z :: l, h, h' => by
    rw [List.all_cons, Bool.and_eq_true] at h h'
    have ih := many_len h.2 h'.2
    have hr := h.1
    have hp := h'.1
    unfold rightZ at hr
    unfold plainZ at hp
    simp only [Bool.and_eq_true, Bool.not_eq_true'] at hr hp
    have hs : ∀ (m : List Signed), (∀ x ∈ m, validSet x.set = true ∧ plainS x = true) → (m.flatMap fun x => entryToks z.apex x.set).length = (m.map fun x => tokensOf x.set).sum := by
      intro m
      induction m with
      | nil => intro _; rfl
      | cons x m im =>
        intro hm
        have hx := hm x (by simp)
        obtain ⟨_, v2, v3, _⟩ := valid_parts hx.1
        have v8 := (plain_parts hx.2).2.1
        rw [List.flatMap_cons, List.length_append, im (fun y hy => hm y (List.mem_cons_of_mem _ hy)), entryToks_len v2 (by omega), List.map_cons, List.sum_cons]
    have hs := hs z.sets (fun x hx => ⟨goodSets_valid hr.2 x hx, List.all_eq_true.1 hp.2 x hx⟩)
    unfold manyOf at ih ⊢
    rw [List.flatMap_cons, List.length_append, ih, List.map_cons, List.sum_cons, zoneToks, List.length_append, List.length_append, hs]
    simp
    omega
/-- The reference's measure of a text is the lexer's. -/
theorem lex_many {l : List Zone} (h1 : l.all rightZ = true) (h2 : l.all plainZ = true) (h8 : (l.flatMap zoneText).length ≤ 8000) : ((lex (l.flatMap zoneText)).2.1 = 0 ↔ manyOf l ≤ 2000) := by
  have hx := lx_zones h1 h2 [] 0 0 (.inl rfl) (by omega)
  rw [List.append_nil, many_len h1 h2, Nat.zero_add] at hx
  rw [lex_zero h8]
  constructor
  · intro h
    refine Nat.le_of_not_lt fun hl => ?_
    rw [hx.2 hl] at h
    cases h
  · intro h
    obtain ⟨ts, _, e⟩ := hx.1 h
    rw [e, lexFrom]
/-- Print, as the reference has it. -/
def printR (l : List Zone) : List UInt8 × Int :=
  if l.all rightZ = false then ([], 1) else if twice (l.map (·.apex)) = true then ([], 5) else if l.all plainZ = false then ([], 12)
  else if 8000 < (l.flatMap zoneText).length ∨ 2000 < manyOf l then ([], 2) else (l.flatMap zoneText, 0)
theorem print_ref (l : List Zone) : print l = printR l := by
  unfold print printR
  by_cases h1 : l.all rightZ = false
  · rw [if_pos h1, if_pos h1]
  · rw [if_neg h1, if_neg h1]
    by_cases h2 : twice (l.map (·.apex)) = true
    · rw [if_pos h2, if_pos h2]
    · rw [if_neg h2, if_neg h2]
      by_cases h3 : l.all plainZ = false
      · rw [if_pos h3, if_pos h3]
      · rw [if_neg h3, if_neg h3]
        by_cases h4 : 8000 < (l.flatMap zoneText).length
        · rw [if_pos h4, if_pos (.inl h4)]
        · rw [if_neg h4]
          have hm := lex_many (by simpa using h1) (by simpa using h3) (by omega : (l.flatMap zoneText).length ≤ 8000)
          by_cases h5 : (lex (l.flatMap zoneText)).2.1 = 0
          · rw [if_neg (by simp [h5]), if_neg (by have := hm.1 h5; omega)]
          · rw [if_pos h5, if_pos (.inr (Nat.lt_of_not_le fun h => h5 (hm.2 h)))]
end Go.Proofs.YtnbolgdccdnjeaaGreatDoor.Np
