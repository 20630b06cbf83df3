/- The twelve wrong entries, plain: each is the only thing that is reported. No program in sight. -/
import Derived.Test.YtnbolgdccdnjeaaGreatDoorParFile
namespace Go.Proofs.YtnbolgdccdnjeaaGreatDoor.Np
def wrongs : List (List UInt8 × List UInt8) := [([64, 32, 116, 101, 120, 116, 32, 55, 59], [64, 32, 116, 101, 120, 116, 32]), ([64, 32, 116, 101, 120, 116, 59], [64, 32, 116, 101, 120, 116]), ([64, 32, 110, 111, 116, 104, 105, 110, 103, 32, 55, 59], [64, 32]), ([64, 59], [64]), ([64, 32, 116, 101, 120, 116, 32, 34, 65, 34, 59], [64, 32, 116, 101, 120, 116, 32]), ([64, 32, 116, 101, 120, 116, 32, 34, 32, 97, 34, 59], [64, 32, 116, 101, 120, 116, 32]), ([64, 32, 116, 101, 120, 116, 32, 34, 97, 34, 44, 32, 34, 97, 34, 59], [64, 32, 116, 101, 120, 116, 32, 34, 97, 34, 44, 32, 34, 97, 34]), ([64, 32, 116, 101, 120, 116, 32, 108, 105, 102, 101, 32, 49, 48, 48, 48, 48, 49, 32, 34, 97, 34, 59], [64, 32, 116, 101, 120, 116, 32, 108, 105, 102, 101, 32]), ([45, 59, 32], []), ([64, 32, 116, 101, 120, 116, 32, 34, 97, 34, 32, 34, 98, 34, 59], [64, 32, 116, 101, 120, 116, 32, 34, 97, 34, 32]), ([97, 46, 46, 98, 32, 116, 101, 120, 116, 32, 34, 97, 34, 59], []), ([55, 32, 116, 101, 120, 116, 32, 34, 97, 34, 59], [])]
def wrongE : List Int := [10, 10, 10, 10, 3, 3, 5, 3, 10, 10, 11, 10]
def wk (k : Nat) : List UInt8 := (wrongs.getD k ([], [])).1
def wq (k : Nat) : List UInt8 := (wrongs.getD k ([], [])).2
def we (k : Nat) : Int := wrongE.getD k 0
theorem entry_at {apex : List UInt8} {K : List (List UInt8 × Int)} {T1 : List Tok} {p : Int} (h1 : isAny T1 = true) (h2 : typeR (peekT T1).text = 5) (hk : (apex, (5 : Int)) ∉ K) {life : Int} {r2 : List Tok} (h3 : lifeR 5 T1.tail = .ok life r2) {e : Int} {r' : List Tok} (h4 : dataR 5 9 [] r2 = .err e r') : entryR apex K (⟨3, [64], 0, p⟩ :: T1) = .err e r' := by
  have e0 : isS [64] (⟨3, [64], 0, p⟩ :: T1) = true := rfl
  unfold entryR ownerR
  rw [e0, if_pos rfl]
  dsimp only [List.tail_cons]
  rw [h1, h2, if_neg (by simp), if_neg (by simp), if_neg (by simp), if_neg hk, h3]
  dsimp only
  rw [h4]
theorem entry_at_life {apex : List UInt8} {K : List (List UInt8 × Int)} {T1 : List Tok} {p : Int} (h1 : isAny T1 = true) (h2 : typeR (peekT T1).text = 5) (hk : (apex, (5 : Int)) ∉ K) {e : Int} {r' : List Tok} (h3 : lifeR 5 T1.tail = .err e r') : entryR apex K (⟨3, [64], 0, p⟩ :: T1) = .err e r' := by
  have e0 : isS [64] (⟨3, [64], 0, p⟩ :: T1) = true := rfl
  unfold entryR ownerR
  rw [e0, if_pos rfl]
  dsimp only [List.tail_cons]
  rw [h1, h2, if_neg (by simp), if_neg (by simp), if_neg (by simp), if_neg hk, h3]
theorem entry_at_type {apex : List UInt8} {K : List (List UInt8 × Int)} {T1 : List Tok} {p : Int} (h : isAny T1 = false ∨ typeR (peekT T1).text = 0) : entryR apex K (⟨3, [64], 0, p⟩ :: T1) = .err 10 T1 := by
  have e0 : isS [64] (⟨3, [64], 0, p⟩ :: T1) = true := rfl
  unfold entryR ownerR
  rw [e0, if_pos rfl]
  dsimp only [List.tail_cons]
  cases h0 : isAny T1 with
  | false => rw [if_pos rfl]
  | true => rw [if_neg (by simp), if_pos (by rcases h with h | h; rw [h] at h0; cases h0; exact h)]
theorem entry_owner {apex : List UInt8} {K : List (List UInt8 × Int)} {T : List Tok} {e : Int} {r' : List Tok} (h : ownerR apex T = .err e r') : entryR apex K T = .err e r' := by
  unfold entryR
  rw [h]
theorem body_wrong {size : Int} {apex : List UInt8} {K : List (List UInt8 × Int)} {acc : List Signed} {R : List Tok} {e : Int} {r' : List Tok} {a b : Tok} (h0 : isS [125] R = false) (h1 : entryR apex K R = .err e r') (h2 : skipR r' = [a, b]) (h3 : isS [59] [a, b] = true) (h4 : isS [125] [b] = true) (h5 : 1 < R.length) : bodyR size apex K acc [] R = (true, sortS acc, [⟨e, posT size r'⟩], []) := by
  rw [bodyR, h0, if_neg (by simp), h1]
  dsimp only
  rw [if_neg (by simp), h2, if_neg (by simp), h3, if_pos rfl, List.tail_cons, if_pos (by simpa using h5), bodyR, h4, if_pos rfl]
  rfl
/-- The tokens of a wrong entry and of the brace behind it. -/
def wT (k : Nat) : List Tok := ([
  [⟨3, [64], 0, 0⟩, ⟨1, [116, 101, 120, 116], 0, 2⟩, ⟨2, [], 7, 7⟩, ⟨3, [59], 0, 8⟩, ⟨3, [125], 0, 9⟩],
  [⟨3, [64], 0, 0⟩, ⟨1, [116, 101, 120, 116], 0, 2⟩, ⟨3, [59], 0, 6⟩, ⟨3, [125], 0, 7⟩],
  [⟨3, [64], 0, 0⟩, ⟨1, [110, 111, 116, 104, 105, 110, 103], 0, 2⟩, ⟨2, [], 7, 10⟩, ⟨3, [59], 0, 11⟩, ⟨3, [125], 0, 12⟩],
  [⟨3, [64], 0, 0⟩, ⟨3, [59], 0, 1⟩, ⟨3, [125], 0, 2⟩],
  [⟨3, [64], 0, 0⟩, ⟨1, [116, 101, 120, 116], 0, 2⟩, ⟨1, [34, 65, 34], 0, 7⟩, ⟨3, [59], 0, 10⟩, ⟨3, [125], 0, 11⟩],
  [⟨3, [64], 0, 0⟩, ⟨1, [116, 101, 120, 116], 0, 2⟩, ⟨1, [34, 32, 97, 34], 0, 7⟩, ⟨3, [59], 0, 11⟩, ⟨3, [125], 0, 12⟩],
  [⟨3, [64], 0, 0⟩, ⟨1, [116, 101, 120, 116], 0, 2⟩, ⟨1, [34, 97, 34], 0, 7⟩, ⟨3, [44], 0, 10⟩, ⟨1, [34, 97, 34], 0, 12⟩, ⟨3, [59], 0, 15⟩, ⟨3, [125], 0, 16⟩],
  [⟨3, [64], 0, 0⟩, ⟨1, [116, 101, 120, 116], 0, 2⟩, ⟨1, [108, 105, 102, 101], 0, 7⟩, ⟨2, [], 100001, 12⟩, ⟨1, [34, 97, 34], 0, 19⟩, ⟨3, [59], 0, 22⟩, ⟨3, [125], 0, 23⟩],
  [],
  [⟨3, [64], 0, 0⟩, ⟨1, [116, 101, 120, 116], 0, 2⟩, ⟨1, [34, 97, 34], 0, 7⟩, ⟨1, [34, 98, 34], 0, 11⟩, ⟨3, [59], 0, 14⟩, ⟨3, [125], 0, 15⟩],
  [⟨1, [97, 46, 46, 98], 0, 0⟩, ⟨1, [116, 101, 120, 116], 0, 5⟩, ⟨1, [34, 97, 34], 0, 10⟩, ⟨3, [59], 0, 13⟩, ⟨3, [125], 0, 14⟩],
  [⟨2, [], 7, 0⟩, ⟨1, [116, 101, 120, 116], 0, 2⟩, ⟨1, [34, 97, 34], 0, 7⟩, ⟨3, [59], 0, 10⟩, ⟨3, [125], 0, 11⟩]
  ] : List (List Tok)).getD k []
theorem wrong_lex : ∀ k, k < 12 → lexFrom (wk k ++ [125, 10]) 0 0 = if k = 8 then ([], 10, 0) else (wT k, 0, 0) := by
  intro k hk
  rw [← lexN_eq 40 _ 0 0 (by have h : ∀ k, k < 12 → (wk k ++ [125, 10]).length < 40 := by decide +kernel
                             exact h k hk)]
  have h : ∀ k, k < 12 → lexN 40 (wk k ++ [125, 10]) 0 0 = if k = 8 then ([], 10, 0) else (wT k, 0, 0) := by decide +kernel
  exact h k hk
/-- Whatever stood before, the entry is refused at its token. -/
structure WrongAt (apex : List UInt8) (K : List (List UInt8 × Int)) (k : Nat) (r' : List Tok) : Prop where
  entry : entryR apex K (wT k) = .err (we k) r'
  pos : ∃ t u, r' = t :: u ∧ t.pos = (wq k).length
  skip : ∃ a b, skipR r' = [a, b] ∧ isS [59] [a, b] = true ∧ isS [125] [b] = true
  head : isS [125] (wT k) = false
  more : 1 < (wT k).length
theorem wrong_at {apex : List UInt8} {K : List (List UInt8 × Int)} (hk : (apex, (5 : Int)) ∉ K) : ∀ k, k < 12 → k ≠ 8 → ∃ r', WrongAt apex K k r'
  | 0, _, _ => ⟨[⟨2, [], 7, 7⟩, ⟨3, [59], 0, 8⟩, ⟨3, [125], 0, 9⟩], entry_at (T1 := [⟨1, [116, 101, 120, 116], 0, 2⟩, ⟨2, [], 7, 7⟩, ⟨3, [59], 0, 8⟩, ⟨3, [125], 0, 9⟩]) (by decide +kernel) (by decide +kernel) hk (life := 300) (r2 := [⟨2, [], 7, 7⟩, ⟨3, [59], 0, 8⟩, ⟨3, [125], 0, 9⟩]) (by decide +kernel) (by decide +kernel), ⟨_, _, rfl, by decide +kernel⟩, ⟨⟨3, [59], 0, 8⟩, ⟨3, [125], 0, 9⟩, by decide +kernel, by decide +kernel, by decide +kernel⟩, by decide +kernel, by decide +kernel⟩
  | 1, _, _ => ⟨[⟨3, [59], 0, 6⟩, ⟨3, [125], 0, 7⟩], entry_at (T1 := [⟨1, [116, 101, 120, 116], 0, 2⟩, ⟨3, [59], 0, 6⟩, ⟨3, [125], 0, 7⟩]) (by decide +kernel) (by decide +kernel) hk (life := 300) (r2 := [⟨3, [59], 0, 6⟩, ⟨3, [125], 0, 7⟩]) (by decide +kernel) (by decide +kernel), ⟨_, _, rfl, by decide +kernel⟩, ⟨⟨3, [59], 0, 6⟩, ⟨3, [125], 0, 7⟩, by decide +kernel, by decide +kernel, by decide +kernel⟩, by decide +kernel, by decide +kernel⟩
  | 2, _, _ => ⟨[⟨1, [110, 111, 116, 104, 105, 110, 103], 0, 2⟩, ⟨2, [], 7, 10⟩, ⟨3, [59], 0, 11⟩, ⟨3, [125], 0, 12⟩], entry_at_type (T1 := [⟨1, [110, 111, 116, 104, 105, 110, 103], 0, 2⟩, ⟨2, [], 7, 10⟩, ⟨3, [59], 0, 11⟩, ⟨3, [125], 0, 12⟩]) (.inr (by decide +kernel)), ⟨_, _, rfl, by decide +kernel⟩, ⟨⟨3, [59], 0, 11⟩, ⟨3, [125], 0, 12⟩, by decide +kernel, by decide +kernel, by decide +kernel⟩, by decide +kernel, by decide +kernel⟩
  | 3, _, _ => ⟨[⟨3, [59], 0, 1⟩, ⟨3, [125], 0, 2⟩], entry_at_type (T1 := [⟨3, [59], 0, 1⟩, ⟨3, [125], 0, 2⟩]) (.inl (by decide +kernel)), ⟨_, _, rfl, by decide +kernel⟩, ⟨⟨3, [59], 0, 1⟩, ⟨3, [125], 0, 2⟩, by decide +kernel, by decide +kernel, by decide +kernel⟩, by decide +kernel, by decide +kernel⟩
  | 4, _, _ => ⟨[⟨1, [34, 65, 34], 0, 7⟩, ⟨3, [59], 0, 10⟩, ⟨3, [125], 0, 11⟩], entry_at (T1 := [⟨1, [116, 101, 120, 116], 0, 2⟩, ⟨1, [34, 65, 34], 0, 7⟩, ⟨3, [59], 0, 10⟩, ⟨3, [125], 0, 11⟩]) (by decide +kernel) (by decide +kernel) hk (life := 300) (r2 := [⟨1, [34, 65, 34], 0, 7⟩, ⟨3, [59], 0, 10⟩, ⟨3, [125], 0, 11⟩]) (by decide +kernel) (by decide +kernel), ⟨_, _, rfl, by decide +kernel⟩, ⟨⟨3, [59], 0, 10⟩, ⟨3, [125], 0, 11⟩, by decide +kernel, by decide +kernel, by decide +kernel⟩, by decide +kernel, by decide +kernel⟩
  | 5, _, _ => ⟨[⟨1, [34, 32, 97, 34], 0, 7⟩, ⟨3, [59], 0, 11⟩, ⟨3, [125], 0, 12⟩], entry_at (T1 := [⟨1, [116, 101, 120, 116], 0, 2⟩, ⟨1, [34, 32, 97, 34], 0, 7⟩, ⟨3, [59], 0, 11⟩, ⟨3, [125], 0, 12⟩]) (by decide +kernel) (by decide +kernel) hk (life := 300) (r2 := [⟨1, [34, 32, 97, 34], 0, 7⟩, ⟨3, [59], 0, 11⟩, ⟨3, [125], 0, 12⟩]) (by decide +kernel) (by decide +kernel), ⟨_, _, rfl, by decide +kernel⟩, ⟨⟨3, [59], 0, 11⟩, ⟨3, [125], 0, 12⟩, by decide +kernel, by decide +kernel, by decide +kernel⟩, by decide +kernel, by decide +kernel⟩
  | 6, _, _ => ⟨[⟨3, [59], 0, 15⟩, ⟨3, [125], 0, 16⟩], entry_at (T1 := [⟨1, [116, 101, 120, 116], 0, 2⟩, ⟨1, [34, 97, 34], 0, 7⟩, ⟨3, [44], 0, 10⟩, ⟨1, [34, 97, 34], 0, 12⟩, ⟨3, [59], 0, 15⟩, ⟨3, [125], 0, 16⟩]) (by decide +kernel) (by decide +kernel) hk (life := 300) (r2 := [⟨1, [34, 97, 34], 0, 7⟩, ⟨3, [44], 0, 10⟩, ⟨1, [34, 97, 34], 0, 12⟩, ⟨3, [59], 0, 15⟩, ⟨3, [125], 0, 16⟩]) (by decide +kernel) (by decide +kernel), ⟨_, _, rfl, by decide +kernel⟩, ⟨⟨3, [59], 0, 15⟩, ⟨3, [125], 0, 16⟩, by decide +kernel, by decide +kernel, by decide +kernel⟩, by decide +kernel, by decide +kernel⟩
  | 7, _, _ => ⟨[⟨2, [], 100001, 12⟩, ⟨1, [34, 97, 34], 0, 19⟩, ⟨3, [59], 0, 22⟩, ⟨3, [125], 0, 23⟩], entry_at_life (T1 := [⟨1, [116, 101, 120, 116], 0, 2⟩, ⟨1, [108, 105, 102, 101], 0, 7⟩, ⟨2, [], 100001, 12⟩, ⟨1, [34, 97, 34], 0, 19⟩, ⟨3, [59], 0, 22⟩, ⟨3, [125], 0, 23⟩]) (by decide +kernel) (by decide +kernel) hk (by decide +kernel), ⟨_, _, rfl, by decide +kernel⟩, ⟨⟨3, [59], 0, 22⟩, ⟨3, [125], 0, 23⟩, by decide +kernel, by decide +kernel, by decide +kernel⟩, by decide +kernel, by decide +kernel⟩
  | 8, _, h => absurd rfl h
  | 9, _, _ => ⟨[⟨1, [34, 98, 34], 0, 11⟩, ⟨3, [59], 0, 14⟩, ⟨3, [125], 0, 15⟩], entry_at (T1 := [⟨1, [116, 101, 120, 116], 0, 2⟩, ⟨1, [34, 97, 34], 0, 7⟩, ⟨1, [34, 98, 34], 0, 11⟩, ⟨3, [59], 0, 14⟩, ⟨3, [125], 0, 15⟩]) (by decide +kernel) (by decide +kernel) hk (life := 300) (r2 := [⟨1, [34, 97, 34], 0, 7⟩, ⟨1, [34, 98, 34], 0, 11⟩, ⟨3, [59], 0, 14⟩, ⟨3, [125], 0, 15⟩]) (by decide +kernel) (by decide +kernel), ⟨_, _, rfl, by decide +kernel⟩, ⟨⟨3, [59], 0, 14⟩, ⟨3, [125], 0, 15⟩, by decide +kernel, by decide +kernel, by decide +kernel⟩, by decide +kernel, by decide +kernel⟩
  | 10, _, _ => ⟨[⟨1, [97, 46, 46, 98], 0, 0⟩, ⟨1, [116, 101, 120, 116], 0, 5⟩, ⟨1, [34, 97, 34], 0, 10⟩, ⟨3, [59], 0, 13⟩, ⟨3, [125], 0, 14⟩], entry_owner (by unfold ownerR; rw [if_neg (by decide +kernel), if_neg (by decide +kernel), if_pos (by decide +kernel)]; rfl), ⟨_, _, rfl, by decide +kernel⟩, ⟨⟨3, [59], 0, 13⟩, ⟨3, [125], 0, 14⟩, by decide +kernel, by decide +kernel, by decide +kernel⟩, by decide +kernel, by decide +kernel⟩
  | 11, _, _ => ⟨[⟨2, [], 7, 0⟩, ⟨1, [116, 101, 120, 116], 0, 2⟩, ⟨1, [34, 97, 34], 0, 7⟩, ⟨3, [59], 0, 10⟩, ⟨3, [125], 0, 11⟩], entry_owner (by unfold ownerR; rw [if_neg (by decide +kernel), if_pos (by decide +kernel)]; rfl), ⟨_, _, rfl, by decide +kernel⟩, ⟨⟨3, [59], 0, 10⟩, ⟨3, [125], 0, 11⟩, by decide +kernel, by decide +kernel, by decide +kernel⟩, by decide +kernel, by decide +kernel⟩
  | k + 12, h, _ => absurd h (by omega)
theorem key_free {l : List DSet} {apex : List UInt8} (h : ∀ s ∈ l, ¬ (s.name = apex ∧ s.type = 5)) : (apex, (5 : Int)) ∉ keysR (l.map sg) [] := by
  unfold keysR
  rw [List.append_nil, List.mem_reverse, List.map_map]
  intro hm
  obtain ⟨s, hs, e⟩ := List.mem_map.1 hm
  exact h s hs ⟨congrArg Prod.fst e, congrArg Prod.snd e⟩
theorem wrong_parse {apex : List UInt8} {l : List DSet} (h : Small apex l) (h5 : ∀ s ∈ l, ¬ (s.name = apex ∧ s.type = 5)) {k : Nat} (hk : k < 12) (h8 : (preF apex false l).length ≤ 7900) : parse (preF apex false l ++ (wk k ++ [125, 10])) = ([], [⟨we k, (preF apex false l).length + (wq k).length⟩]) := by
  have hw : (wk k ++ [125, 10]).length ≤ 40 := by
    have h : ∀ k, k < 12 → (wk k ++ [125, 10]).length ≤ 40 := by decide +kernel
    exact h k hk
  have hT : (wT k).length ≤ 20 := by
    have h : ∀ k, k < 12 → (wT k).length ≤ 20 := by decide +kernel
    exact h k hk
  have hl : (preF apex false l ++ (wk k ++ [125, 10])).length ≤ 8000 := by rw [List.length_append]; omega
  have hn := preToks_len (b := false) h
  have hx := wrong_lex k hk
  obtain ⟨ts, e1, e2⟩ := (lx_preF (b := false) h (wk k ++ [125, 10]) 0 0 (.inl rfl) (by omega)).1 (by omega)
  rw [Nat.zero_add, Nat.zero_add] at e2
  generalize hP : (preF apex false l).length = P at *
  generalize hM : (preToks apex false l).length = M at *
  have hmv := lex_move (wk k ++ [125, 10]).length (wk k ++ [125, 10]) 0 P 0 M (Nat.le_refl _)
  rw [Nat.zero_add, hx] at hmv
  by_cases h9 : k = 8
  · subst h9
    rw [if_pos rfl] at hmv
    have hmv := hmv (by simp; omega) (by simp) (by simp; omega)
    rw [hmv] at e2
    have e3 : lex (preF apex false l ++ (wk 8 ++ [125, 10])) = ([], 10, P) := by
      unfold lex
      rw [if_neg (by omega), e2]
      simp
    unfold parse
    rw [e3]
    simp
    exact ⟨rfl, (Int.add_zero _).symm⟩
  · rw [if_neg h9] at hmv
    have hmv := hmv (by simp; omega) (by simp) (by simp)
    rw [hmv] at e2
    have e3 : lexFrom (preF apex false l ++ (wk k ++ [125, 10])) 0 0 = (ts ++ (wT k).map (shift P), 0, 0) := by rw [e2]; simp
    have e4 := lex_of hl e3
    unfold preToks at e1
    obtain ⟨hd, v, rfl, h3, h4⟩ := core_split e1
    obtain ⟨tss, rfl, c5, c6⟩ := core_flat _ _ _ h4
    obtain ⟨r', hW⟩ := wrong_at (key_free h5) k hk h9
    obtain ⟨t, u, rfl, hp⟩ := hW.pos
    obtain ⟨a, b, s1, s2, s3⟩ := hW.skip
    generalize hz : ((preF apex false l ++ (wk k ++ [125, 10])).length : Int) = size at *
    have hb := body_reads (size := size) (apex := apex) [] ((wT k).map (shift P)) (l.map sg) tss [] [] (by simp [c5]) (fun i x w hx hw => by
      rw [List.getElem?_map] at hx
      cases hl : l[i]? with
      | none => rw [hl] at hx; cases hx
      | some s =>
        rw [hl] at hx
        cases hx
        exact ent_line (h.good s (List.mem_of_getElem? hl)) (c6 i s w hl hw)) (keys_sg h.keys) (by simp)
    have hmv2 : (wT k).map (shift P) = mvL (fun x => x + P) (wT k) := rfl
    have hb2 := body_wrong (size := size) (apex := apex) (K := keysR (l.map sg) []) (acc := [] ++ l.map sg) (R := mvL (fun x => x + P) (wT k)) (e := we k) (r' := mvL (fun x => x + P) (t :: u)) (a := mvT (fun x => x + P) a) (b := mvT (fun x => x + P) b)
      (by rw [isS_mv]; exact hW.head) (by rw [entryR_mv, hW.entry]; rfl) (by rw [skipR_mv, s1]; rfl) (by have := isS_mv (fun x => x + P) [59] [a, b]; rw [s2] at this; exact this) (by have := isS_mv (fun x => x + P) [125] [b]; rw [s3] at this; exact this) (by rw [mvL_len]; exact hW.more)
    rw [hmv2, hb2] at hb
    have hh := header_reads_at (known := []) h.name h.wild (by simp) (ts := hd) (rest := tss.flatten ++ (wT k).map (shift P)) h3
    have hne : hd ++ (tss.flatten ++ (wT k).map (shift P)) ≠ [] := by
      intro e
      have := (List.append_eq_nil_iff.1 e).1
      rw [this] at h3
      simp at h3
    rw [← hmv2] at hb
    have hf := fileR_one hne hh hb
    unfold parse
    rw [e4, List.append_assoc]
    simp only [ne_eq, not_true_eq_false, if_false]
    rw [hz, hf, if_neg (by simp)]
    have : posT size (mvL (fun x => x + (P : Int)) (t :: u)) = (P : Int) + (wq k).length := by
      show t.pos + (P : Int) = _
      rw [hp]
      omega
    rw [this]
end Go.Proofs.YtnbolgdccdnjeaaGreatDoor.Np
