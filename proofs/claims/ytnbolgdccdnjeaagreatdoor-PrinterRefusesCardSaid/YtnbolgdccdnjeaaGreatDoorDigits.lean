/- Digits, plain: what Trim leaves of a text, and what Atoi makes of it. -/
import Derived.Test.YtnbolgdccdnjeaaGreatDoorLexSpec
import Derived.Lib.AtoiAll
import Derived.Lib.SlTrimSet
namespace Go.Proofs.YtnbolgdccdnjeaaGreatDoor
open Go
def digits : List UInt8 := [48, 49, 50, 51, 52, 53, 54, 55, 56, 57]
theorem digits_eq (c : UInt8) : digits.contains c = Np.isDig c := by
  have h : ∀ n : Fin 256, digits.contains (UInt8.ofNat n.val) = Np.isDig (UInt8.ofNat n.val) := by decide +kernel
  have := h ⟨c.toNat, UInt8.toNat_lt c⟩
  simpa using this
theorem dropWhile_nil {p : UInt8 → Bool} : ∀ {l : List UInt8}, l.dropWhile p = [] ↔ l.all p = true
  | [] => by simp
  | c :: l => by
    rw [List.dropWhile_cons]
    split
    · rename_i h; rw [dropWhile_nil (l := l)]; simp [h]
    · rename_i h; simp [h]
theorem trim_nil (l : List UInt8) : Lib.trimS l digits = [] ↔ l.all Np.isDig = true := by
  have hf : (digits.contains ·) = Np.isDig := funext digits_eq
  unfold Lib.trimS Lib.trimLeftS Lib.trimRightS
  rw [hf, dropWhile_nil]
  constructor
  · intro h
    rw [List.all_reverse] at h
    have h2 : (l.reverse.dropWhile Np.isDig) = [] := by
      cases hd : l.reverse.dropWhile Np.isDig with
      | nil => rfl
      | cons a r =>
        rw [hd] at h
        have h3 := List.head_dropWhile_not Np.isDig (l := l.reverse) (by rw [hd]; simp)
        simp only [hd, List.head_cons] at h3
        simp at h
        rw [h.1] at h3
        cases h3
    rw [dropWhile_nil, List.all_reverse] at h2
    exact h2
  · intro h
    have : l.reverse.dropWhile Np.isDig = [] := by rw [dropWhile_nil, List.all_reverse]; exact h
    rw [this]; rfl
def decFrom (a : Nat) (l : List UInt8) : Nat := l.foldl (fun a c => 10 * a + (c.toNat - 48)) a
theorem decFrom_ge : ∀ (l : List UInt8) (a : Nat), a ≤ decFrom a l
  | [], _ => Nat.le_refl _
  | c :: l, a => by
    have := decFrom_ge l (10 * a + (c.toNat - 48))
    simp only [decFrom, List.foldl_cons] at this ⊢
    omega
theorem isDig_iff (c : UInt8) : Np.isDig c = true ↔ 48 ≤ c.toNat ∧ c.toNat ≤ 57 := by
  simp [Np.isDig, UInt8.le_iff_toNat_le]
theorem parse_digits : ∀ (l : List UInt8) (a : Nat), l.all Np.isDig = true → a < 18446744073709551616 → Lib.parseUint10 a l = if decFrom a l < 18446744073709551616 then .ok (decFrom a l) else .range
  | [], a, _, ha => by
    rw [Lib.parseUint10, if_pos (by exact ha)]; rfl
  | c :: l, a, h, ha => by
    simp only [List.all_cons, Bool.and_eq_true] at h
    have hc := (isDig_iff c).1 h.1
    have hd : decFrom a (c :: l) = decFrom (10 * a + (c.toNat - 48)) l := rfl
    have hge := decFrom_ge l (10 * a + (c.toNat - 48))
    rw [Lib.parseUint10, if_pos hc, hd]
    split
    · rename_i h1
      rw [if_neg (by omega)]
    · split
      · rename_i h1 h2
        rw [if_neg (by omega)]
      · rename_i h1 h2
        rw [show a * 10 + (c.toNat - 48) = 10 * a + (c.toNat - 48) by omega] at h2 ⊢
        exact parse_digits l _ h.2 (by omega)
theorem atoi_digits {l : List UInt8} (h : l.all Np.isDig = true) (hne : l ≠ []) : Lib.atoiAll l = if Np.dec l < 9223372036854775808 then .ok (Np.dec l : Int) else .range := by
  cases l with
  | nil => exact absurd rfl hne
  | cons c r =>
    have hc := (isDig_iff c).1 (by simp only [List.all_cons, Bool.and_eq_true] at h; exact h.1)
    have hp := parse_digits (c :: r) 0 h (by omega)
    have hd : decFrom 0 (c :: r) = Np.dec (c :: r) := rfl
    rw [hd] at hp
    unfold Lib.atoiAll
    simp only
    rw [if_neg (show ¬ (c.toNat = 43 ∨ c.toNat = 45) by omega)]
    unfold Lib.parseMag
    rw [if_neg hne, hp]
    by_cases h1 : Np.dec (c :: r) < 18446744073709551616
    · rw [if_pos h1]
      simp only
      by_cases h2 : Np.dec (c :: r) < 9223372036854775808
      · rw [if_neg (by omega), if_neg (by omega), if_neg (by omega), if_pos h2]
      · rw [if_pos (by omega), if_neg h2]
    · rw [if_neg h1, if_neg (by omega)]
end Go.Proofs.YtnbolgdccdnjeaaGreatDoor
