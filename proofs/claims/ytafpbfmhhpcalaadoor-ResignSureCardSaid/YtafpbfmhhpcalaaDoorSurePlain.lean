/- ResignSure, plain: what Sign makes is sure just when Signed says so. -/
import Derived.Test.YtafpbfmhhpcalaaDoorTrust
import Derived.Test.YtafpbfmhhpcalaaDoorSpan
namespace Go.Proofs.YtafpbfmhhpcalaaDoor
namespace Np
theorem signOk_win {s : DSet} {sn z : ByteArray} {n a f u : Int} (h : signOk s sn z n a f u = true) : 0 ≤ f ∧ f ≤ u ∧ u ≤ 20000000 := by
  simp [signOk, validWindow] at h; omega
theorem signOk_set {s : DSet} {sn z : ByteArray} {n a f u : Int} (h : signOk s sn z n a f u = true) : validSet s = true := by
  simp [signOk] at h; simp [h]
def ownSig (s : DSet) (z : ByteArray) (n a f u : Int) : Sig := ⟨z.data.toList, n, a, f, u, sigSum s z n a f u⟩
theorem plain_own {s : DSet} {sn z : ByteArray} {n a f u : Int} (h : signOk s sn z n a f u = true) : plain ⟨s, [ownSig s z n a f u]⟩ = true := by
  have h1 := signOk_win h
  have h2 := signOk_set h
  have a1 : ¬ f < 0 := by omega
  have a2 : ¬ u < f := by omega
  have a3 : ¬ 20000000 < u := by omega
  simp [plain, plainSigs, ownSig, sameWin, h2, a1, a2, a3]
theorem err_own {s : DSet} {sn z : ByteArray} {n a f u : Int} (h : signOk s sn z n a f u = true) {d : Int} (h0 : 0 ≤ d) (h1 : d ≤ 1000) : sureErr ⟨s, [ownSig s z n a f u]⟩ d 10000000 = 0 := by
  simp [sureErr, plain_own h]; omega
theorem sure_own {s : DSet} {sn z : ByteArray} {n a f u : Int} (h : signOk s sn z n a f u = true) {d : Int} (h0 : 0 ≤ d) (h1 : d ≤ 1000) :
    sure ⟨s, [ownSig s z n a f u]⟩ d 10000000 = if min 10000000 (u - d + 1) ≤ f + d then [] else [⟨f + d, min 10000000 (u - d + 1)⟩] := by
  rw [sure, if_pos (err_own h h0 h1)]
  simp only [sureFrom, sureTil, ownSig]
  split <;> rename_i h' <;> simp [h']
theorem sure_valid {s : DSet} {sn z : ByteArray} {n a f u : Int} (h : signOk s sn z n a f u = true) {d : Int} (h0 : 0 ≤ d) (h1 : d ≤ 1000) : spanValid (sure ⟨s, [ownSig s z n a f u]⟩ d 10000000) = true := by
  have hw := signOk_win h
  rw [sure_own h h0 h1]
  split
  · rfl
  · rename_i hc
    simp [spanValid, spansOk, spanOk]
    omega
theorem sure_has {s : DSet} {sn z : ByteArray} {n a f u : Int} (h : signOk s sn z n a f u = true) {d : Int} (h0 : 0 ≤ d) (h1 : d ≤ 1000) (t : Int) : spanHas (sure ⟨s, [ownSig s z n a f u]⟩ d 10000000) t = decide (f + d ≤ t ∧ t < 10000000 ∧ t + d ≤ u) := by
  rw [sure_own h h0 h1]
  rw [Bool.eq_iff_iff, decide_eq_true_eq]
  split
  · rename_i hc
    simp [spanHas]; omega
  · rename_i hc
    simp [spanHas]; omega
theorem signed_own {s : DSet} {sn z : ByteArray} {n a f u : Int} (hn : sn.data.toList = s.name) (h : signOk s sn z n a f u = true) {d : Int} (h0 : 0 ≤ d) (h1 : d ≤ 1000) {t : Int} (t0 : 0 ≤ t) (t1 : t < 10000000) :
    signedBy ⟨s, [ownSig s z n a f u]⟩ z.data.toList [⟨n, a⟩] t d = spanHas (sure ⟨s, [ownSig s z n a f u]⟩ d 10000000) t := by
  have hc : checkG s (ownSig s z n a f u) ⟨n, a⟩ = true := by
    simp only [checkG, ownSig, bytes_mk, bytes_of hn, check, h]
    simp
  rw [sure_has h h0 h1, Bool.eq_iff_iff]
  have ht : validTime t d = true := by simp [validTime]; omega
  simp only [signedBy, ht, sigSure, List.any_cons, List.any_nil, hc, Bool.or_false, Bool.true_and, Bool.and_true]
  simp only [Bool.and_eq_true, decide_eq_true_eq]
  show (z.data.toList = z.data.toList ∧ f ≤ t - d ∧ t + d ≤ u) ↔ _
  simp only [true_and]
  omega
theorem sure_less {s : DSet} {sn z : ByteArray} {n a f u : Int} (h : signOk s sn z n a f u = true) {d : Int} (h0 : 0 ≤ d) (h1 : d ≤ 1000) {e : Int} (e0 : 0 ≤ e) (e1 : e ≤ d) (t : Int)
    (ht : spanHas (sure ⟨s, [ownSig s z n a f u]⟩ d 10000000) t = true) : spanHas (sure ⟨s, [ownSig s z n a f u]⟩ e 10000000) t = true := by
  rw [sure_has h h0 h1] at ht
  rw [sure_has h e0 (by omega)]
  simp at ht ⊢; omega
end Np
end Go.Proofs.YtafpbfmhhpcalaaDoor
