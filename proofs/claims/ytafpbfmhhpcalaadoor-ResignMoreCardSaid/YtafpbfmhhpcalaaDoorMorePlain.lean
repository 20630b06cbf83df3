/- The plain law behind ResignMore: more length, less life or less drift: at most as many times. -/
import Derived.Test.YtafpbfmhhpcalaaDoorSpec2
namespace Go.Proofs.YtafpbfmhhpcalaaDoor.Np

theorem times_cnt (b s k : Int) : (timesFrom b s k).length = ((s - b + k - 1) / k).toNat := by simp [timesFrom]
theorem cnt_anti {b s k k' : Int} (hk : 1 ≤ k) (hkk : k ≤ k') (hbs : b < s) : (timesFrom b s k').length ≤ (timesFrom b s k).length := by
  rw [times_cnt, times_cnt]
  have h1 : (s - b + k' - 1) / k' ≤ (s - b + k - 1) / k := by
    have e1 : s - b + k' - 1 = (s - b - 1) + 1 * k' := by omega
    have e2 : s - b + k - 1 = (s - b - 1) + 1 * k := by omega
    rw [e1, e2, Int.add_mul_ediv_right _ _ (by omega), Int.add_mul_ediv_right _ _ (by omega)]
    have h3 : (s - b - 1) / k' ≤ (s - b - 1) / k := by
      rw [Int.le_ediv_iff_mul_le (by omega)]
      have h4 : (s - b - 1) / k' * k' ≤ s - b - 1 := Int.ediv_mul_le _ (by omega)
      have h5 : 0 ≤ (s - b - 1) / k' := Int.ediv_nonneg (by omega) (by omega)
      have h6 : (s - b - 1) / k' * k ≤ (s - b - 1) / k' * k' := Int.mul_le_mul_of_nonneg_left hkk h5
      omega
    omega
  exact Int.toNat_le_toNat h1
theorem cnt_le {b s k : Int} (hk : 1 ≤ k) (hbs : b < s) : ((timesFrom b s k).length : Int) ≤ s - b := by
  have h := cnt_anti (b := b) (s := s) (k := 1) (k' := k) (by omega) hk hbs
  rw [times_cnt b s 1] at h
  simp at h
  omega
theorem cnt_pos {b s k : Int} (hk : 1 ≤ k) (hbs : b < s) : ∃ r, timesFrom b s k = b :: r := by
  have h : 1 ≤ ((s - b + k - 1) / k).toNat := by
    have : 1 ≤ (s - b + k - 1) / k := by rw [Int.le_ediv_iff_mul_le (by omega)]; omega
    omega
  obtain ⟨n, hn⟩ : ∃ n, ((s - b + k - 1) / k).toNat = n + 1 := ⟨_, (Nat.succ_pred_eq_of_pos h).symm⟩
  unfold timesFrom
  rw [hn, List.range_succ_eq_map]
  exact ⟨_, by simp only [List.map_cons]; congr 1; omega⟩

theorem err_arg {b s l d f : Int} (h : timesErr b s l d f = 0) : timesArg b s l d f ∧ 1 ≤ timesStep l d f ∧ (timesFrom b s (timesStep l d f)).length ≤ 400 := by
  unfold timesErr at h
  split at h
  · split at h
    · omega
    · split at h
      · omega
      · exact ⟨‹_›, by omega, by omega⟩
  · omega
theorem times_ok {b s l d f : Int} (h : timesErr b s l d f = 0) : times b s l d f = timesFrom b s (timesStep l d f) := by unfold times; rw [if_pos h]
theorem times_bad {b s l d f : Int} (h : timesErr b s l d f ≠ 0) : times b s l d f = [] := by unfold times; rw [if_neg h]

/-- With another length, drift and life, whose step is at least as great: no error, at most as many times, the first the same. -/
theorem more_any {b s l d f l' d' f' : Int} (h : timesErr b s l d f = 0) (harg : timesArg b s l' d' f') (hst : timesStep l d f ≤ timesStep l' d' f') :
    timesErr b s l' d' f' = 0 ∧ (∃ r, times b s l' d' f' = b :: r) ∧ (times b s l' d' f').length ≤ (times b s l d f).length := by
  obtain ⟨ha, h1, h2⟩ := err_arg h
  have hbs : b < s := by unfold timesArg at ha; omega
  have hc := cnt_anti h1 hst hbs
  have he : timesErr b s l' d' f' = 0 := by unfold timesErr; rw [if_pos harg, if_neg (by omega), if_neg (by omega)]
  refine ⟨he, ?_, ?_⟩
  · rw [times_ok he]; exact cnt_pos (by omega) hbs
  · rw [times_ok he, times_ok h]; exact hc
theorem own_any {b s l d f : Int} (h : timesErr b s l d f = 0) : ((times b s l d f).length : Int) ≤ s - b ∧ (times b s l d f).length ≤ 400 := by
  obtain ⟨ha, h1, h2⟩ := err_arg h
  rw [times_ok h]
  exact ⟨cnt_le h1 (by unfold timesArg at ha; omega), h2⟩

theorem mod_le (x k : Int) (hk : 0 ≤ k) : 0 ≤ x % (k + 1) ∧ x % (k + 1) ≤ k := ⟨Int.emod_nonneg _ (by omega), by have := Int.emod_lt_of_pos x (show 0 < k + 1 by omega); omega⟩

end Go.Proofs.YtafpbfmhhpcalaaDoor.Np
