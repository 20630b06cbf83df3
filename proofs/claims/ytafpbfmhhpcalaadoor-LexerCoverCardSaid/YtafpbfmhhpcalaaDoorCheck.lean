/- sign.Check. -/
import Derived.Test.YtafpbfmhhpcalaaDoorSign3
import Derived.Laws.StructEq
namespace Go.Proofs.YtafpbfmhhpcalaaDoor
open Go.RowKit
def Np.check (s : Np.DSet) (sn z : ByteArray) (key alg f u sum n a : Int) : Bool := Np.signOk s sn z n a f u && (decide (key = n) && (decide (alg = a) && decide (sum = Np.sigSum s z n a f u)))
set_option maxRecDepth 100000 in
set_option maxHeartbeats 1000000 in
theorem check_any (s : ByteArray) (hs : s.size ≤ 140737488355328) (ty life : Int) (v : Value) (ds : List Np.Datum) (z : ByteArray) (hz : z.size ≤ 140737488355328) (key alg f u sum n a : Int) (w : World) (hR : RulesIn w w.heap.size) (hd : SlR RDatum 3 w w.heap.size v ds) :
    Calls Tryd.prog 49 #[.agg #[.string s, .int .i64 ty, .int .i64 life, v], .agg #[.string z, .int .i64 key, .int .i64 alg, .int .i64 f, .int .i64 u, .int .u64 sum], .agg #[.int .i64 n, .int .i64 a]] w
      fun e w' => e = .returned (.bool (Np.check ⟨s.data.toList, ty, life, ds⟩ s z key alg f u sum n a)) ∧ Below w.heap.size w w' := by
  have HR := Lib.hid hR
  have HD := Lib.hid hd
  obtain ⟨A, c, rfl, hc1, hl1, he1⟩ := hd
  clear hR he1
  have hB0 : ∀ o1 o2 o3 : Obj, Below w.heap.size w (((w.alloc o1).alloc o2).alloc o3) := fun o1 o2 o3 => (((Below.refl _ w).alloc (Nat.le_refl _) _).alloc (by simp) _).alloc (by simp; omega) _
  have HB0 := Lib.hid hB0
  clear hB0
  by_cases hok : Np.signOk ⟨s.data.toList, ty, life, ds⟩ s z n a f u = true
  · have OK := Lib.hid hok
    clear hok
    go_enter Tryd.func49, Tryd.ntmps49
    go_wp2_with fail
    refine (sign_ok s hs ty life _ ds z hz n a f u _ ?_ ?_ OK.out).mono ?_
    · exact (HR.out.keep (HB0.out _ _ _)).more (by simp; omega)
    · exact (HD.out.keep rdatum_kept (HB0.out _ _ _)).more rdatum_more (by simp; omega)
    rintro e w1 ⟨rfl, hb⟩
    obtain ⟨c1, f1⟩ := bcell hb
    have z1 := hb.size
    simp only [World.size_alloc] at z1
    have HB := Lib.hid ((HB0.out _ _ _).trans (hb.mono (by simp; omega)))
    have l1 : w.heap.size + 1 < w1.heap.size := by omega
    clear hb
    go_wp2_with fail
    all_goals
      go_ret
      refine ⟨ret_bool ?_, HB.out.alloc (by omega) _⟩
      have ok := OK.out
      go_light
      simp_all [Np.check] <;> (intros; subst_vars; first | omega | simp_all)
  · have OK := Lib.hid (show Np.signOk ⟨s.data.toList, ty, life, ds⟩ s z n a f u = false by simpa using hok)
    clear hok
    go_enter Tryd.func49, Tryd.ntmps49
    go_wp2_with fail
    refine (sign_bad s hs ty life _ ds z hz n a f u _ ?_ ?_ OK.out).mono ?_
    · exact (HR.out.keep (HB0.out _ _ _)).more (by simp; omega)
    · exact (HD.out.keep rdatum_kept (HB0.out _ _ _)).more rdatum_more (by simp; omega)
    rintro e w1 ⟨rfl, hb⟩
    obtain ⟨c1, f1⟩ := bcell hb
    have z1 := hb.size
    simp only [World.size_alloc] at z1
    have HB := Lib.hid ((HB0.out _ _ _).trans (hb.mono (by simp; omega)))
    have l1 : w.heap.size + 1 < w1.heap.size := by omega
    clear hb
    go_wp2_with fail
    go_ret
    refine ⟨ret_bool ?_, HB.out.alloc (by omega) _⟩
    rw [Np.check, OK.out]; rfl
end Go.Proofs.YtafpbfmhhpcalaaDoor
