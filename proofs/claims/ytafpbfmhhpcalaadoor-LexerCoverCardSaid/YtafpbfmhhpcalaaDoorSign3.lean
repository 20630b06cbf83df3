/- sign.Sign. -/
import Derived.Test.YtafpbfmhhpcalaaDoorUnder
import Derived.Deep.RegionHeld3
namespace Go.Proofs.YtafpbfmhhpcalaaDoor
open Go.RowKit
def Np.signOk (s : Np.DSet) (sn z : ByteArray) (n a f u : Int) : Bool := Np.validKey n a && (Np.validWindow f u && (Np.validName z.data.toList && (!Np.isWild z.data.toList && (Np.validSet s && Np.under sn z))))
def Np.sigSum (s : Np.DSet) (z : ByteArray) (n a f u : Int) : Int := Np.sum ((Np.recBytes s).map fun c => (c.toNat : Int)) z n a f u
set_option maxRecDepth 100000 in
set_option maxHeartbeats 1000000 in
theorem hasPrefixStar (s : ByteArray) (hs : s.size ≤ 140737488355328) (w : World) :
    Calls Tryd.prog 29 #[.string s, .string ⟨#[42]⟩] w fun e w' => e = .returned (.bool (Np.isWild s.data.toList)) ∧ w = w' := by
  have h1 : 1 ≤ s.size → ((s.extract 0 1).toList == [42]) = Np.isWild s.data.toList := isWild_eq s
  have h2 : s.size < 1 → Np.isWild s.data.toList = false := fun h => by
    have : s.data.toList = [] := List.eq_nil_of_length_eq_zero (by rw [size_list]; omega)
    rw [this]; rfl
  have H1 := Lib.hid h1
  have H2 := Lib.hid h2
  clear h1 h2
  go_enter Tryd.func29, Tryd.ntmps29
  go_wp2
  · go_ret
    exact ⟨ret_bool (H1.out (by omega)), rfl⟩
  · go_ret
    exact ⟨ret_bool (H2.out (by omega)).symm, rfl⟩
set_option maxRecDepth 100000 in
set_option maxHeartbeats 1000000 in
theorem sign_bad1 (s : ByteArray) (ty life : Int) (v : Value) (ds : List Np.Datum) (z : ByteArray) (n a f u : Int) (w : World) (hR : RulesIn w w.heap.size) (hd : SlR RDatum 3 w w.heap.size v ds)
    (k1 : Np.validKey n a = false) :
    Calls Tryd.prog 13 #[.agg #[.string s, .int .i64 ty, .int .i64 life, v], .string z, .agg #[.int .i64 n, .int .i64 a], .int .i64 f, .int .i64 u] w
      fun e w' => e = .returned (.tuple #[.agg #[.string ⟨#[]⟩, .int .i64 0, .int .i64 0, .int .i64 0, .int .i64 0, .int .u64 0], .int .i64 1]) ∧ Below w.heap.size w w' := by
  have HR := Lib.hid hR
  have HD := Lib.hid hd
  have K1 := Lib.hid k1
  obtain ⟨A, c, rfl, hc1, hl1, he1⟩ := hd
  clear hR he1 k1
  go_enter Tryd.func13, Tryd.ntmps13
  go_wp2_with fail
  refine (validKey_any n a _).mono ?_
  rintro e w1 ⟨rfl, hb⟩
  rw [K1.out]
  obtain ⟨c1, f1⟩ := bcell hb
  have HB := Lib.hid hb
  have z1 := hb.size
  simp only [World.size_alloc] at z1
  clear hb
  go_wp2_with fail
  refine bodyPost_ret (v := .tuple #[.agg #[.string ⟨#[]⟩, .int .i64 0, .int .i64 0, .int .i64 0, .int .i64 0, .int .u64 0], .int .i64 1]) (by simp [results, Tryd.results13, go_sem, c1]) rfl ⟨rfl, ?_⟩
  have hbw : Below w.heap.size w _ := ((((Below.refl _ w).alloc (Nat.le_refl _) _).alloc (by simp) _).alloc (by simp; omega) _).trans (HB.out.mono (by simp; omega))
  repeat refine Below.setCell ?_ (by simp <;> omega) _
  exact hbw
set_option maxRecDepth 100000 in
set_option maxHeartbeats 1000000 in
theorem sign_bad2 (s : ByteArray) (ty life : Int) (v : Value) (ds : List Np.Datum) (z : ByteArray) (n a f u : Int) (w : World) (hR : RulesIn w w.heap.size) (hd : SlR RDatum 3 w w.heap.size v ds)
    (k1 : Np.validKey n a = true) (k2 : Np.validWindow f u = false) :
    Calls Tryd.prog 13 #[.agg #[.string s, .int .i64 ty, .int .i64 life, v], .string z, .agg #[.int .i64 n, .int .i64 a], .int .i64 f, .int .i64 u] w
      fun e w' => e = .returned (.tuple #[.agg #[.string ⟨#[]⟩, .int .i64 0, .int .i64 0, .int .i64 0, .int .i64 0, .int .u64 0], .int .i64 1]) ∧ Below w.heap.size w w' := by
  have HR := Lib.hid hR
  have HD := Lib.hid hd
  have K1 := Lib.hid k1
  have K2 := Lib.hid k2
  obtain ⟨A, c, rfl, hc1, hl1, he1⟩ := hd
  clear hR he1 k1 k2
  go_enter Tryd.func13, Tryd.ntmps13
  go_wp2_with fail
  refine (validKey_any n a _).mono ?_
  rintro e w1 ⟨rfl, hb⟩
  rw [K1.out]
  obtain ⟨c1, f1⟩ := bcell hb
  have HB := Lib.hid hb
  have z1 := hb.size
  simp only [World.size_alloc] at z1
  clear hb
  go_wp2_with fail
  refine (validWindow_any f u _).mono ?_
  rintro e w' ⟨rfl, rfl⟩
  rw [K2.out]
  go_wp2_with fail
  refine bodyPost_ret (v := .tuple #[.agg #[.string ⟨#[]⟩, .int .i64 0, .int .i64 0, .int .i64 0, .int .i64 0, .int .u64 0], .int .i64 1]) (by simp [results, Tryd.results13, go_sem, c1]) rfl ⟨rfl, ?_⟩
  have hbw : Below w.heap.size w _ := ((((Below.refl _ w).alloc (Nat.le_refl _) _).alloc (by simp) _).alloc (by simp; omega) _).trans (HB.out.mono (by simp; omega))
  repeat refine Below.setCell ?_ (by simp <;> omega) _
  exact hbw
set_option maxRecDepth 100000 in
set_option maxHeartbeats 1000000 in
theorem sign_bad3 (s : ByteArray) (ty life : Int) (v : Value) (ds : List Np.Datum) (z : ByteArray) (hz : z.size ≤ 140737488355328) (n a f u : Int) (w : World) (hR : RulesIn w w.heap.size) (hd : SlR RDatum 3 w w.heap.size v ds)
    (k1 : Np.validKey n a = true) (k2 : Np.validWindow f u = true) (k3 : Np.validName z.data.toList = false) :
    Calls Tryd.prog 13 #[.agg #[.string s, .int .i64 ty, .int .i64 life, v], .string z, .agg #[.int .i64 n, .int .i64 a], .int .i64 f, .int .i64 u] w
      fun e w' => e = .returned (.tuple #[.agg #[.string ⟨#[]⟩, .int .i64 0, .int .i64 0, .int .i64 0, .int .i64 0, .int .u64 0], .int .i64 1]) ∧ Below w.heap.size w w' := by
  have HR := Lib.hid hR
  have HD := Lib.hid hd
  have K1 := Lib.hid k1
  have K2 := Lib.hid k2
  have K3 := Lib.hid k3
  obtain ⟨A, c, rfl, hc1, hl1, he1⟩ := hd
  clear hR he1 k1 k2 k3
  go_enter Tryd.func13, Tryd.ntmps13
  go_wp2_with fail
  refine (validKey_any n a _).mono ?_
  rintro e w1 ⟨rfl, hb⟩
  rw [K1.out]
  obtain ⟨c1, f1⟩ := bcell hb
  have HB := Lib.hid hb
  have z1 := hb.size
  simp only [World.size_alloc] at z1
  clear hb
  go_wp2_with fail
  refine (validWindow_any f u _).mono ?_
  rintro e w' ⟨rfl, rfl⟩
  rw [K2.out]
  go_wp2_with fail
  refine (nameValid_any z hz _).mono ?_
  rintro e w2 ⟨rfl, hb⟩
  rw [K3.out]
  replace hb := HB.out.trans (hb.mono (by simp; omega))
  clear HB c1 f1 z1
  obtain ⟨c1, f1⟩ := bcell hb
  have HB := Lib.hid hb
  have z1 := hb.size
  simp only [World.size_alloc] at z1
  clear hb
  go_wp2_with fail
  refine bodyPost_ret (v := .tuple #[.agg #[.string ⟨#[]⟩, .int .i64 0, .int .i64 0, .int .i64 0, .int .i64 0, .int .u64 0], .int .i64 1]) (by simp [results, Tryd.results13, go_sem, c1]) rfl ⟨rfl, ?_⟩
  have hbw : Below w.heap.size w _ := ((((Below.refl _ w).alloc (Nat.le_refl _) _).alloc (by simp) _).alloc (by simp; omega) _).trans (HB.out.mono (by simp; omega))
  repeat refine Below.setCell ?_ (by simp <;> omega) _
  exact hbw
set_option maxRecDepth 100000 in
set_option maxHeartbeats 1000000 in
theorem sign_bad4 (s : ByteArray) (ty life : Int) (v : Value) (ds : List Np.Datum) (z : ByteArray) (hz : z.size ≤ 140737488355328) (n a f u : Int) (w : World) (hR : RulesIn w w.heap.size) (hd : SlR RDatum 3 w w.heap.size v ds)
    (k1 : Np.validKey n a = true) (k2 : Np.validWindow f u = true) (k3 : Np.validName z.data.toList = true) (k4 : Np.isWild z.data.toList = true) :
    Calls Tryd.prog 13 #[.agg #[.string s, .int .i64 ty, .int .i64 life, v], .string z, .agg #[.int .i64 n, .int .i64 a], .int .i64 f, .int .i64 u] w
      fun e w' => e = .returned (.tuple #[.agg #[.string ⟨#[]⟩, .int .i64 0, .int .i64 0, .int .i64 0, .int .i64 0, .int .u64 0], .int .i64 1]) ∧ Below w.heap.size w w' := by
  have HR := Lib.hid hR
  have HD := Lib.hid hd
  have K1 := Lib.hid k1
  have K2 := Lib.hid k2
  have K3 := Lib.hid k3
  have K4 := Lib.hid k4
  obtain ⟨A, c, rfl, hc1, hl1, he1⟩ := hd
  clear hR he1 k1 k2 k3 k4
  go_enter Tryd.func13, Tryd.ntmps13
  go_wp2_with fail
  refine (validKey_any n a _).mono ?_
  rintro e w1 ⟨rfl, hb⟩
  rw [K1.out]
  obtain ⟨c1, f1⟩ := bcell hb
  have HB := Lib.hid hb
  have z1 := hb.size
  simp only [World.size_alloc] at z1
  clear hb
  go_wp2_with fail
  refine (validWindow_any f u _).mono ?_
  rintro e w' ⟨rfl, rfl⟩
  rw [K2.out]
  go_wp2_with fail
  refine (nameValid_any z hz _).mono ?_
  rintro e w2 ⟨rfl, hb⟩
  rw [K3.out]
  replace hb := HB.out.trans (hb.mono (by simp; omega))
  clear HB c1 f1 z1
  obtain ⟨c1, f1⟩ := bcell hb
  have HB := Lib.hid hb
  have z1 := hb.size
  simp only [World.size_alloc] at z1
  clear hb
  go_wp2_with fail
  refine (hasPrefixStar z hz _).mono ?_
  rintro e w' ⟨rfl, rfl⟩
  rw [K4.out]
  go_wp2_with fail
  refine bodyPost_ret (v := .tuple #[.agg #[.string ⟨#[]⟩, .int .i64 0, .int .i64 0, .int .i64 0, .int .i64 0, .int .u64 0], .int .i64 1]) (by simp [results, Tryd.results13, go_sem, c1]) rfl ⟨rfl, ?_⟩
  have hbw : Below w.heap.size w _ := ((((Below.refl _ w).alloc (Nat.le_refl _) _).alloc (by simp) _).alloc (by simp; omega) _).trans (HB.out.mono (by simp; omega))
  repeat refine Below.setCell ?_ (by simp <;> omega) _
  exact hbw
set_option maxRecDepth 100000 in
set_option maxHeartbeats 1000000 in
theorem sign_bad5 (s : ByteArray) (hs : s.size ≤ 140737488355328) (ty life : Int) (v : Value) (ds : List Np.Datum) (z : ByteArray) (hz : z.size ≤ 140737488355328) (n a f u : Int) (w : World) (hR : RulesIn w w.heap.size) (hd : SlR RDatum 3 w w.heap.size v ds)
    (k1 : Np.validKey n a = true) (k2 : Np.validWindow f u = true) (k3 : Np.validName z.data.toList = true) (k4 : Np.isWild z.data.toList = false) (k5 : Np.validSet ⟨s.data.toList, ty, life, ds⟩ = false) :
    Calls Tryd.prog 13 #[.agg #[.string s, .int .i64 ty, .int .i64 life, v], .string z, .agg #[.int .i64 n, .int .i64 a], .int .i64 f, .int .i64 u] w
      fun e w' => e = .returned (.tuple #[.agg #[.string ⟨#[]⟩, .int .i64 0, .int .i64 0, .int .i64 0, .int .i64 0, .int .u64 0], .int .i64 1]) ∧ Below w.heap.size w w' := by
  have HR := Lib.hid hR
  have HD := Lib.hid hd
  have K1 := Lib.hid k1
  have K2 := Lib.hid k2
  have K3 := Lib.hid k3
  have K4 := Lib.hid k4
  have K5 := Lib.hid k5
  obtain ⟨A, c, rfl, hc1, hl1, he1⟩ := hd
  clear hR he1 k1 k2 k3 k4 k5
  go_enter Tryd.func13, Tryd.ntmps13
  go_wp2_with fail
  refine (validKey_any n a _).mono ?_
  rintro e w1 ⟨rfl, hb⟩
  rw [K1.out]
  obtain ⟨c1, f1⟩ := bcell hb
  have HB := Lib.hid hb
  have z1 := hb.size
  simp only [World.size_alloc] at z1
  clear hb
  go_wp2_with fail
  refine (validWindow_any f u _).mono ?_
  rintro e w' ⟨rfl, rfl⟩
  rw [K2.out]
  go_wp2_with fail
  refine (nameValid_any z hz _).mono ?_
  rintro e w2 ⟨rfl, hb⟩
  rw [K3.out]
  replace hb := HB.out.trans (hb.mono (by simp; omega))
  clear HB c1 f1 z1
  obtain ⟨c1, f1⟩ := bcell hb
  have HB := Lib.hid hb
  have z1 := hb.size
  simp only [World.size_alloc] at z1
  clear hb
  go_wp2_with fail
  refine (hasPrefixStar z hz _).mono ?_
  rintro e w' ⟨rfl, rfl⟩
  rw [K4.out]
  go_wp2_with fail
  refine (recBytes_bad s hs ty life _ ds _ ?_ ?_ K5.out).mono ?_
  · exact (HR.out.keep (((((Below.refl _ w).alloc (Nat.le_refl _) _).alloc (by simp) _).alloc (by simp; omega) _).trans (HB.out.mono (by simp; omega)))).more (by omega)
  · exact (HD.out.keep rdatum_kept (((((Below.refl _ w).alloc (Nat.le_refl _) _).alloc (by simp) _).alloc (by simp; omega) _).trans (HB.out.mono (by simp; omega)))).more rdatum_more (by omega)
  rintro e w3 ⟨hb, k, hk, rfl⟩
  have hk' : (k != 0) = true := by simp [hk]
  clear hk
  replace hb := HB.out.trans (hb.mono (by simp; omega))
  clear HB c1 f1 z1
  obtain ⟨c1, f1⟩ := bcell hb
  have HB := Lib.hid hb
  have z1 := hb.size
  simp only [World.size_alloc] at z1
  clear hb
  go_wp2_with fail
  refine bodyPost_ret (v := .tuple #[.agg #[.string ⟨#[]⟩, .int .i64 0, .int .i64 0, .int .i64 0, .int .i64 0, .int .u64 0], .int .i64 1]) (by simp [results, Tryd.results13, go_sem, c1]) rfl ⟨rfl, ?_⟩
  have hbw : Below w.heap.size w _ := ((((Below.refl _ w).alloc (Nat.le_refl _) _).alloc (by simp) _).alloc (by simp; omega) _).trans (HB.out.mono (by simp; omega))
  repeat refine Below.setCell ?_ (by simp <;> omega) _
  exact hbw
set_option maxRecDepth 100000 in
set_option maxHeartbeats 1000000 in
theorem sign_bad6 (s : ByteArray) (hs : s.size ≤ 140737488355328) (ty life : Int) (v : Value) (ds : List Np.Datum) (z : ByteArray) (hz : z.size ≤ 140737488355328) (n a f u : Int) (w : World) (hR : RulesIn w w.heap.size) (hd : SlR RDatum 3 w w.heap.size v ds)
    (k1 : Np.validKey n a = true) (k2 : Np.validWindow f u = true) (k3 : Np.validName z.data.toList = true) (k4 : Np.isWild z.data.toList = false) (k5 : Np.validSet ⟨s.data.toList, ty, life, ds⟩ = true) (k6 : Np.under s z = false) :
    Calls Tryd.prog 13 #[.agg #[.string s, .int .i64 ty, .int .i64 life, v], .string z, .agg #[.int .i64 n, .int .i64 a], .int .i64 f, .int .i64 u] w
      fun e w' => e = .returned (.tuple #[.agg #[.string ⟨#[]⟩, .int .i64 0, .int .i64 0, .int .i64 0, .int .i64 0, .int .u64 0], .int .i64 1]) ∧ Below w.heap.size w w' := by
  have HR := Lib.hid hR
  have HD := Lib.hid hd
  have K1 := Lib.hid k1
  have K2 := Lib.hid k2
  have K3 := Lib.hid k3
  have K4 := Lib.hid k4
  have K5 := Lib.hid k5
  have K6 := Lib.hid k6
  obtain ⟨A, c, rfl, hc1, hl1, he1⟩ := hd
  clear hR he1 k1 k2 k3 k4 k5 k6
  go_enter Tryd.func13, Tryd.ntmps13
  go_wp2_with fail
  refine (validKey_any n a _).mono ?_
  rintro e w1 ⟨rfl, hb⟩
  rw [K1.out]
  obtain ⟨c1, f1⟩ := bcell hb
  have HB := Lib.hid hb
  have z1 := hb.size
  simp only [World.size_alloc] at z1
  clear hb
  go_wp2_with fail
  refine (validWindow_any f u _).mono ?_
  rintro e w' ⟨rfl, rfl⟩
  rw [K2.out]
  go_wp2_with fail
  refine (nameValid_any z hz _).mono ?_
  rintro e w2 ⟨rfl, hb⟩
  rw [K3.out]
  replace hb := HB.out.trans (hb.mono (by simp; omega))
  clear HB c1 f1 z1
  obtain ⟨c1, f1⟩ := bcell hb
  have HB := Lib.hid hb
  have z1 := hb.size
  simp only [World.size_alloc] at z1
  clear hb
  go_wp2_with fail
  refine (hasPrefixStar z hz _).mono ?_
  rintro e w' ⟨rfl, rfl⟩
  rw [K4.out]
  go_wp2_with fail
  refine (recBytes_any s hs ty life _ ds _ ?_ ?_ K5.out).mono ?_
  · exact (HR.out.keep (((((Below.refl _ w).alloc (Nat.le_refl _) _).alloc (by simp) _).alloc (by simp; omega) _).trans (HB.out.mono (by simp; omega)))).more (by omega)
  · exact (HD.out.keep rdatum_kept (((((Below.refl _ w).alloc (Nat.le_refl _) _).alloc (by simp) _).alloc (by simp; omega) _).trans (HB.out.mono (by simp; omega)))).more rdatum_more (by omega)
  rintro e w3 ⟨hb, v', rfl, hown⟩
  replace hb := HB.out.trans (hb.mono (by simp; omega))
  clear HB c1 f1 z1
  obtain ⟨c1, f1⟩ := bcell hb
  have HB := Lib.hid hb
  have z1 := hb.size
  simp only [World.size_alloc] at z1
  have HO := Lib.hid hown
  clear hb hown
  go_wp2_with fail
  refine (under_any s z hs hz _ ?_ K3.out).mono ?_
  · have := K5.out; simp only [Np.validSet, Bool.and_eq_true] at this; exact this.1.1.1.1.1.1
  rintro e w4 ⟨rfl, hb⟩
  rw [K6.out]
  have HB4 := Lib.hid hb
  replace hb := HB.out.trans (hb.mono (by simp; omega))
  clear HB c1 f1 z1
  obtain ⟨c1, f1⟩ := bcell hb
  have HB := Lib.hid hb
  have z1 := hb.size
  simp only [World.size_alloc] at z1
  clear hb
  go_wp2_with fail
  refine bodyPost_ret (v := .tuple #[.agg #[.string ⟨#[]⟩, .int .i64 0, .int .i64 0, .int .i64 0, .int .i64 0, .int .u64 0], .int .i64 1]) (by simp [results, Tryd.results13, go_sem, c1]) rfl ⟨rfl, ?_⟩
  have hbw : Below w.heap.size w _ := ((((Below.refl _ w).alloc (Nat.le_refl _) _).alloc (by simp) _).alloc (by simp; omega) _).trans (HB.out.mono (by simp; omega))
  repeat refine Below.setCell ?_ (by simp <;> omega) _
  exact hbw
set_option maxRecDepth 100000 in
set_option maxHeartbeats 1000000 in
theorem sign_ok (s : ByteArray) (hs : s.size ≤ 140737488355328) (ty life : Int) (v : Value) (ds : List Np.Datum) (z : ByteArray) (hz : z.size ≤ 140737488355328) (n a f u : Int) (w : World) (hR : RulesIn w w.heap.size) (hd : SlR RDatum 3 w w.heap.size v ds)
    (hok : Np.signOk ⟨s.data.toList, ty, life, ds⟩ s z n a f u = true) :
    Calls Tryd.prog 13 #[.agg #[.string s, .int .i64 ty, .int .i64 life, v], .string z, .agg #[.int .i64 n, .int .i64 a], .int .i64 f, .int .i64 u] w
      fun e w' => e = .returned (.tuple #[.agg #[.string z, .int .i64 n, .int .i64 a, .int .i64 f, .int .i64 u, .int .u64 (Np.sigSum ⟨s.data.toList, ty, life, ds⟩ z n a f u)], .int .i64 0]) ∧ Below w.heap.size w w' := by
  have HR := Lib.hid hR
  have HD := Lib.hid hd
  simp only [Np.signOk, Bool.and_eq_true, Bool.not_eq_true'] at hok
  obtain ⟨k1, k2, k3, k4, k5, k6⟩ := hok
  have OK := Lib.hid (Np.validSet_ok k5)
  have hzz := Np.validName_len k3
  have HZ := Lib.hid hzz
  have K1 := Lib.hid k1
  have K2 := Lib.hid k2
  have K3 := Lib.hid k3
  have K4 := Lib.hid k4
  have K5 := Lib.hid k5
  have K6 := Lib.hid k6
  obtain ⟨A, c, rfl, hc1, hl1, he1⟩ := hd
  clear hR he1 k1 k2 k3 k4 k5 k6 hzz
  go_enter Tryd.func13, Tryd.ntmps13
  go_wp2_with fail
  refine (validKey_any n a _).mono ?_
  rintro e w1 ⟨rfl, hb⟩
  rw [K1.out]
  obtain ⟨c1, f1⟩ := bcell hb
  have HB := Lib.hid hb
  have z1 := hb.size
  simp only [World.size_alloc] at z1
  clear hb
  go_wp2_with fail
  refine (validWindow_any f u _).mono ?_
  rintro e w' ⟨rfl, rfl⟩
  rw [K2.out]
  go_wp2_with fail
  refine (nameValid_any z hz _).mono ?_
  rintro e w2 ⟨rfl, hb⟩
  rw [K3.out]
  replace hb := HB.out.trans (hb.mono (by simp; omega))
  clear HB c1 f1 z1
  obtain ⟨c1, f1⟩ := bcell hb
  have HB := Lib.hid hb
  have z1 := hb.size
  simp only [World.size_alloc] at z1
  clear hb
  go_wp2_with fail
  refine (hasPrefixStar z hz _).mono ?_
  rintro e w' ⟨rfl, rfl⟩
  rw [K4.out]
  go_wp2_with fail
  refine (recBytes_any s hs ty life _ ds _ ?_ ?_ K5.out).mono ?_
  · exact (HR.out.keep (((((Below.refl _ w).alloc (Nat.le_refl _) _).alloc (by simp) _).alloc (by simp; omega) _).trans (HB.out.mono (by simp; omega)))).more (by omega)
  · exact (HD.out.keep rdatum_kept (((((Below.refl _ w).alloc (Nat.le_refl _) _).alloc (by simp) _).alloc (by simp; omega) _).trans (HB.out.mono (by simp; omega)))).more rdatum_more (by omega)
  rintro e w3 ⟨hb, v', rfl, hown⟩
  replace hb := HB.out.trans (hb.mono (by simp; omega))
  clear HB c1 f1 z1
  obtain ⟨c1, f1⟩ := bcell hb
  have HB := Lib.hid hb
  have z1 := hb.size
  simp only [World.size_alloc] at z1
  have HO := Lib.hid hown
  clear hb hown
  go_wp2_with fail
  refine (under_any s z hs hz _ ?_ K3.out).mono ?_
  · have := K5.out; simp only [Np.validSet, Bool.and_eq_true] at this; exact this.1.1.1.1.1.1
  rintro e w4 ⟨rfl, hb⟩
  rw [K6.out]
  have HB4 := Lib.hid hb
  replace hb := HB.out.trans (hb.mono (by simp; omega))
  clear HB c1 f1 z1
  obtain ⟨c1, f1⟩ := bcell hb
  have HB := Lib.hid hb
  have z1 := hb.size
  simp only [World.size_alloc] at z1
  clear hb
  go_wp2_with fail
  have HY : Hid (BytesAt w4 w4.heap.size v' ((Np.recBytes ⟨s.data.toList, ty, life, ds⟩).map fun c => (c.toNat : Int))) := Lib.hid ((HO.out.bytes (by
    have h1 := Np.flat_len OK.out.data
    have h2 := OK.out.len
    have h3 := OK.out.name
    simp only [Np.recBytes, Np.headBytes, List.length_append, Np.text, Np.num_len, List.length_cons, List.length_nil] at *
    omega)).grow HB4.out (HB4.out.size))
  have hz255 : z.size ≤ 255 := by have := HZ.out; simp at this; omega
  have k0 : w4.cell? ⟨w.heap.size + 1, 0, none⟩ = some (.int .i64 n) := by rw [c1 _ _ (by simp)]; go_simp
  have k1 : w4.cell? ⟨w.heap.size + 1, 1, none⟩ = some (.int .i64 a) := by rw [c1 _ _ (by simp)]; go_simp
  clear c1 f1
  go_region_held3 (fun w' => w'.cell? ⟨w.heap.size + 1, 0, none⟩ = some (.int .i64 n) ∧ w'.cell? ⟨w.heap.size + 1, 1, none⟩ = some (.int .i64 a))
    (go_keep)
    (first
      | (go_at_call 40; refine (sum_any _ _ z hz255 n a f u _ (HY.out.grow (Below.drew (Below.refl _ _)) (Nat.le_refl _))).mono ?_; rintro e w5 ⟨rfl, hb5⟩; obtain ⟨c5, f5⟩ := bcell (HB.out.drew.trans (hb5.mono (by simp; omega))); have HB5 := Lib.hid hb5; clear hb5))
  go_wp2_with fail
  refine bodyPost_ret (v := .tuple #[.agg #[.string z, .int .i64 n, .int .i64 a, .int .i64 f, .int .i64 u, .int .u64 (Np.sigSum ⟨s.data.toList, ty, life, ds⟩ z n a f u)], .int .i64 0]) (by simp [results, Tryd.results13, go_sem, c5]; rfl) rfl ⟨rfl, ?_⟩
  have hbw : Below w.heap.size w w5 := ((((Below.refl _ w).alloc (Nat.le_refl _) _).alloc (by simp) _).alloc (by simp; omega) _).trans ((HB.out.drew.trans (HB5.out.mono (by simp; omega))).mono (by simp; omega))
  repeat refine Below.setCell ?_ (by simp <;> omega) _
  exact hbw
theorem sign_bad (s : ByteArray) (hs : s.size ≤ 140737488355328) (ty life : Int) (v : Value) (ds : List Np.Datum) (z : ByteArray) (hz : z.size ≤ 140737488355328) (n a f u : Int) (w : World) (hR : RulesIn w w.heap.size) (hd : SlR RDatum 3 w w.heap.size v ds)
    (hok : Np.signOk ⟨s.data.toList, ty, life, ds⟩ s z n a f u = false) :
    Calls Tryd.prog 13 #[.agg #[.string s, .int .i64 ty, .int .i64 life, v], .string z, .agg #[.int .i64 n, .int .i64 a], .int .i64 f, .int .i64 u] w
      fun e w' => e = .returned (.tuple #[.agg #[.string ⟨#[]⟩, .int .i64 0, .int .i64 0, .int .i64 0, .int .i64 0, .int .u64 0], .int .i64 1]) ∧ Below w.heap.size w w' := by
  by_cases k1 : Np.validKey n a = true
  · by_cases k2 : Np.validWindow f u = true
    · by_cases k3 : Np.validName z.data.toList = true
      · by_cases k4 : Np.isWild z.data.toList = false
        · by_cases k5 : Np.validSet ⟨s.data.toList, ty, life, ds⟩ = true
          · exact sign_bad6 s hs ty life v ds z hz n a f u w hR hd k1 k2 k3 k4 k5 (by simpa [Np.signOk, k1, k2, k3, k4, k5] using hok)
          · exact sign_bad5 s hs ty life v ds z hz n a f u w hR hd k1 k2 k3 k4 (by simpa using k5)
        · exact sign_bad4 s ty life v ds z hz n a f u w hR hd k1 k2 k3 (by simpa using k4)
      · exact sign_bad3 s ty life v ds z hz n a f u w hR hd k1 k2 (by simpa using k3)
    · exact sign_bad2 s ty life v ds z n a f u w hR hd k1 (by simpa using k2)
  · exact sign_bad1 s ty life v ds z n a f u w hR hd (by simpa using k1)
end Go.Proofs.YtafpbfmhhpcalaaDoor
