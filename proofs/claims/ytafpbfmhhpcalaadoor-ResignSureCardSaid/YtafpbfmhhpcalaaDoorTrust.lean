/- trust.Signed. -/
import Derived.Test.YtafpbfmhhpcalaaDoorFirst
namespace Go.Proofs.YtafpbfmhhpcalaaDoor
open Go.RowKit Go.Shelf
def Np.checkG (s : Np.DSet) (g : Np.Sig) (k : Np.Key) : Bool := Np.check s ⟨s.name.toArray⟩ ⟨g.zone.toArray⟩ g.key g.alg g.frm g.til g.sum k.n k.alg
def Np.sigSure (s : Np.DSet) (zone : List UInt8) (keys : List Np.Key) (t d : Int) (g : Np.Sig) : Bool := decide (g.zone = zone) && (decide (g.frm ≤ t - d) && (decide (t + d ≤ g.til) && keys.any (Np.checkG s g)))
def Np.signedBy (s : Np.Signed) (zone : List UInt8) (keys : List Np.Key) (t d : Int) : Bool := Np.validTime t d && s.sigs.any (Np.sigSure s.set zone keys t d)
theorem bytes_mk (s : ByteArray) : (⟨s.data.toList.toArray⟩ : ByteArray) = s := by cases s; simp
theorem bytes_of {s : ByteArray} {l : List UInt8} (h : s.data.toList = l) : (⟨l.toArray⟩ : ByteArray) = s := by subst h; exact bytes_mk s
set_option maxRecDepth 100000 in
set_option maxHeartbeats 1000000 in
theorem signed11_any (bs bg : Nat) (s : ByteArray) (hs : s.size ≤ 140737488355328) (ty life : Int) (v : Value) (ds : List Np.Datum) (g : Np.Sig) (z : ByteArray) (hzz : z.data.toList = g.zone) (hz : z.size ≤ 140737488355328) (k : Np.Key) (w : World) (hR : RulesIn w w.heap.size) (hd : SlR RDatum 3 w w.heap.size v ds)
    (hcs : CellsAt w bs 0 [.string s, .int .i64 ty, .int .i64 life, v]) (hcg : CellsAt w bg 0 [.string z, .int .i64 g.key, .int .i64 g.alg, .int .i64 g.frm, .int .i64 g.til, .int .u64 g.sum]) :
    Calls Tryd.prog 48 #[.agg #[.int .i64 k.n, .int .i64 k.alg], .pointer (some ⟨bs, 0, none⟩), .pointer (some ⟨bg, 0, none⟩)] w
      fun e w' => e = .returned (.bool (Np.checkG ⟨s.data.toList, ty, life, ds⟩ g k)) ∧ Below w.heap.size w w' := by
  have HR := Lib.hid hR
  have HD := Lib.hid hd
  have HZ := Lib.hid hzz
  have s0 : w.cell? ⟨bs, 0, none⟩ = some (.string s) := by have := hcs 0 _ rfl; simpa using this
  have s1 : w.cell? ⟨bs, 1, none⟩ = some (.int .i64 ty) := by have := hcs 1 _ rfl; simpa using this
  have s2 : w.cell? ⟨bs, 2, none⟩ = some (.int .i64 life) := by have := hcs 2 _ rfl; simpa using this
  have s3 : w.cell? ⟨bs, 3, none⟩ = some v := by have := hcs 3 _ rfl; simpa using this
  have g0 : w.cell? ⟨bg, 0, none⟩ = some (.string z) := by have := hcg 0 _ rfl; simpa using this
  have g1 : w.cell? ⟨bg, 1, none⟩ = some (.int .i64 g.key) := by have := hcg 1 _ rfl; simpa using this
  have g2 : w.cell? ⟨bg, 2, none⟩ = some (.int .i64 g.alg) := by have := hcg 2 _ rfl; simpa using this
  have g3 : w.cell? ⟨bg, 3, none⟩ = some (.int .i64 g.frm) := by have := hcg 3 _ rfl; simpa using this
  have g4 : w.cell? ⟨bg, 4, none⟩ = some (.int .i64 g.til) := by have := hcg 4 _ rfl; simpa using this
  have g5 : w.cell? ⟨bg, 5, none⟩ = some (.int .u64 g.sum) := by have := hcg 5 _ rfl; simpa using this
  have lb := World.block_lt_of_cell? w _ s0
  have lg := World.block_lt_of_cell? w _ g0
  simp only at lb lg
  obtain ⟨A, c, rfl, hc1, hl1, he1⟩ := hd
  clear hR he1 hcs hcg hzz
  go_enter Tryd.func48, Tryd.ntmps48
  go_wp2_with fail
  refine (check_any s hs ty life _ ds z hz g.key g.alg g.frm g.til g.sum k.n k.alg _ ?_ ?_).mono ?_
  · exact (HR.out.keep (below_new w _)).more (by simp)
  · exact (HD.out.keep rdatum_kept (below_new w _)).more rdatum_more (by simp)
  rintro e w1 ⟨rfl, hb⟩
  have HB := Lib.hid hb
  clear hb
  go_wp2_with fail
  go_ret
  exact ⟨ret_bool (by unfold Np.checkG; rw [bytes_mk, bytes_of HZ.out]), (below_new w _).trans (HB.out.mono (by simp))⟩
set_option maxRecDepth 100000 in
set_option maxHeartbeats 1000000 in
theorem signed1_any (bz bt bd bk bs : Nat) (zone : ByteArray) (t d : Int) (ht : 0 ≤ t) (ht2 : t ≤ 10000000) (hd0 : 0 ≤ d) (hd2 : d ≤ 1000) (kv : Value) (keys : List Np.Key) (s : ByteArray) (hs : s.size ≤ 140737488355328) (ty life : Int) (v : Value) (ds : List Np.Datum) (g : Np.Sig) (z : ByteArray) (hzz : z.data.toList = g.zone) (hz : z.size ≤ 140737488355328) (w : World) (hR : RulesIn w w.heap.size) (hd : SlR RDatum 3 w w.heap.size v ds) (hk : SlR RKey 2 w w.heap.size kv keys)
    (hcs : CellsAt w bs 0 [.string s, .int .i64 ty, .int .i64 life, v]) (cz : w.cell? ⟨bz, 0, none⟩ = some (.string zone)) (ct : w.cell? ⟨bt, 0, none⟩ = some (.int .i64 t)) (cd : w.cell? ⟨bd, 0, none⟩ = some (.int .i64 d)) (ck : w.cell? ⟨bk, 0, none⟩ = some kv) :
    Calls Tryd.prog 46 #[.agg #[.string z, .int .i64 g.key, .int .i64 g.alg, .int .i64 g.frm, .int .i64 g.til, .int .u64 g.sum], .pointer (some ⟨bz, 0, none⟩), .pointer (some ⟨bt, 0, none⟩), .pointer (some ⟨bd, 0, none⟩), .pointer (some ⟨bk, 0, none⟩), .pointer (some ⟨bs, 0, none⟩)] w
      fun e w' => e = .returned (.bool (Np.sigSure ⟨s.data.toList, ty, life, ds⟩ zone.data.toList keys t d g)) ∧ Below w.heap.size w w' := by
  have HR := Lib.hid hR
  have HD := Lib.hid hd
  have HK := Lib.hid hk
  have HZ := Lib.hid hzz
  have HS := Lib.hid hcs
  have lz := World.block_lt_of_cell? w _ cz
  have lt := World.block_lt_of_cell? w _ ct
  have ld := World.block_lt_of_cell? w _ cd
  have lk := World.block_lt_of_cell? w _ ck
  have ls := World.block_lt_of_cell? w _ (hcs 0 _ rfl)
  simp only at lz lt ld lk ls
  obtain ⟨A, c, rfl, hc1, hl1, he1⟩ := hd
  obtain ⟨A2, c2, rfl, hc2, hl2, he2⟩ := hk
  clear hR he1 he2 hcs hzz
  go_enter Tryd.func46, Tryd.ntmps46
  go_wp2_with fail
  · go_ret
    rename_i h1
    refine ⟨ret_bool ?_, below_new w _⟩
    rw [ByteArray.toList_eq, ByteArray.toList_eq, HZ.out] at h1
    simp [Np.sigSure, h1]
  · go_ret
    rename_i h1 h2
    refine ⟨ret_bool ?_, below_new w _⟩
    have h3 : ¬ g.frm ≤ t - d := by omega
    simp [Np.sigSure, h3]
  · go_ret
    rename_i h1 h2 h3
    refine ⟨ret_bool ?_, below_new w _⟩
    have h3 : ¬ t + d ≤ g.til := by omega
    simp [Np.sigSure, h3]
  · have h1 : z.toList = zone.toList := by assumption
    have h2 : t + d ≤ g.til := by assumption
    have h3 : g.frm ≤ t - d := by assumption
    have hfin : Np.sigSure ⟨s.data.toList, ty, life, ds⟩ zone.data.toList keys t d g = keys.any (Np.checkG ⟨s.data.toList, ty, life, ds⟩ g) := by
      rw [ByteArray.toList_eq, ByteArray.toList_eq, HZ.out] at h1
      simp [Np.sigSure, h1, h2, h3]
    have HF := Lib.hid hfin
    clear hfin
    refine (firstKey 48 (enters_of Tryd.func48 (by kernel_rfl) rfl) _ (Np.checkG ⟨s.data.toList, ty, life, ds⟩ g) _ keys _ _ (Nat.le_refl _) ?_ ?_).mono ?_
    · exact (HK.out.keep rkey_kept (below_new w _)).more rkey_more (by simp)
    · intro W x e hx hW hBW hRx
      obtain rfl := hRx
      have hwW : Below w.heap.size w W := (below_new w _).trans (hW.mono (by simp))
      refine signed11_any bs w.heap.size s hs ty life (.slice A ds.length c) ds g z HZ.out hz x W ?_ ?_ ?_ ?_
      · exact (HR.out.keep hwW).more hwW.size
      · exact (HD.out.keep rdatum_kept hwW).more rdatum_more hwW.size
      · exact HS.out.keep hwW ls
      · intro j u hj
        rw [hW.cell (by simp)]
        match j, hj with
        | 0, hj => simp at hj; subst hj; go_simp
        | 1, hj => simp at hj; subst hj; go_simp
        | 2, hj => simp at hj; subst hj; go_simp
        | 3, hj => simp at hj; subst hj; go_simp
        | 4, hj => simp at hj; subst hj; go_simp
        | 5, hj => simp at hj; subst hj; go_simp
        | j + 6, hj => simp at hj
    · rintro e w1 ⟨a, b, rfl, hb, _, _⟩
      have HB := Lib.hid hb
      clear hb
      go_wp2_with fail
      go_ret
      exact ⟨ret_bool HF.out.symm, ((below_new w _).trans (HB.out.mono (by simp))).alloc (by have := HB.out.size; simp at this; omega) _⟩
set_option maxRecDepth 100000 in
set_option maxHeartbeats 1000000 in
theorem signed_any (zone : ByteArray) (t d : Int) (kv : Value) (keys : List Np.Key) (s : ByteArray) (hs : s.size ≤ 140737488355328) (ty life : Int) (v u : Value) (ds : List Np.Datum) (gs : List Np.Sig) (w : World) (hR : RulesIn w w.heap.size) (hd : SlR RDatum 3 w w.heap.size v ds) (hg : SlR RSig 6 w w.heap.size u gs) (hk : SlR RKey 2 w w.heap.size kv keys) :
    Calls Tryd.prog 17 #[.agg #[.string s, .int .i64 ty, .int .i64 life, v, u], .string zone, kv, .int .i64 t, .int .i64 d] w
      fun e w' => e = .returned (.bool (Np.signedBy ⟨⟨s.data.toList, ty, life, ds⟩, gs⟩ zone.data.toList keys t d)) ∧ Below w.heap.size w w' := by
  have HR := Lib.hid hR
  have HD := Lib.hid hd
  have HG := Lib.hid hg
  have HK := Lib.hid hk
  obtain ⟨A, c, rfl, hc1, hl1, he1⟩ := hd
  obtain ⟨A2, c2, rfl, hc2, hl2, he2⟩ := hk
  obtain ⟨A3, c3, rfl, hc3, hl3, he3⟩ := hg
  clear hR he1 he2 he3
  have hb5 : ∀ o1 o2 o3 o4 o5 : Obj, Below w.heap.size w (((((w.alloc o1).alloc o2).alloc o3).alloc o4).alloc o5) := fun o1 o2 o3 o4 o5 => (((((Below.refl _ w).alloc (Nat.le_refl _) _).alloc (by simp) _).alloc (by simp; omega) _).alloc (by simp; omega) _).alloc (by simp; omega) _
  have HB5 := Lib.hid hb5
  clear hb5
  by_cases hv : Np.validTime t d = true
  · have HV := Lib.hid hv
    have hvv : 0 ≤ t ∧ t ≤ 10000000 ∧ 0 ≤ d ∧ d ≤ 1000 := by simp [Np.validTime] at hv; omega
    clear hv
    go_enter Tryd.func17, Tryd.ntmps17
    go_wp2_with fail
    refine (validTime_any t d _).mono ?_
    rintro e w' ⟨rfl, rfl⟩
    rw [HV.out]
    go_wp2_with fail
    refine (firstSig 46 (enters_of Tryd.func46 (by kernel_rfl) rfl) _ (Np.sigSure ⟨s.data.toList, ty, life, ds⟩ zone.data.toList keys t d) _ gs _ _ (Nat.le_refl _) ?_ ?_).mono ?_
    · exact (HG.out.keep rsig_kept (HB5.out _ _ _ _ _)).more rsig_more (by simp; omega)
    · intro W x e hx hW hBW hRx
      obtain ⟨z, hz1, hz2, rfl⟩ := hRx
      have hwW : Below w.heap.size w W := (HB5.out _ _ _ _ _).trans (hW.mono (by simp; omega))
      refine signed1_any (w.heap.size + 1) (w.heap.size + 1 + 1 + 1) (w.heap.size + 1 + 1 + 1 + 1) (w.heap.size + 1 + 1) w.heap.size zone t d hvv.1 hvv.2.1 hvv.2.2.1 hvv.2.2.2 (.slice A2 keys.length c2) keys s hs ty life (.slice A ds.length c) ds x z hz1 hz2 W ?_ ?_ ?_ ?_ ?_ ?_ ?_ ?_
      · exact (HR.out.keep hwW).more hwW.size
      · exact (HD.out.keep rdatum_kept hwW).more rdatum_more hwW.size
      · exact (HK.out.keep rkey_kept hwW).more rkey_more hwW.size
      · intro j u hj
        rw [hW.cell (by simp <;> omega)]
        match j, hj with
        | 0, hj => simp at hj; subst hj; go_simp
        | 1, hj => simp at hj; subst hj; go_simp
        | 2, hj => simp at hj; subst hj; go_simp
        | 3, hj => simp at hj; subst hj; go_simp
        | j + 4, hj => simp at hj
      · rw [hW.cell (by simp <;> omega)]; go_simp
      · rw [hW.cell (by simp <;> omega)]; go_simp
      · rw [hW.cell (by simp <;> omega)]; go_simp
      · rw [hW.cell (by simp <;> omega)]; go_simp
    · rintro e w1 ⟨s1, a1, b1, c1, d1, q1, rfl, hb, _, _⟩
      have HB := Lib.hid hb
      clear hb
      go_wp2_with fail
      go_ret
      exact ⟨ret_bool (by simp [Np.signedBy, HV.out]), ((HB5.out _ _ _ _ _).trans (HB.out.mono (by simp; omega))).alloc (by have := HB.out.size; simp at this; omega) _⟩
  · have HV := Lib.hid (show Np.validTime t d = false by simpa using hv)
    clear hv
    go_enter Tryd.func17, Tryd.ntmps17
    go_wp2_with fail
    refine (validTime_any t d _).mono ?_
    rintro e w' ⟨rfl, rfl⟩
    rw [HV.out]
    go_wp2_with fail
    go_ret
    exact ⟨ret_bool (by simp [Np.signedBy, HV.out]), HB5.out _ _ _ _ _⟩
end Go.Proofs.YtafpbfmhhpcalaaDoor
