/- ResignSure: the walk. -/
import Derived.Test.YtafpbfmhhpcalaaDoorSurePlain
import Derived.Test.YtafpbfmhhpcalaaDoorHead25
namespace Go.Proofs.YtafpbfmhhpcalaaDoor
open Go.RowKit
set_option maxRecDepth 100000 in
set_option maxHeartbeats 4000000 in
theorem sure_walk (s : ByteArray) (hs : s.size ≤ 140737488355328) (ty life : Int) (v : Value) (ds : List Np.Datum) (z : ByteArray) (hz : z.size ≤ 140737488355328) (n a f u t d m : Int) (hm : 0 ≤ m) (hm2 : m ≤ 65535) (w : World) (hR : RulesIn w w.heap.size) (hd : SlR RDatum 3 w w.heap.size v ds) :
    Calls Tryd.prog 4 #[.agg #[.string s, .int .i64 ty, .int .i64 life, v], .string z, .agg #[.int .i64 n, .int .i64 a], .int .i64 f, .int .i64 u, .int .i64 t, .int .i64 d, .int .u16 m] w fun e w' => e = .returned (.bool true) ∧ Below w.heap.size w w' := by
  have HR := Lib.hid hR
  have HD := Lib.hid hd
  obtain ⟨A, c, rfl, hc1, hl1, he1⟩ := hd
  clear hR he1
  have hb2 : ∀ o1 o2 : Obj, Below w.heap.size w ((w.alloc o1).alloc o2) := fun o1 o2 => ((Below.refl _ w).alloc (Nat.le_refl _) _).alloc (by simp) _
  have HB2 := Lib.hid hb2
  clear hb2
  go_enter Tryd.func4, Tryd.ntmps4
  go_wp2_with fail
  refine (head25_any _ ((HR.out.keep (HB2.out _ _)).more (by simp; omega))).mono ?_
  rintro e w0 ⟨rfl, hb0⟩
  obtain ⟨c0, f0⟩ := bcell hb0
  have hz0 := hb0.size
  simp only [World.size_alloc] at hz0
  have HB0 := Lib.hid hb0
  clear hb0
  by_cases hin : ds.length ≤ 20 ∧ 0 ≤ t ∧ t < 10000000 ∧ 0 ≤ d ∧ d ≤ 1000
  · obtain ⟨i1, i2, i3, i4, i5⟩ := hin
    go_wp2_with fail
    have hbw : Below w.heap.size w w0 := (HB2.out _ _).trans (HB0.out.mono (by simp; omega))
    have HW0 := Lib.hid hbw
    clear hbw
    by_cases hok : Np.signOk ⟨s.data.toList, ty, life, ds⟩ s z n a f u = true
    · have OK := Lib.hid hok
      clear hok
      refine (sign_ok s hs ty life _ ds z hz n a f u _ ((HR.out.keep HW0.out).more HW0.out.size) ((HD.out.keep rdatum_kept HW0.out).more rdatum_more HW0.out.size) OK.out).mono ?_
      rintro e w1 ⟨rfl, hb1⟩
      have hbx := HB0.out.trans (hb1.mono (by simp; omega))
      obtain ⟨c1, f1⟩ := bcell hbx
      have z1 := hbx.size
      simp only [World.size_alloc] at z1
      have hbw : Below w.heap.size w w1 := (HB2.out _ _).trans (hbx.mono (by simp; omega))
      have HW1 := Lib.hid hbw
      have HX1 := Lib.hid hbx
      clear hbw hb1 hbx c0 f0
      have l0 : w.heap.size < w1.heap.size := by omega
      have l1 : w.heap.size + 1 < w1.heap.size := by omega
      have e1 := Np.err_own OK.out i4 i5
      have E1 := Lib.hid e1
      clear e1
      go_wp2_with fail
      generalize hS : Np.sigSum ⟨s.data.toList, ty, life, ds⟩ z n a f u = sg
      have HSG := Lib.hid hS
      clear hS
      generalize hW : World.alloc (World.alloc (World.alloc w1 _) _) _ = W3
      have q0 : W3.cell? ⟨w1.heap.size + 1 + 1, 0, none⟩ = some (.string s) := by rw [← hW]; clear hW; go_simp
      have q1 : W3.cell? ⟨w1.heap.size + 1 + 1, 1, none⟩ = some (.int .i64 ty) := by rw [← hW]; clear hW; go_simp
      have q2 : W3.cell? ⟨w1.heap.size + 1 + 1, 2, none⟩ = some (.int .i64 life) := by rw [← hW]; clear hW; go_simp
      have q3 : W3.cell? ⟨w1.heap.size + 1 + 1, 3, none⟩ = some (.slice A ds.length c) := by rw [← hW]; clear hW; go_simp
      have q4 : W3.cell? ⟨w1.heap.size + 1 + 1, 4, none⟩ = some (.slice (some ⟨w1.heap.size + 1, 0, none⟩) 1 1) := by rw [← hW]; clear hW; go_simp
      have k0 : W3.cell? ⟨w.heap.size + 1, 0, none⟩ = some (.int .i64 n) := by rw [← hW]; clear hW; go_simp
      have k1 : W3.cell? ⟨w.heap.size + 1, 1, none⟩ = some (.int .i64 a) := by rw [← hW]; clear hW; go_simp
      have hz3 : W3.heap.size = w1.heap.size + 1 + 1 + 1 := by rw [← hW]; simp
      have hg : SlR RSig 6 W3 W3.heap.size (.slice (some ⟨w1.heap.size + 1, 0, none⟩) 1 1) [Np.ownSig ⟨s.data.toList, ty, life, ds⟩ z n a f u] := by
        refine slr_block (fun g => [.string z, .int .i64 g.key, .int .i64 g.alg, .int .i64 g.frm, .int .i64 g.til, .int .u64 g.sum]) (by simp) rfl (fun j u hj => ?_) (by omega) (by simp) (fun x hx => ?_)
        · simp only [List.flatMap_cons, List.flatMap_nil, List.append_nil, Np.ownSig, HSG.out] at hj
          rw [← hW]
          clear hW
          match j, hj with
          | 0, hj => simp at hj; subst hj; go_simp
          | 1, hj => simp at hj; subst hj; go_simp
          | 2, hj => simp at hj; subst hj; go_simp
          | 3, hj => simp at hj; subst hj; go_simp
          | 4, hj => simp at hj; subst hj; go_simp
          | 5, hj => simp at hj; subst hj; go_simp
          | j + 6, hj => simp at hj
        · simp only [List.mem_singleton] at hx
          subst hx
          exact ⟨z, rfl, hz, rfl⟩
      have hw3 : Below w.heap.size w W3 := by rw [← hW]; exact ((HW1.out.alloc HW1.out.size _).alloc (by simp; omega) _).alloc (by simp; omega) _
      have HG := Lib.hid hg
      have HZ3 := Lib.hid hz3
      have HW3 := Lib.hid hw3
      have lz3 : w1.heap.size + 1 + 1 < W3.heap.size := by omega
      have lz4 : w.heap.size + 1 < W3.heap.size := by omega
      clear hW hg hz3 hw3 c1 f1
      refine (sure_any s hs ty life _ _ ds [Np.ownSig ⟨s.data.toList, ty, life, ds⟩ z n a f u] d 10000000 _ ((HR.out.keep HW3.out).more HW3.out.size) ((HD.out.keep rdatum_kept HW3.out).more rdatum_more HW3.out.size) HG.out).mono ?_
      rintro e w4 ⟨v4, rfl, hx4, hb4⟩
      rw [E1.out]
      obtain ⟨c4, f4⟩ := bcell hb4
      have hz4 := hb4.size
      have HX4 := Lib.hid hx4
      have HB4 := Lib.hid hb4
      obtain ⟨A4, p4, rfl, _, _, _⟩ := hx4
      have y0 : w4.cell? ⟨w1.heap.size + 1 + 1, 0, none⟩ = some (.string s) := by rw [c4 _ _ lz3]; exact q0
      have y1 : w4.cell? ⟨w1.heap.size + 1 + 1, 1, none⟩ = some (.int .i64 ty) := by rw [c4 _ _ lz3]; exact q1
      have y2 : w4.cell? ⟨w1.heap.size + 1 + 1, 2, none⟩ = some (.int .i64 life) := by rw [c4 _ _ lz3]; exact q2
      have y3 : w4.cell? ⟨w1.heap.size + 1 + 1, 3, none⟩ = some (.slice A ds.length c) := by rw [c4 _ _ lz3]; exact q3
      have y4 : w4.cell? ⟨w1.heap.size + 1 + 1, 4, none⟩ = some (.slice (some ⟨w1.heap.size + 1, 0, none⟩) 1 1) := by rw [c4 _ _ lz3]; exact q4
      clear hb4 c4 f4
      go_wp2_with fail
      have hw1 : IntKind.i64.wrap (d + 1) = d + 1 := IntWalk.i64_in _ (by omega)
      have hd1 : ((d + 1) == 0) = false := by simp; omega
      have hd2 : ¬ (d + 1 = 0) := by omega
      have hmod : m.tmod (d + 1) = m % (d + 1) := Int.tmod_eq_emod_of_nonneg hm
      have hm3 : 0 ≤ m % (d + 1) := Int.emod_nonneg _ (by omega)
      have hm4 : m % (d + 1) ≤ d := by have := Int.emod_lt_of_pos m (show 0 < d + 1 by omega); omega
      have hmw : IntKind.i64.wrap (m % (d + 1)) = m % (d + 1) := IntWalk.i64_in _ (by omega)
      have hmw2 : IntKind.i64.wrap m = m := IntWalk.i64_in _ (by omega)
      have E2 := Lib.hid (Np.err_own OK.out hm3 (by omega : m % (d + 1) ≤ 1000))
      go_region_held3 (fun w' => w'.cell? ⟨w1.heap.size + 1 + 1, 0, none⟩ = some (.string s) ∧ w'.cell? ⟨w1.heap.size + 1 + 1, 1, none⟩ = some (.int .i64 ty) ∧ w'.cell? ⟨w1.heap.size + 1 + 1, 2, none⟩ = some (.int .i64 life) ∧ w'.cell? ⟨w1.heap.size + 1 + 1, 3, none⟩ = some (.slice A ds.length c) ∧ w'.cell? ⟨w1.heap.size + 1 + 1, 4, none⟩ = some (.slice (some ⟨w1.heap.size + 1, 0, none⟩) 1 1))
        (go_keep)
        (first
          | (go_at_call 14; refine (sure_any s hs ty life _ _ ds [Np.ownSig ⟨s.data.toList, ty, life, ds⟩ z n a f u] (m % (d + 1)) 10000000 _ ((HR.out.keep (HW3.out.trans (HB4.out.mono (by have := HW3.out.size; omega)) |>.drew)).more (by have := HW3.out.size; simp; omega)) ((HD.out.keep rdatum_kept (HW3.out.trans (HB4.out.mono (by have := HW3.out.size; omega)) |>.drew)).more rdatum_more (by have := HW3.out.size; simp; omega)) ((HG.out.keep rsig_kept HB4.out.drew).more rsig_more (by simp; omega))).mono ?_; rintro e w5 ⟨v5, rfl, hx5, hb5⟩; rw [E2.out]; obtain ⟨c5, f5⟩ := bcell (HB4.out.drew.trans (hb5.mono (by simp; omega))); have HX5 := Lib.hid hx5; have HB5 := Lib.hid hb5; clear hb5; obtain ⟨A5, p5, rfl, _, _, _⟩ := hx5))
      have hb53 : Below W3.heap.size W3 w5 := HB4.out.drew.trans (HB5.out.mono (by simp; omega))
      have HB53 := Lib.hid hb53
      have hz5 := hb53.size
      have SL := Lib.hid (Np.sure_valid OK.out i4 i5)
      have SM := Lib.hid (Np.sure_valid OK.out hm3 (by omega : m % (d + 1) ≤ 1000))
      have SS := Lib.hid (Np.signed_own (sn := s) rfl OK.out i4 i5 i2 i3)
      have SQ := Lib.hid (fun ht => Np.sure_less OK.out i4 i5 hm3 hm4 t ht)
      have HXL : Hid (SlR RSpan 2 w5 w5.heap.size (.slice A4 (Np.sure ⟨⟨s.data.toList, ty, life, ds⟩, [Np.ownSig ⟨s.data.toList, ty, life, ds⟩ z n a f u]⟩ d 10000000).length p4) (Np.sure ⟨⟨s.data.toList, ty, life, ds⟩, [Np.ownSig ⟨s.data.toList, ty, life, ds⟩ z n a f u]⟩ d 10000000)) := Lib.hid ((HX4.out.keep rspan_kept ((Below.drew (Below.refl _ _)).trans (HB5.out.mono (by simp)))).more rspan_more (by have := HB5.out.size; simpa using this))
      generalize Np.sure ⟨⟨s.data.toList, ty, life, ds⟩, [Np.ownSig ⟨s.data.toList, ty, life, ds⟩ z n a f u]⟩ d 10000000 = L at *
      generalize Np.sure ⟨⟨s.data.toList, ty, life, ds⟩, [Np.ownSig ⟨s.data.toList, ty, life, ds⟩ z n a f u]⟩ (m % (d + 1)) 10000000 = M at *
      clear hb53 HX4 hw1 hd1 hd2 hmod hmw hmw2
      go_wp2_with fail
      refine (spanValid_any _ L _ HXL.out).mono ?_
      rintro e w6 ⟨rfl, hb6⟩
      rw [SL.out]
      have hz6 := hb6.size
      have HB63 := Lib.hid (HB53.out.trans (hb6.mono hz5))
      have HXL6 := Lib.hid ((HXL.out.keep rspan_kept hb6).more rspan_more hz6)
      have HXM6 := Lib.hid ((HX5.out.keep rspan_kept hb6).more rspan_more hz6)
      clear hb6 HXL HX5 c5 f5
      go_wp2_with fail
      refine (spanValid_any _ M _ HXM6.out).mono ?_
      rintro e w7 ⟨rfl, hb7⟩
      rw [SM.out]
      have hz7 := hb7.size
      have HB73 := Lib.hid (HB63.out.trans (hb7.mono (by omega)))
      have HXL7 := Lib.hid ((HXL6.out.keep rspan_kept hb7).more rspan_more hz7)
      have HXM7 := Lib.hid ((HXM6.out.keep rspan_kept hb7).more rspan_more hz7)
      clear hb7 HXL6 HXM6
      go_wp2_with fail
      refine (has_any _ L t _ HXL7.out).mono ?_
      rintro e w8 ⟨rfl, hb8⟩
      have hz8 := hb8.size
      have hb83 := HB73.out.trans (hb8.mono (by omega))
      have HB83 := Lib.hid hb83
      obtain ⟨c8, f8⟩ := bcell hb83
      have HXM8 := Lib.hid ((HXM7.out.keep rspan_kept hb8).more rspan_more hz8)
      clear hb8 hb83 HXL7 HXM7
      have hw8 : Below w.heap.size w w8 := HW3.out.trans (HB83.out.mono (by omega))
      have HW8 := Lib.hid hw8
      clear hw8
      have o0 : w8.cell? ⟨w.heap.size + 1, 0, none⟩ = some (.int .i64 n) := by rw [c8 _ _ lz4]; exact k0
      have o1 : w8.cell? ⟨w.heap.size + 1, 1, none⟩ = some (.int .i64 a) := by rw [c8 _ _ lz4]; exact k1
      have b0 : w8.cell? ⟨w1.heap.size + 1 + 1, 0, none⟩ = some (.string s) := by rw [c8 _ _ lz3]; exact q0
      have b1 : w8.cell? ⟨w1.heap.size + 1 + 1, 1, none⟩ = some (.int .i64 ty) := by rw [c8 _ _ lz3]; exact q1
      have b2 : w8.cell? ⟨w1.heap.size + 1 + 1, 2, none⟩ = some (.int .i64 life) := by rw [c8 _ _ lz3]; exact q2
      have b3 : w8.cell? ⟨w1.heap.size + 1 + 1, 3, none⟩ = some (.slice A ds.length c) := by rw [c8 _ _ lz3]; exact q3
      have b4 : w8.cell? ⟨w1.heap.size + 1 + 1, 4, none⟩ = some (.slice (some ⟨w1.heap.size + 1, 0, none⟩) 1 1) := by rw [c8 _ _ lz3]; exact q4
      clear c8 f8
      go_wp2_with fail
      have hkk : ∀ o : Obj, o = .cells #[.int .i64 n, .int .i64 a] 33 → SlR RKey 2 (w8.alloc o) (w8.alloc o).heap.size (.slice (some ⟨w8.heap.size, 0, none⟩) 1 1) [⟨n, a⟩] := by
        rintro o rfl
        refine slr_block (fun k => [.int .i64 k.n, .int .i64 k.alg]) (by simp) rfl (fun j u hj => ?_) (by simp) (by simp) (fun x hx => rfl)
        match j, hj with
        | 0, hj => simp at hj; subst hj; go_simp
        | 1, hj => simp at hj; subst hj; go_simp
        | j + 2, hj => simp at hj
      have hw9 := fun o => HW8.out.alloc HW8.out.size o
      refine (signed_any z t d _ [⟨n, a⟩] s hs ty life _ _ ds [Np.ownSig ⟨s.data.toList, ty, life, ds⟩ z n a f u] _ ((HR.out.keep (hw9 _)).more (hw9 _).size) ((HD.out.keep rdatum_kept (hw9 _)).more rdatum_more (hw9 _).size) ((HG.out.keep rsig_kept (HB83.out.alloc (by omega) _)).more rsig_more (by simp; omega)) (hkk _ rfl)).mono ?_
      rintro e w9 ⟨rfl, hb9⟩
      rw [SS.out]
      have hz9 := hb9.size
      simp only [World.size_alloc] at hz9
      have hb98 : Below w8.heap.size w8 w9 := ((Below.refl _ w8).alloc (Nat.le_refl _) _).trans (hb9.mono (by simp))
      have HXM9 := Lib.hid ((HXM8.out.keep rspan_kept hb98).more rspan_more (by omega : w8.heap.size ≤ w9.heap.size))
      have HW9 := Lib.hid (HW8.out.trans (hb98.mono HW8.out.size))
      clear hb9 hb98 hw9 hkk
      by_cases hh : Np.spanHas L t = true
      · rw [hh]
        have SQ' := Lib.hid (SQ.out hh)
        clear hh
        go_wp2_with fail
        refine (has_any _ M t _ HXM9.out).mono ?_
        rintro e w10 ⟨rfl, hb10⟩
        rw [SQ'.out]
        have HB10 := Lib.hid hb10
        clear hb10
        go_wp2_with fail
        go_ret
        exact ⟨rfl, HW9.out.trans (HB10.out.mono HW9.out.size)⟩
      · have hh' : Np.spanHas L t = false := by simpa using hh
        rw [hh']
        clear hh hh'
        go_wp2_with fail
        go_ret
        exact ⟨rfl, HW9.out⟩
    · have OK := Lib.hid (show Np.signOk ⟨s.data.toList, ty, life, ds⟩ s z n a f u = false by simpa using hok)
      clear hok
      refine (sign_bad s hs ty life _ ds z hz n a f u _ ((HR.out.keep HW0.out).more HW0.out.size) ((HD.out.keep rdatum_kept HW0.out).more rdatum_more HW0.out.size) OK.out).mono ?_
      rintro e w1 ⟨rfl, hb1⟩
      have HB1 := Lib.hid hb1
      clear hb1
      go_wp2_with fail
      go_ret
      exact ⟨rfl, (HW0.out.trans (HB1.out.mono HW0.out.size)).alloc (by have := HB1.out.size; omega) _⟩
  · have hbw : Below w.heap.size w w0 := (HB2.out _ _).trans (HB0.out.mono (by simp; omega))
    have HW0 := Lib.hid hbw
    have HN := Lib.hid hin
    clear hbw hin
    go_wp2_with fail
    all_goals first
      | (go_ret; exact ⟨rfl, HW0.out⟩)
      | (exfalso; have := HN.out; omega)
end Go.Proofs.YtafpbfmhhpcalaaDoor
