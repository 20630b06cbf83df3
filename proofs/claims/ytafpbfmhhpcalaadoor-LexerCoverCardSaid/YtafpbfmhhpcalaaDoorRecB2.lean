/- record.Bytes. -/
import Derived.Test.YtafpbfmhhpcalaaDoorRecB
namespace Go.Proofs.YtafpbfmhhpcalaaDoor
open Go.RowKit
theorem below_new (w : World) (o : Obj) : Below w.heap.size w (w.alloc o) := (Below.refl _ w).alloc (Nat.le_refl _) _
theorem ownB_nil (w : World) (base : Nat) : OwnB w base (.slice none 0 0) [] := ⟨rfl, .inl ⟨rfl, rfl⟩⟩
theorem OwnB.weaken {w : World} {base b : Nat} {v : Value} {bs : List UInt8} (h : OwnB w base v bs) (hb : b ≤ base) : OwnB w b v bs := by
  refine ⟨h.1, ?_⟩
  rcases h.2 with h1 | ⟨g, cap, cur, h1, h2, h3⟩
  · exact .inl h1
  · exact .inr ⟨g, cap, cur, h1, Nat.le_trans hb h2, h3⟩
theorem GivesB.step {base : Nat} {v : Value} {bs bs' : List UInt8} {w w' : World} {e : Ending} (h : GivesB base v bs' w e w') (ho : OwnB w base v bs) (hb : base ≤ w.heap.size) : ∃ A c b', e = .returned (.slice A (List.length b') c) ∧ Hid (b' = bs') ∧ OwnB w' base (.slice A (List.length b') c) b' ∧ Below base w w' := by
  obtain ⟨v', rfl, h1, h2⟩ := h
  obtain ⟨A, c, rfl⟩ := ownsRow_form h1
  exact ⟨A, c, bs', rfl, Lib.hid rfl, h1, h2.below ho (Nat.le_refl _) hb⟩
/-- A step that leaves the block g, which is not the row's own, as it was. -/
theorem GivesB.step2 {base g : Nat} {v : Value} {bs bs' : List UInt8} {w w' : World} {e : Ending} (h : GivesB base v bs' w e w') (ho : OwnB w base v bs) (hb : base ≤ w.heap.size) (hg : v.ownBlock ≠ some g) (hgl : g < w.heap.size) :
    ∃ A c b', e = .returned (.slice A (List.length b') c) ∧ Hid (b' = bs') ∧ OwnB w' base (.slice A (List.length b') c) b' ∧ Below base w w' ∧ (Value.slice A (List.length b') c).ownBlock ≠ some g ∧ w'.heap[g]? = w.heap[g]? := by
  obtain ⟨v', rfl, h1, h2⟩ := h
  obtain ⟨A, c, rfl⟩ := ownsRow_form h1
  refine ⟨A, c, bs', rfl, Lib.hid rfl, h1, h2.below ho (Nat.le_refl _) hb, ?_, h2.grown.block g hgl (fun e => hg e.symm)⟩
  rcases h2.at_ with e | ⟨k, hk, e⟩
  · rw [e]; exact hg
  · rw [e]; simp; omega
def BytesRel (w5 : World) (base : Nat) (b5 : List UInt8) (ds : List Np.Datum) (vb i : Value) (wr : World) : Prop :=
  ∃ (k : Nat) (A : Option Addr) (c : Nat) (bk : List UInt8), k ≤ ds.length ∧ i = .int .i64 k ∧ vb = .slice A bk.length c ∧ Hid (bk = b5 ++ (ds.take k).flatMap Np.datumBytes) ∧ Hid (OwnB wr base vb bk) ∧ Hid (Below base w5 wr)
set_option maxRecDepth 100000 in
set_option maxHeartbeats 1000000 in
theorem recBytes_any (s : ByteArray) (hs : s.size ≤ 140737488355328) (ty life : Int) (v : Value) (ds : List Np.Datum) (w : World) (hR : RulesIn w w.heap.size) (hd : SlR RDatum 3 w w.heap.size v ds) (hval : Np.validSet ⟨s.data.toList, ty, life, ds⟩ = true) :
    Calls Tryd.prog 38 #[.agg #[.string s, .int .i64 ty, .int .i64 life, v]] w
      fun e w' => Below w.heap.size w w' ∧ ∃ v', e = .returned (.tuple #[v', .int .i64 0]) ∧ OwnB w' w.heap.size v' (Np.recBytes ⟨s.data.toList, ty, life, ds⟩) := by
  have HR := Lib.hid hR
  have HD := Lib.hid hd
  have OK := Lib.hid (Np.validSet_ok hval)
  have HV := Lib.hid hval
  obtain ⟨A, c, rfl, hc1, hl1, he1⟩ := hd
  clear hR he1 hval
  obtain ⟨i0, hi, hz0, hz1, hz2⟩ := info_parts Tryd.infoByte
  have hd8 : ds.length ≤ 8 := OK.out.len
  go_enter Tryd.func38, Tryd.ntmps38
  go_wp2_with (first
    | (go_at_call 70; have hv := HV.out; clear HV; refine (recValid_any s hs ty life _ ds _ ((HR.out.keep (below_new w _)).more (by simp)) ((HD.out.keep rdatum_kept (below_new w _)).more rdatum_more (by simp))).mono ?_; rintro e w1 ⟨rfl, hb1⟩; rw [hv]; have hs1 := hb1.size; simp only [World.size_alloc] at hs1 hb1; have c10 : w1.cell? ⟨w.heap.size, 0, none⟩ = some (.string s) := by { rw [hb1.cell (by simp)]; go_simp }; have c11 : w1.cell? ⟨w.heap.size, 1, none⟩ = some (.int .i64 ty) := by { rw [hb1.cell (by simp)]; go_simp }; have c12 : w1.cell? ⟨w.heap.size, 2, none⟩ = some (.int .i64 life) := by { rw [hb1.cell (by simp)]; go_simp }; have c13 : w1.cell? ⟨w.heap.size, 3, none⟩ = some (.slice A ds.length c) := by { rw [hb1.cell (by simp)]; go_simp }; have HB1 := Lib.hid hb1; have HO1 := Lib.hid (ownB_nil w1 (w.heap.size + 1)); clear hb1 hv)
    | (go_at_call 71; have ho := HO1.out; clear HO1; refine (appendText_np (w.heap.size + 1) _ [] s (by simp) OK.out.name _ (by omega) ho).mono ?_; rintro e w2 hg2; obtain ⟨A2, p2, b2, rfl, HQ2, ho2, hb2⟩ := hg2.step ho (by omega); have hs2 := hb2.size; have c20 : w2.cell? ⟨w.heap.size, 0, none⟩ = some (.string s) := by { rw [hb2.cell (by simp)]; exact c10 }; have c21 : w2.cell? ⟨w.heap.size, 1, none⟩ = some (.int .i64 ty) := by { rw [hb2.cell (by simp)]; exact c11 }; have c22 : w2.cell? ⟨w.heap.size, 2, none⟩ = some (.int .i64 life) := by { rw [hb2.cell (by simp)]; exact c12 }; have c23 : w2.cell? ⟨w.heap.size, 3, none⟩ = some (.slice A ds.length c) := by { rw [hb2.cell (by simp)]; exact c13 }; have HB2 := Lib.hid hb2; have HO2 := Lib.hid ho2; clear hg2 hb2 ho2 ho)
    | (go_at_call 72; have ho := HO2.out; clear HO2; refine (appendNumber_np (w.heap.size + 1) _ b2 ty (by rw [HQ2.out]; have := OK.out.name; simp [Np.text]; simp at this; omega) (by have := OK.out.ty0; simp at this; omega) (by have := OK.out.ty1; simp at this; omega) _ (by omega) ho).mono ?_; rintro e w3 hg3; obtain ⟨A3, p3, b3, rfl, HQ3, ho3, hb3⟩ := hg3.step ho (by omega); have hs3 := hb3.size; have c30 : w3.cell? ⟨w.heap.size, 0, none⟩ = some (.string s) := by { rw [hb3.cell (by simp)]; exact c20 }; have c31 : w3.cell? ⟨w.heap.size, 1, none⟩ = some (.int .i64 ty) := by { rw [hb3.cell (by simp)]; exact c21 }; have c32 : w3.cell? ⟨w.heap.size, 2, none⟩ = some (.int .i64 life) := by { rw [hb3.cell (by simp)]; exact c22 }; have c33 : w3.cell? ⟨w.heap.size, 3, none⟩ = some (.slice A ds.length c) := by { rw [hb3.cell (by simp)]; exact c23 }; have HB3 := Lib.hid hb3; have HO3 := Lib.hid ho3; clear hg3 hb3 ho3 ho)
    | (go_at_call 72; have ho := HO3.out; clear HO3; refine (appendNumber_np (w.heap.size + 1) _ b3 life (by rw [HQ3.out, HQ2.out]; have := OK.out.name; simp [Np.text, Np.num_len]; simp at this; omega) (by have := OK.out.li0; simpa using this) (by have := OK.out.li1; simp at this; omega) _ (by omega) ho).mono ?_; rintro e w4 hg4; obtain ⟨A4, p4, b4, rfl, HQ4, ho4, hb4⟩ := hg4.step ho (by omega); have hs4 := hb4.size; have c40 : w4.cell? ⟨w.heap.size, 0, none⟩ = some (.string s) := by { rw [hb4.cell (by simp)]; exact c30 }; have c41 : w4.cell? ⟨w.heap.size, 1, none⟩ = some (.int .i64 ty) := by { rw [hb4.cell (by simp)]; exact c31 }; have c42 : w4.cell? ⟨w.heap.size, 2, none⟩ = some (.int .i64 life) := by { rw [hb4.cell (by simp)]; exact c32 }; have c43 : w4.cell? ⟨w.heap.size, 3, none⟩ = some (.slice A ds.length c) := by { rw [hb4.cell (by simp)]; exact c33 }; have HB4 := Lib.hid hb4; have HO4 := Lib.hid ho4; clear hg4 hb4 ho4 ho)
    | (at_builtin; have ho := HO4.out; clear HO4; have hl4 : b4.length ≤ 100 := by { rw [HQ4.out, HQ3.out, HQ2.out]; have := OK.out.name; simp [Np.text, Np.num_len]; simp at this; omega }; refine wpList_append_own_at _ rfl _ _ 80 rfl (w.heap.size + 1) 5 i0 (.int .u8 0) 1 1 Tryd.underlying80 hi hz0 hz1 hz2 rfl (by decide) _ _ _ rfl (World.ownsRow.alloc ho _) ⟨w4.heap.size, 0, none⟩ 1 1 [_] rfl rfl (cell_one_new _ _ _) (by simp [Value.oneCell']) (by unfold maxLen; omega) (by omega) (by simp; omega) ?_; intro v5 w5 hown5 hg5 hiff5 hat5; clear hiff5; have hb5 : Below (w.heap.size + 1) w4 w5 := ((handed_step hg5 hat5).of_below (below_new w4 _)).below ho (Nat.le_refl _) (by omega); obtain ⟨A5, p5, rfl⟩ := ownsRow_form (ownB_snoc (c := UInt8.ofNat ds.length) (by simp; omega) hown5); have HO5 := Lib.hid (ownB_snoc (c := UInt8.ofNat ds.length) (by simp; omega) hown5); have hs5 := hb5.size; have c53 : w5.cell? ⟨w.heap.size, 3, none⟩ = some (.slice A ds.length c) := by { rw [hb5.cell (by simp)]; exact c43 }; have HB5 := Lib.hid hb5; clear hown5 hg5 hat5 ho hb5))
  generalize hb5 : b4 ++ [UInt8.ofNat ds.length] = b5 at HO5
  have HQ5 := Lib.hid hb5
  clear hb5
  have HW5 : Hid (Below w.heap.size w w5) := Lib.hid ((below_new w _).trans ((((HB1.out.trans HB2.out).trans HB3.out).trans (HB4.out.trans HB5.out)).mono (by omega)))
  go_loopw [4, 32] (fun vb i wr => BytesRel w5 (w.heap.size + 1) b5 ds vb i wr) (fun _ i _ => ds.length - (intOf i).toNat)
  case atStart =>
    have e5 : b4.length + 1 = b5.length := by rw [← HQ5.out]; simp
    rw [e5]
    exact ⟨0, A5, p5, b5, Nat.zero_le _, rfl, rfl, Lib.hid (by simp), HO5, Lib.hid (Below.refl _ _)⟩
  case round =>
    obtain ⟨k, Ak, ck, bk, hk, rfl, rfl, HQ, HO, HB⟩ := hrel
    have hszr := HB.out.size
    by_cases hlt : k < ds.length
    · obtain ⟨A', c', hA', _, _, hel⟩ := HD.out.keep rdatum_kept (HW5.out.trans (HB.out.mono (by omega)))
      cases hA'
      obtain ⟨g, o, e, rfl, hgl, hlen, hce, sd, hsd, hsds, rfl⟩ := hel k _ (List.getElem?_eq_getElem hlt)
      have e0 : wr.cell? ⟨g, o + k * 3, none⟩ = some (.string sd) := hce 0 _ rfl
      have e1 : wr.cell? ⟨g, o + k * 3 + 1, none⟩ = some (.int .i64 ds[k].n) := hce 1 _ rfl
      have e2 : wr.cell? ⟨g, o + k * 3 + 2, none⟩ = some (.int .i64 ds[k].m) := hce 2 _ rfl
      have DK := Lib.hid (OK.out.data ds[k] (List.getElem_mem hlt))
      have hbk : bk.length ≤ 1000 := by
        rw [HQ.out, ← HQ5.out, HQ4.out, HQ3.out, HQ2.out]
        have h1 := OK.out.name
        have h2 := Np.flat_len (ds := ds.take k) (fun d hd => OK.out.data d (List.mem_of_mem_take hd))
        simp at h1
        simp only [List.length_append, Np.num_len, Np.text, List.length_cons, List.length_nil, List.length_take] at h2 ⊢
        simp only [Array.length_toList, ByteArray.size_data]
        omega
      have hno : (Value.slice Ak bk.length ck).ownBlock ≠ some wr.heap.size := fun e => by have := (ownsRow_base HO.out _ e).2; omega
      have hno' := Lib.hid hno
      have HSD := Lib.hid hsd
      clear hce hel hno hsd
      go_wp2_with (first
        | (go_at_call 71; have ho := HO.out; clear HO; refine (appendText_np (w.heap.size + 1) _ bk sd (by omega) (by rw [HSD.out]; exact DK.out.text) _ (by simp; omega) (World.ownsRow.alloc ho _)).mono ?_; rintro e w6 hg6; obtain ⟨A6, p6, b6, rfl, HQ6, ho6, hb6, hn6, hh6⟩ := hg6.step2 (g := wr.heap.size) (World.ownsRow.alloc ho _) (by simp; omega) hno'.out (by simp); have hs6 := hb6.size; simp only [World.size_alloc] at hs6; have hx6 : w6.heap[wr.heap.size]? = some (.cells #[.string sd, .int .i64 ds[k].n, .int .i64 ds[k].m] 67) := hh6.trans (World.alloc_heap_new _ _); have q61 : w6.cell? ⟨wr.heap.size, 1, none⟩ = some (.int .i64 ds[k].n) := by { unfold World.cell?; rw [hx6]; rfl }; have q62 : w6.cell? ⟨wr.heap.size, 2, none⟩ = some (.int .i64 ds[k].m) := by { unfold World.cell?; rw [hx6]; rfl }; have HX6 := Lib.hid hx6; clear hx6 hh6; have HB6 := Lib.hid hb6; have HO6 := Lib.hid ho6; clear hg6 hb6 ho6 ho)
        | (go_at_call 72; have ho := HO6.out; clear HO6; refine (appendNumber_np (w.heap.size + 1) _ b6 ds[k].n (by rw [HQ6.out]; have := DK.out.text; rw [← HSD.out] at this; simp [Np.text]; simp at this; omega) DK.out.n0 DK.out.n1 _ (by omega) ho).mono ?_; rintro e w7 hg7; obtain ⟨A7, p7, b7, rfl, HQ7, ho7, hb7, hn7, hh7⟩ := hg7.step2 (g := wr.heap.size) ho (by omega) hn6 (by omega); have hs7 := hb7.size; have hx7 : w7.heap[wr.heap.size]? = some (.cells #[.string sd, .int .i64 ds[k].n, .int .i64 ds[k].m] 67) := hh7.trans HX6.out; have q71 : w7.cell? ⟨wr.heap.size, 1, none⟩ = some (.int .i64 ds[k].n) := by { unfold World.cell?; rw [hx7]; rfl }; have q72 : w7.cell? ⟨wr.heap.size, 2, none⟩ = some (.int .i64 ds[k].m) := by { unfold World.cell?; rw [hx7]; rfl }; have HX7 := Lib.hid hx7; clear hx7 hh7; have HB7 := Lib.hid hb7; have HO7 := Lib.hid ho7; clear hg7 hb7 ho7 ho)
        | (go_at_call 72; have ho := HO7.out; clear HO7; refine (appendNumber_np (w.heap.size + 1) _ b7 ds[k].m (by rw [HQ7.out, HQ6.out]; have := DK.out.text; rw [← HSD.out] at this; simp [Np.text, Np.num_len]; simp at this; omega) DK.out.m0 DK.out.m1 _ (by omega) ho).mono ?_; rintro e w8 hg8; obtain ⟨A8, p8, b8, rfl, HQ8, ho8, hb8, hn8, hh8⟩ := hg8.step2 (g := wr.heap.size) ho (by omega) hn7 (by omega); have hs8 := hb8.size; skip; have HB8 := Lib.hid hb8; have HO8 := Lib.hid ho8; clear hg8 hb8 ho8 ho))
      refine ⟨⟨k + 1, A8, p8, b8, by omega, rfl, rfl, Lib.hid ?_, HO8, Lib.hid (HB.out.trans (((below_new wr _).mono (by omega)).trans ((HB6.out.trans HB7.out).trans HB8.out)))⟩, by simp [intOf]; omega⟩
      rw [HQ8.out, HQ7.out, HQ6.out, HQ.out, List.take_add_one, List.getElem?_eq_getElem hlt, HSD.out, List.flatMap_append]
      show _ = b5 ++ (_ ++ (Np.datumBytes ds[k] ++ []))
      simp [Np.datumBytes, List.append_assoc]
    · have : k = ds.length := by omega
      subst this
      go_wp2_with fail
      go_ret2
      refine ⟨HW5.out.trans (HB.out.mono (by omega)), _, rfl, ?_⟩
      have := HO.out.weaken (Nat.le_succ w.heap.size)
      have hq : bk = Np.recBytes ⟨s.data.toList, ty, life, ds⟩ := by
        rw [HQ.out, ← HQ5.out, HQ4.out, HQ3.out, HQ2.out]
        simp [Np.recBytes, Np.headBytes]
      rw [← hq]
      exact this
end Go.Proofs.YtafpbfmhhpcalaaDoor
