/- LexerTexts: the walk. -/
import Derived.Test.YtafpbfmhhpcalaaDoorTexts
import Derived.Test.YtafpbfmhhpcalaaDoorShelf3
namespace Go.Proofs.YtafpbfmhhpcalaaDoor
open Go.RowKit
theorem Tryd.infoStr : (Tryd.prog.info? 9).map (fun i => (i.zero, i.size, i.bytes)) = some (some (.string ⟨#[]⟩), 1, 16) := by kernel_rfl
def OwnStr (w : World) (base : Nat) (v : Value) (xs : List (List UInt8)) : Prop := w.ownsRow base 9 1 v xs.length (xs.map fun x => .string (bytesOf x))
theorem ownStr_nil (w : World) (base : Nat) : OwnStr w base (.slice none 0 0) [] := ⟨rfl, .inl ⟨rfl, rfl⟩⟩
theorem joinB_eq : ∀ xs : List (List UInt8), Lib.join xs [32] = Np.joinB xs := by
  intro xs
  induction xs with
  | nil => rfl
  | cons x r ih =>
    rw [Lib.join_cons]
    cases r with
    | nil => simp [Lib.joinTail, Np.joinB]
    | cons y r =>
      rw [Np.joinB, ← ih, Lib.join_cons]
      simp [Lib.joinTail]
theorem joinB_len {M : Nat} : ∀ xs : List (List UInt8), (∀ x ∈ xs, x.length ≤ M) → (Np.joinB xs).length ≤ xs.length * (M + 1) := by
  intro xs
  induction xs with
  | nil => intro _; simp [Np.joinB]
  | cons x r ih =>
    intro h
    have h1 := h x (List.mem_cons_self ..)
    have h2 := ih (fun y hy => h y (List.mem_cons_of_mem _ hy))
    cases r with
    | nil => simp [Np.joinB]; omega
    | cons y r =>
      rw [Np.joinB, List.length_append, List.length_cons, List.length_cons, Nat.succ_mul]
      omega
theorem cov_len {s : List UInt8} : ∀ (l : List Np.Tok) (last : Nat), Np.Cov s last l → ∀ t ∈ l, (Np.textOf t).length ≤ s.length := by
  intro l
  induction l with
  | nil => intro _ _ t h; cases h
  | cons a l ih =>
    intro last h t ht
    obtain ⟨_, _, _, _, q, _, _, _, _, _, _, h1, h2⟩ := h
    rcases List.mem_cons.1 ht with rfl | ht
    · omega
    · exact ih _ h2 t ht
theorem join_any (w : World) (base : Nat) (v : Value) (xs : List (List UInt8)) (h : OwnStr w base v xs) (h1 : xs.length ≤ 2000) (h2 : ∀ x ∈ xs, x.length ≤ 8000) :
    Calls Tryd.prog 23 #[v, .string ⟨#[32]⟩] w fun e w' => e = .returned (.string (bytesOf (Np.joinB xs))) ∧ Below w.heap.size w w' := by
  have hcells := fun g hg => World.ownsRow.cells (g := g) h hg
  rcases h.2 with ⟨rfl, h0⟩ | ⟨g, cap, cur, rfl, hb, hg, hnc, _, _, htake⟩
  · have : xs = [] := List.eq_nil_of_length_eq_zero h0
    subst this
    exact (Tryd.strings_Join_none none 0 ⟨#[32]⟩ w).mono fun e w' ⟨he, hw⟩ => ⟨he, hw ▸ Below.refl _ _⟩
  · have e1 : ((xs.map bytesOf).map fun x => x.data.toList) = xs := by rw [List.map_map]; simp [Function.comp_def, bytesOf]
    have hl := joinB_len xs h2
    have hl2 : xs.length * (8000 + 1) ≤ 2000 * (8000 + 1) := Nat.mul_le_mul_right _ h1
    have c := Tryd.strings_Join g 0 cap (xs.map bytesOf) ⟨#[32]⟩ w (fun j x hx => by
      have h3 := hcells g rfl j (.string x) (by rw [List.getElem?_map] at hx ⊢; cases hq : xs[j]? with | none => rw [hq] at hx; cases hx | some y => rw [hq] at hx; cases hx; rfl)
      have hadd : (⟨g, 0, none⟩ : Addr).add j = ⟨g, 0 + j, none⟩ := by unfold Addr.add; split <;> simp_all
      rw [hadd] at h3
      exact h3) (Array.getElem?_eq_some_iff.1 hg).1 (by rw [List.length_map]; omega) (by rw [List.length_map]; exact hnc) (by rw [e1]; show (Lib.join xs [32]).length ≤ _; rw [joinB_eq]; omega)
    rw [e1, List.length_map] at c
    refine c.mono fun e w' ⟨he, hw⟩ => ⟨?_, hw⟩
    rw [he]
    show Ending.returned (.string (bytesOf (Lib.join xs [32]))) = _
    rw [joinB_eq]
set_option maxRecDepth 100000 in
set_option maxHeartbeats 4000000 in
theorem texts_walk (s : ByteArray) (hs : s.size ≤ 140737488355328) (w : World) (hE : ErrIn w) :
    Calls Tryd.prog 7 #[.string s] w fun e w' => e = .returned (.bool true) ∧ Below w.heap.size w w' := by
  have HE := Lib.hid hE
  clear hE
  go_enter Tryd.func7, Tryd.ntmps7
  go_wp2_with fail
  refine (head03_any _ HE.out).mono ?_
  rintro e w0 ⟨rfl, hb0⟩
  have HB0 := Lib.hid hb0
  clear hb0
  go_wp2_with fail
  refine (lex_any s hs _ (HE.out.keep HB0.out)).mono ?_
  generalize hla : Np.lex s.data.toList = ra
  have HLA := Lib.hid hla
  clear hla
  obtain ⟨l, ea, qa⟩ := ra
  rintro e w1 ⟨v1, rfl, hx1, hb1⟩
  have HX1 := Lib.hid hx1
  have HB1 := Lib.hid (HB0.out.trans (hb1.mono HB0.out.size))
  obtain ⟨A1, c1, rfl, hc1, hl1, _⟩ := hx1
  clear hb1
  simp only at hc1 hl1 ⊢
  by_cases h0 : ea = 0
  · subst h0
    have h8 := (Np.lex_ok HLA.out).1
    rw [size_list] at h8
    have h2 : l.length ≤ 2000 := by
      have := (Np.lex_place _ s.data.toList 0 0 (Nat.le_refl _) (by omega)).2.2.1
      rw [(Np.lex_ok HLA.out).2] at this; simpa using this
    have h2I : (l.length : Int) ≤ 2000 := by omega
    have HG := Lib.hid (show ∀ t ∈ l, TokIn t from fun t ht => (Np.lex_good _ s.data.toList 0 0 l (Nat.le_refl _) (Np.lex_ok HLA.out).2 t ht).2)
    have HLN := Lib.hid (show ∀ x ∈ l.map Np.textOf, x.length ≤ 8000 from fun x hx => by
      obtain ⟨t, ht, rfl⟩ := List.mem_map.1 hx
      have := cov_len l 0 (Np.lex_covers HLA.out) t ht
      rw [size_list] at this; omega)
    obtain ⟨i0, hi0, hz0, hz1, hz2⟩ := info_parts Tryd.infoStr
    go_wp2_with fail
    go_loopw [7, 31] (fun vt i wr => ∃ (k : Nat) (A : Option Addr) (c : Nat), k ≤ l.length ∧ i = .int .i64 k ∧ vt = .slice A k c ∧ Hid (OwnStr wr w1.heap.size vt ((l.take k).map Np.textOf)) ∧ Hid (Below w1.heap.size w1 wr)) (fun _ i _ => l.length - (intOf i).toNat)
    case atStart => exact ⟨0, none, 0, Nat.zero_le _, rfl, rfl, Lib.hid (ownStr_nil _ _), Lib.hid (Below.refl _ _)⟩
    case round =>
      obtain ⟨k, A, c, hk, rfl, rfl, HO, HB⟩ := hrel
      by_cases hlt : k < l.length
      · obtain ⟨b, o, c', hA, hb, a0, a1, a2, a3⟩ := tok_at (HX1.out.keep rtok_kept HB.out) (List.getElem?_eq_getElem hlt)
        simp only [Value.slice.injEq] at hA
        obtain ⟨rfl, _, rfl⟩ := hA
        have HTI := Lib.hid (HG.out l[k] (List.getElem_mem hlt))
        have HTK : Hid ((l.take (k + 1)).map Np.textOf = (l.take k).map Np.textOf ++ [Np.textOf l[k]]) := Lib.hid (by rw [List.take_succ_eq_append_getElem hlt, List.map_append]; rfl)
        generalize l[k] = t at *
        have hkI : (k : Int) < (l.length : Int) := by omega
        have hk0 : (0 : Int) ≤ (k : Int) := by omega
        have htn : 0 ≤ t.n := HTI.out.2.2.1
        have hsz := HB.out.size
        go_wp2_with fail
        refine (text_any t HTI.out _).mono ?_
        rintro e w5 ⟨rfl, hb5⟩
        simp only [World.size_alloc] at hb5
        have HO5 : Hid (OwnStr w5 w1.heap.size (.slice A k c) ((l.take k).map Np.textOf)) := Lib.hid (ownsRow_keep (World.ownsRow.alloc HO.out _) (fun g hg => hb5.block g (by have := (ownsRow_base HO.out g hg).2; omega)))
        have HB5 : Hid (Below w1.heap.size w1 w5) := Lib.hid ((HB.out.alloc HB.out.size _).trans (hb5.mono (by omega)))
        have hsz5 := HB5.out.size
        have hlk : ((l.take k).map Np.textOf).length = k := by rw [List.length_map, List.length_take]; omega
        clear hb5
        go_wp2_with (at_builtin; go_must (refine wpList_append_own_at _ rfl _ _ 56 rfl w1.heap.size 9 i0 (.string ⟨#[]⟩) 1 16 Tryd.underlying56 hi0 hz0 hz1 hz2 rfl (by decide) _ ((l.take k).map Np.textOf).length _ rfl (World.ownsRow.alloc HO5.out _) ⟨w5.heap.size, 0, none⟩ 1 1 [.string (bytesOf (Np.textOf t))] rfl rfl (World.news_of_block (cs := #[.string (bytesOf (Np.textOf t))]) (t := 9) (fr := (0, 0)) (heap_alloc_new w5 _)) (by simp [Value.oneCell']) (by rw [hlk]; unfold maxLen; omega) (by rw [hlk]; omega) (by simp; omega) ?_); intro v6 w6 hown6 hg6 hiff6 hat6; clear hiff6)
        go_roundw
        case rel =>
          obtain ⟨A6, c6, rfl⟩ := ownsRow_form hown6
          refine ⟨k + 1, A6, c6, by omega, by go_num, by rw [hlk], Lib.hid ?_, Lib.hid ?_⟩
          · unfold OwnStr
            rw [HTK.out, List.length_append, List.length_singleton, List.map_append]
            exact hown6
          · exact (HB5.out.alloc HB5.out.size _).grown hg6 (by simp; omega) (fun g hg => (ownsRow_base HO5.out g hg).1)
        case measure => simp [intOf] <;> omega
      · have : k = l.length := by omega
        subst this
        go_wp2_with fail
        rw [List.take_length] at HO
        have hll : (l.map Np.textOf).length ≤ 2000 := by rw [List.length_map]; exact h2
        refine (join_any _ _ _ _ HO.out hll HLN.out).mono ?_
        rintro e w2 ⟨rfl, hb2⟩
        have HB2 := Lib.hid (HB1.out.trans ((HB.out.trans (hb2.mono HB.out.size)).mono HB1.out.size))
        have HX2 := Lib.hid ((HX1.out.keep rtok_kept (HB.out.trans (hb2.mono HB.out.size))).more rtok_more (HB.out.trans (hb2.mono HB.out.size)).size)
        clear hb2 HO HX1 hll
        by_cases h8k : (Np.joinB (l.map Np.textOf)).length ≤ 8000
        · obtain ⟨m, hm1, hm2⟩ := Np.lex_texts HLA.out h8k
          have HM1 := Lib.hid hm1
          have HM2 := Lib.hid hm2
          have hjs : (bytesOf (Np.joinB (l.map Np.textOf))).size ≤ 8000 := by rw [← size_list]; simpa [bytesOf] using h8k
          have HJ : Hid ((bytesOf (Np.joinB (l.map Np.textOf))).data.toList = Np.joinB (l.map Np.textOf)) := Lib.hid (by simp [bytesOf])
          clear hm1 hm2 h8k
          generalize bytesOf (Np.joinB (l.map Np.textOf)) = J at *
          have hjI : (J.size : Int) ≤ 8000 := by omega
          go_wp2_with fail
          refine (lex_any J (by omega) _ (HE.out.keep HB2.out)).mono ?_
          rw [HJ.out, HM1.out]
          rintro e w3 ⟨v3, rfl, hx3, hb3⟩
          have HX3 := Lib.hid hx3
          have HB3 := Lib.hid (HB2.out.trans (hb3.mono HB2.out.size))
          have HX2' := Lib.hid ((HX2.out.keep rtok_kept hb3).more rtok_more hb3.size)
          clear hb3 hx3 HX2
          go_wp2_with fail
          refine (alike_yes _ _ l m HM2.out _ HX2'.out HX3.out).mono ?_
          rintro e w4 ⟨rfl, hb4⟩
          have HB4 := Lib.hid (HB3.out.trans (hb4.mono HB3.out.size))
          clear hb4
          go_wp2_with fail
          all_goals
            go_ret
            exact ⟨rfl, HB4.out⟩
        · have hjs : 8000 < (bytesOf (Np.joinB (l.map Np.textOf))).size := by rw [← size_list]; simpa [bytesOf] using h8k
          clear h8k
          generalize bytesOf (Np.joinB (l.map Np.textOf)) = J at *
          have hjI : (8000 : Int) < (J.size : Int) := by omega
          go_wp2_with fail
          all_goals
            go_ret
            exact ⟨rfl, HB2.out⟩
  · have e0 : (ea != 0) = true := by simpa using h0
    clear h0
    go_wp2_with fail
    all_goals
      go_ret
      exact ⟨rfl, HB1.out⟩
end Go.Proofs.YtafpbfmhhpcalaaDoor
