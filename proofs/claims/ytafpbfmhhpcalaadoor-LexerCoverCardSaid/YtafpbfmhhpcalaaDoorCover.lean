/- LexerCover: gaps, and the walk. -/
import Derived.Test.YtafpbfmhhpcalaaDoorTexts
import Derived.Test.YtafpbfmhhpcalaaDoorTexts2
import Derived.Test.YtafpbfmhhpcalaaDoorShelf4
namespace Go.Proofs.YtafpbfmhhpcalaaDoor
open Go.RowKit
/-- Where a byte stands first. -/
theorem index_one (c : UInt8) : ∀ s : List UInt8, (Lib.index s [c] = -1 ∧ c ∉ s) ∨ ∃ i : Nat, Lib.index s [c] = i ∧ c ∉ s.take i ∧ s.drop i = c :: s.drop (i + 1) ∧ i < s.length := by
  intro s
  induction s with
  | nil => left; exact ⟨by simp [Lib.index], by simp⟩
  | cons b l ih =>
    by_cases hb : c = b
    · subst hb
      right
      exact ⟨0, by simp [Lib.index, List.isPrefixOf], by simp, by simp, by simp⟩
    · have hp : List.isPrefixOf [c] (b :: l) = false := by simp [List.isPrefixOf, hb]
      rcases ih with ⟨h1, h2⟩ | ⟨i, h1, h2, h3, h4⟩
      · left
        refine ⟨by rw [Lib.index, hp, h1]; simp, by simp [hb, h2]⟩
      · right
        refine ⟨i + 1, ?_, by simp [hb, h2], by simpa using h3, by simp; omega⟩
        rw [Lib.index, hp, h1]
        have : ((i : Int) == -1) = false := by rw [beq_eq_false_iff_ne]; omega
        simp [this]
theorem gapB_front {u v : List UInt8} (h : Np.gapB false (u ++ v) = true) : Np.gapB false u = true := by
  rw [Np.gapB_app, Bool.and_eq_true] at h; exact h.1
theorem gapB_line {u v : List UInt8} (h : Np.gapB false (u ++ 10 :: v) = true) : Np.gapB false v = true := by
  rw [Np.gapB_app, Bool.and_eq_true] at h
  have := h.2
  simpa [Np.gapB] using this
def nlB : ByteArray := ⟨#[10]⟩
/-- The lines of gaps. -/
theorem pieces_gap : ∀ (k : Nat) (s : ByteArray), Lib.countB s nlB = k → Np.gapB false s.data.toList = true → ∀ x ∈ Lib.splitB nlB 0 k s, (Np.gapB false x.data.toList = true ∧ (10 : UInt8) ∉ x.data.toList) ∧ x.size ≤ s.size := by
  intro k
  induction k with
  | zero =>
    intro s hk hg x hx
    rw [Lib.splitB_zero] at hx
    simp only [List.mem_singleton] at hx
    subst hx
    refine ⟨⟨hg, ?_⟩, Nat.le_refl _⟩
    rcases index_one 10 x.data.toList with ⟨_, h⟩ | ⟨i, h1, _⟩
    · exact h
    · rw [Lib.countB_hit x nlB i (by decide) h1] at hk; omega
  | succ k ih =>
    intro s hk hg x hx
    rcases index_one 10 s.data.toList with ⟨h1, h⟩ | ⟨i, h1, h2, h3, h4⟩
    · rw [Lib.countB_miss s nlB h1] at hk; omega
    · rw [Lib.countB_hit s nlB i (by decide) h1] at hk
      rw [Lib.splitB_hit nlB 0 k s i h1] at hx
      have hsp : s.data.toList = s.data.toList.take i ++ 10 :: s.data.toList.drop (i + 1) := by rw [← h3, List.take_append_drop]
      rw [hsp] at hg
      have hsz : nlB.size = 1 := rfl
      rcases List.mem_cons.1 hx with rfl | hx
      · rw [Nat.add_zero, ext_to]
        refine ⟨⟨gapB_front hg, h2⟩, ?_⟩
        rw [ByteArray.size_extract]; omega
      · have hg2 : Np.gapB false (s.extract (i + nlB.size) s.size).data.toList = true := by rw [ext_from, hsz]; exact gapB_line hg
        obtain ⟨r1, r2⟩ := ih _ (by omega) hg2 x hx
        refine ⟨r1, ?_⟩
        have : (s.extract (i + nlB.size) s.size).size ≤ s.size := by rw [ByteArray.size_extract]; omega
        omega
theorem gap_plain : ∀ y : List UInt8, Np.gapB false y = true → (10 : UInt8) ∉ y → (35 : UInt8) ∉ y → ∀ c ∈ y, c = 32 ∨ c = 9 := by
  intro y
  induction y with
  | nil => intro _ _ _ c h; cases h
  | cons a y ih =>
    intro h h1 h2 c hc
    simp only [List.mem_cons, not_or] at h1 h2
    rw [Np.gapB, if_neg (fun e => h1.1 e.symm)] at h
    simp only [Bool.false_eq_true, if_false] at h
    rw [if_neg (fun e => h2.1 e.symm)] at h
    simp only [Bool.and_eq_true, Bool.or_eq_true, beq_iff_eq] at h
    rcases List.mem_cons.1 hc with rfl | hc
    · exact h.1
    · exact ih h.2 h1.2 h2.2 c hc
theorem cut_plain {x : List UInt8} (h : Np.gapB false x = true) (h1 : (10 : UInt8) ∉ x) : Lib.trimS (Lib.cut x [35]).1 [32, 9] = [] ∧ (Lib.cut x [35]).1.length ≤ x.length := by
  have key : ∀ y : List UInt8, (∀ c ∈ y, c = 32 ∨ c = 9) → Lib.trimS y [32, 9] = [] := by
    intro y hy
    have hall : y.reverse.dropWhile (List.contains [32, 9] ·) = [] := by
      rw [dropWhile_nil, List.all_eq_true]
      intro c hc
      rcases hy c (List.mem_reverse.1 hc) with rfl | rfl <;> decide
    unfold Lib.trimS Lib.trimLeftS Lib.trimRightS
    rw [hall]; rfl
  rcases index_one 35 x with ⟨i1, i2⟩ | ⟨i, i1, i2, i3, i4⟩
  · have e : (Lib.cut x [35]).1 = x := by unfold Lib.cut; rw [i1]; rfl
    rw [e]
    exact ⟨key x (gap_plain x h h1 i2), Nat.le_refl _⟩
  · have e : (Lib.cut x [35]).1 = x.take i := by unfold Lib.cut; rw [i1, if_pos (by omega)]; simp
    rw [e]
    refine ⟨key _ (gap_plain _ ?_ (fun hm => h1 (List.mem_of_mem_take hm)) i2), by rw [List.length_take]; omega⟩
    rw [← List.take_append_drop i x] at h
    exact gapB_front h
/-- internal/bytealg.MaxLen holds an int. -/
def MaxIn (w : World) : Prop := ∃ m, w.cell? ⟨0, 0, none⟩ = some (.int .i64 m)
theorem MaxIn.keep {w w' : World} (h : MaxIn w) (hb : Below w.heap.size w w') : MaxIn w' := by
  obtain ⟨m, h⟩ := h
  exact ⟨m, (hb.cell (World.block_lt_of_cell? _ _ h)).trans h⟩
theorem trim_blank (y : List UInt8) (hy : y.length ≤ 100000) (h : Lib.trimS y [32, 9] = []) (w : World) :
    Calls Tryd.prog 68 #[.string (bytesOf y), .string ⟨#[32, 9]⟩] w fun e w' => e = .returned (.string ⟨#[]⟩) ∧ Below w.heap.size w w' := by
  refine (Any.strings_Trim_laid Tryd.lays160 (by kernel_rfl) (bytesOf y) ⟨#[32, 9]⟩ w (by rw [← size_list]; simp [bytesOf]; omega) (by decide) (ascii_of_all (by decide))).mono fun e w' ⟨he, hw⟩ => ⟨?_, hw⟩
  rw [he]
  have : Lib.trimS (bytesOf y).data.toList (⟨#[32, 9]⟩ : ByteArray).data.toList = [] := by simpa [bytesOf] using h
  rw [this]
set_option maxRecDepth 100000 in
set_option maxHeartbeats 2000000 in
theorem gaps_yes (s : ByteArray) (hs : s.size ≤ 8000) (hg : Np.gapB false s.data.toList = true) (w : World) (hM : MaxIn w) :
    Calls Tryd.prog 30 #[.string s] w fun e w' => e = .returned (.bool true) ∧ Below w.heap.size w w' := by
  have HM := Lib.hid hM
  clear hM
  have HP := Lib.hid (pieces_gap _ s rfl hg)
  have HN := Lib.hid (Lib.splitB_all nlB (by decide) 0 _ s rfl)
  have HC : Hid (Lib.countB s nlB ≤ s.size) := Lib.hid (Lib.countB_le nlB (by decide) s.size s (Nat.le_refl _))
  have HSp := Lib.hid (fun (w : World) (m : Int) (hm : w.cell? ⟨0, 0, none⟩ = some (.int .i64 m)) => Tryd.strings_Split s nlB m w (by omega) hm (by decide))
  generalize Lib.countB s nlB = n at *
  generalize Lib.splitB nlB 0 n s = ps at *
  have hn := HC.out
  clear hg
  go_enter Tryd.func30, Tryd.ntmps30
  go_wp2_with fail
  obtain ⟨m, hm⟩ := HM.out
  refine (HSp.out w m hm).mono ?_
  rintro e w1 ⟨rfl, rfl⟩
  clear hm
  have hcell : ∀ (j : Nat) x, ps[j]? = some x → (w.alloc (.cells (ps.map Value.string).toArray 9)).cell? ⟨w.heap.size, 0 + j, none⟩ = some (.string x) := Lib.pieces_cell w ps 9
  have hb1 : Below w.heap.size w (w.alloc (.cells (ps.map Value.string).toArray 9)) := (Below.refl _ w).alloc (Nat.le_refl _) _
  have hw1 : w.heap.size < (w.alloc (.cells (ps.map Value.string).toArray 9)).heap.size := Lib.pieces_block _ _
  generalize w.alloc (.cells (ps.map Value.string).toArray 9) = w1 at *
  have HCE := Lib.hid hcell
  have HB1 := Lib.hid hb1
  clear hcell hb1
  go_wp2_with fail
  go_loopw [11] (fun i wr => ∃ k : Nat, k ≤ n + 1 ∧ i = .int .i64 k ∧ Hid (Below w1.heap.size w1 wr)) (fun i _ => n + 1 - (intOf i).toNat)
  case atStart => exact ⟨0, Nat.zero_le _, rfl, Lib.hid (Below.refl _ _)⟩
  case round =>
    obtain ⟨k, hk, rfl, HB⟩ := hrel
    by_cases hlt : k < n + 1
    · have hlt2 : k < ps.length := by rw [HN.out]; exact hlt
      have a0 := HCE.out k ps[k] (List.getElem?_eq_getElem hlt2)
      rw [← HB.out.cell (p := ⟨w.heap.size, 0 + k, none⟩) hw1] at a0
      have hx := HP.out ps[k] (List.getElem_mem hlt2)
      generalize ps[k] = x at *
      rw [Nat.zero_add] at a0
      obtain ⟨⟨x1, x2⟩, x3⟩ := hx
      have HT := Lib.hid (cut_plain x1 x2)
      clear x1 x2
      have hkI : (k : Int) < (n : Int) + 1 := by omega
      have hk0 : (0 : Int) ≤ (k : Int) := by omega
      have HMr := Lib.hid (HM.out.keep (HB1.out.trans (HB.out.mono (by omega))))
      go_wp2_with fail
      obtain ⟨m, hm⟩ := HMr.out
      refine (Tryd.strings_Cut x ⟨#[35]⟩ m _ (by omega) hm).mono ?_
      rintro e w2 ⟨rfl, q, rfl⟩
      clear hm
      have e35 : (⟨#[35]⟩ : ByteArray).data.toList = [35] := rfl
      rw [e35]
      have HY := Lib.hid HT.out.1
      have hyl := HT.out.2
      rw [size_list] at hyl
      generalize Lib.cut x.data.toList [35] = cu at *
      obtain ⟨y, y2, y3⟩ := cu
      simp only at HY hyl ⊢
      go_wp2_with fail
      refine (trim_blank y (by omega) HY.out _).mono ?_
      rintro e w3 ⟨rfl, hb3⟩
      have HB3 := Lib.hid (HB.out.trans (((below_drewN (Below.refl _ _) q).trans (hb3.mono (by simp))).mono HB.out.size))
      clear hb3
      go_wp2_with fail
      go_roundw
      case rel => exact ⟨k + 1, by omega, by go_num, HB3⟩
      case measure => simp [intOf] <;> omega
    · have hkI : ¬ ((k : Int) < (n : Int) + 1) := by omega
      go_wp2_with fail
      go_ret
      exact ⟨rfl, HB1.out.trans (HB.out.mono (by omega))⟩
theorem lex_fail {s : List UInt8} {m : List Np.Tok} {f : Int} {p : Nat} (h : Np.lex s = (m, f, p)) (h0 : f ≠ 0) : m = [] ∧ p ≤ s.length := by
  unfold Np.lex at h
  split at h
  · cases h; exact ⟨rfl, Nat.zero_le _⟩
  · split at h
    · cases h; exact absurd rfl h0
    · rename_i he
      have h4 := (Np.lex_place s.length s 0 0 (Nat.le_refl _) (by omega)).2.2.2.1 he
      simp only [Prod.mk.injEq] at h
      obtain ⟨rfl, h⟩ := h
      rw [h] at h4
      obtain ⟨c, hc, _⟩ := h4.2.2
      have := (List.getElem?_eq_some_iff.1 hc).1
      exact ⟨rfl, by simp at this; omega⟩
theorem drop_at {l : List Np.Tok} {k : Nat} (h : k < l.length) : l.drop k = l[k] :: l.drop (k + 1) := List.drop_eq_getElem_cons h
theorem has_pre {s t : List UInt8} (h : t <+: s) : Lib.hasPrefix s t = true := by
  unfold Lib.hasPrefix; exact List.isPrefixOf_iff_prefix.2 h
set_option maxRecDepth 100000 in
set_option maxHeartbeats 4000000 in
theorem cover_walk (s : ByteArray) (hs : s.size ≤ 140737488355328) (w : World) (hE : ErrIn w) (hM : MaxIn w) :
    Calls Tryd.prog 10 #[.string s] w fun e w' => e = .returned (.bool true) ∧ Below w.heap.size w w' := by
  have HE := Lib.hid hE
  have HM := Lib.hid hM
  clear hE hM
  go_enter Tryd.func10, Tryd.ntmps10
  go_wp2_with fail
  refine (head03_any _ HE.out).mono ?_
  rintro e w0 ⟨rfl, hb0⟩
  have HB0 := Lib.hid hb0
  clear hb0
  go_wp2_with fail
  refine (lex_any s hs _ (HE.out.keep HB0.out)).mono ?_
  generalize hla : Np.lex s.data.toList = ra
  have HLA := Lib.hid hla
  clear hla
  obtain ⟨l, ea, qa⟩ := ra
  rintro e w1 ⟨v1, rfl, hx1, hb1⟩
  have HX1 := Lib.hid hx1
  have HB1 := Lib.hid (HB0.out.trans (hb1.mono HB0.out.size))
  obtain ⟨A1, c1, rfl, hc1, hl1, _⟩ := hx1
  clear hb1
  simp only at hc1 hl1 ⊢
  by_cases h0 : ea = 0
  · subst h0
    have h8 := (Np.lex_ok HLA.out).1
    rw [size_list] at h8
    have h2 : l.length ≤ 2000 := by
      have := (Np.lex_place _ s.data.toList 0 0 (Nat.le_refl _) (by omega)).2.2.1
      rw [(Np.lex_ok HLA.out).2] at this; simpa using this
    have h2I : (l.length : Int) ≤ 2000 := by omega
    have hq0 : qa = 0 := by
      have := HLA.out
      unfold Np.lex at this
      rw [if_neg (by rw [size_list]; omega), (Np.lex_ok HLA.out).2] at this
      simpa using this.symm
    subst hq0
    go_wp2_with fail
    go_loopw [7, 38] (fun vl i wr => ∃ (k last : Nat), k ≤ l.length ∧ last ≤ s.size ∧ i = .int .i64 k ∧ vl = .int .i64 last ∧ Hid (Np.Cov s.data.toList last (l.drop k)) ∧ Hid (Below w1.heap.size w1 wr)) (fun _ i _ => l.length - (intOf i).toNat)
    case atStart => exact ⟨0, 0, Nat.zero_le _, Nat.zero_le _, rfl, rfl, Lib.hid (by rw [List.drop_zero]; exact Np.lex_covers HLA.out), Lib.hid (Below.refl _ _)⟩
    case round =>
      obtain ⟨k, last, hk, hla, rfl, rfl, HC, HB⟩ := hrel
      have HMr := Lib.hid (HM.out.keep (HB1.out.trans (HB.out.mono HB1.out.size)))
      by_cases hlt : k < l.length
      · obtain ⟨b, o, c', hA, hb, a0, a1, a2, a3⟩ := tok_at (HX1.out.keep rtok_kept HB.out) (List.getElem?_eq_getElem hlt)
        simp only [Value.slice.injEq] at hA
        obtain ⟨rfl, _, rfl⟩ := hA
        have hcv := HC.out
        rw [drop_at hlt] at hcv
        generalize l[k] = t at *
        obtain ⟨k1, k2, k3, k4, a, hp, p1, p2, p3, p4, p5, p6, p7⟩ := hcv
        rw [size_list] at p2 p6
        have HTI : Hid (TokIn t) := Lib.hid ⟨k1, k2, k3, k4⟩
        obtain ⟨tk, tx, tn, tp⟩ := t
        simp only at hp k1 k2 k3 k4 a0 a1 a2 a3
        subst hp
        generalize hT : (⟨tk, tx, tn, (a : Int)⟩ : Np.Tok) = T at *
        have HT := Lib.hid hT
        clear hT
        have hkI : (k : Int) < (l.length : Int) := by omega
        have hk0 : (0 : Int) ≤ (k : Int) := by omega
        have q1 : (last : Int) ≤ (a : Int) := by omega
        have q2 : (a : Int) ≤ (s.size : Int) := by omega
        have HNE := Lib.hid p3
        have HPR := Lib.hid (has_pre p4)
        have HGP := Lib.hid p5
        have HNX := Lib.hid p7
        have hne := bytesOf_nil p3
        have htl : (bytesOf (Np.textOf T)).size = (Np.textOf T).length := by rw [← size_list]; simp [bytesOf]
        clear p3 p4 p5 p7 HC
        have hsz := HB.out.size
        go_wp2_with fail
        have hct := text_any T HTI.out (wr.alloc (.cells #[.int .i64 tk, .string (bytesOf tx), .int .i64 tn, .int .i64 a] 58))
        rw [← HT.out] at hct
        simp only [tokVal] at hct
        rw [HT.out] at hct
        refine hct.mono ?_
        clear hct
        rintro e w5 ⟨rfl, hb5⟩
        have c53 : w5.cell? ⟨wr.heap.size, 3, none⟩ = some (.int .i64 a) := by
          rw [hb5.cell (p := ⟨wr.heap.size, 3, none⟩) (by simp)]
          exact World.cell?_alloc_new wr _ _ 3
        simp only [World.size_alloc] at hb5
        have HB5 : Hid (Below w1.heap.size w1 w5) := Lib.hid ((HB.out.alloc HB.out.size _).trans (hb5.mono (by omega)))
        have HM5 := Lib.hid (HM.out.keep (HB1.out.trans (HB5.out.mono HB1.out.size)))
        clear hb5
        go_wp2_with fail
        refine (Tryd.strings_HasPrefix _ _ _).mono ?_
        rintro e w6 ⟨rfl, rfl⟩
        have hpr : Lib.hasPrefix (s.extract a s.size).data.toList (bytesOf (Np.textOf T)).data.toList = true := by
          rw [ext_from]; simpa [bytesOf] using HPR.out
        rw [hpr]
        clear hpr
        go_wp2_with fail
        refine (gaps_yes _ (by rw [ByteArray.size_extract]; omega) (by rw [ext_list]; exact HGP.out) _ HM5.out).mono ?_
        rintro e w7 ⟨rfl, hb7⟩
        have c73 : w7.cell? ⟨wr.heap.size, 3, none⟩ = some (.int .i64 a) := by
          rw [hb7.cell (p := ⟨wr.heap.size, 3, none⟩) (World.block_lt_of_cell? _ _ c53)]; exact c53
        have HB7 := Lib.hid (HB5.out.trans (hb7.mono HB5.out.size))
        clear hb7 c53
        have hwr : IntKind.i64.wrap ((a : Int) + ((bytesOf (Np.textOf T)).size : Int)) = (a : Int) + ((bytesOf (Np.textOf T)).size : Int) := IntWalk.i64_in _ (by omega)
        go_wp2_with fail
        go_roundw
        case rel => exact ⟨k + 1, a + (Np.textOf T).length, by omega, by omega, by go_num, by go_num, HNX, HB7⟩
        case measure => simp [intOf] <;> omega
      · have : k = l.length := by omega
        subst this
        have hcv := HC.out
        rw [List.drop_length] at hcv
        obtain ⟨g1, g2⟩ := hcv
        have HG1 := Lib.hid g1
        have hlI : (last : Int) ≤ (s.size : Int) := by omega
        clear g1 g2 HC
        go_wp2_with fail
        refine (gaps_yes _ (by rw [ByteArray.size_extract]; omega) (by rw [ext_from]; exact HG1.out) _ HMr.out).mono ?_
        rintro e w4 ⟨rfl, hb4⟩
        have HB4 := Lib.hid (HB1.out.trans ((HB.out.trans (hb4.mono HB.out.size)).mono HB1.out.size))
        clear hb4
        go_wp2_with fail
        all_goals
          go_ret
          exact ⟨rfl, HB4.out⟩
  · have e0 : (ea != 0) = true := by simpa using h0
    obtain ⟨rfl, f2⟩ := lex_fail HLA.out h0
    rw [size_list] at f2
    have f2I : (qa : Int) ≤ (s.size : Int) := by omega
    have f2J : (0 : Int) ≤ (qa : Int) := by omega
    clear h0
    simp only [List.length_nil]
    go_wp2_with fail
    all_goals
      go_ret
      exact ⟨rfl, HB1.out⟩
end Go.Proofs.YtafpbfmhhpcalaaDoor
