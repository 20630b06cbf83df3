/- The parser's datum: contracts. -/
import Derived.Test.YtnbolgdccdnjeaaGreatDoorPar7
namespace Go.Proofs.YtnbolgdccdnjeaaGreatDoor
open Go.RowKit Go.MapKept
theorem run_lookup_int (w : World) (r : Nat) (es : Array MapEntry) (c : Nat) (hr : w.heap[r]? = some (.map es c)) (n : Int) (j : Nat) (v : Value) (hf : Instr.findNow (.int .i64) (.int .i64 n) es.toList 0 = some (some (j, v))) : (Instr.lookup 99 (.map (some r)) (.int .i64 n) false).run Tryz.prog w = .ok v w := by
  have ht := Tryz.underlying99
  have hki := Tryz.underlying3
  have hc : ∀ b, (Instr.checkKey b 10000 3 (.int .i64 n)).run Tryz.prog w = .ok () w := fun b => MapKept.run_checkKey (k := .int .i64 n) hki (by simp [MapKept.IsKey]) b 9999
  simp [Instr.lookup, run_underlying ht, MapKept.run_getObj_map hr, hc, MapKept.run_findKey hki hf, Result.andThen]
theorem cell2_new (w : World) (o : Obj) (cs : Array Value) (T : TypeId) (j : Nat) : ((w.alloc o).alloc (.cells cs T)).cell? ⟨w.heap.size + 1, j, none⟩ = cs[j]? := by
  have := World.cell?_alloc_new (w.alloc o) cs T j
  rwa [World.size_alloc] at this
theorem cell1_new (w : World) (o : Obj) (cs : Array Value) (T : TypeId) (j : Nat) : ((w.alloc (.cells cs T)).alloc o).cell? ⟨w.heap.size, j, none⟩ = cs[j]? := by
  rw [Below.cell (B := w.heap.size + 1) (w := w.alloc (.cells cs T)) ((Below.refl _ _).alloc (by simp) _) (p := ⟨w.heap.size, j, none⟩) (by simp)]
  exact World.cell?_alloc_new w cs T j
set_option maxRecDepth 100000 in
set_option maxHeartbeats 8000000 in
theorem datum1 (pb dm bx b4 b6 b7 : Nat) (tv : Value) (toks : List Np.Tok) (size : Int) (i : Nat) (nm : ByteArray) (life : Int) (A : Option Addr) (n c : Nat) (hn : n ≤ 8) (w : World) (hP : PIn w pb tv toks size i) (c3 : w.cell? ⟨pb, 3, none⟩ = some (.map (some dm))) (hD : DataAt pb dm bx b4 b6 b7 w) :
    Calls Tryz.prog 168 #[.pointer (some ⟨pb, 0, none⟩), .agg #[.string nm, .int .i64 1, .int .i64 life, .slice A n c]] w (ReadOut datV pb toks size w (Np.datumR 1 n (toks.drop i))) := by
  have hpb := hP.lt
  have HP := Lib.hid hP
  have HD := Lib.hid hD
  have hok := hP.tok i
  obtain ⟨t, ht⟩ : ∃ t, Np.peekT (toks.drop i) = t := ⟨_, rfl⟩
  rw [ht] at hok
  have hq := fun W (h : PIn W pb tv toks size i) => peek0_is pb tv toks size i W h t ht
  obtain ⟨s, hs⟩ : ∃ s, s = bytesOf t.text := ⟨_, rfl⟩
  rw [← hs] at hq
  have HQ := Lib.hid hq
  have HT := Lib.hid ht
  have HS := Lib.hid hs
  have HOK := Lib.hid hok
  have hal : Below w.heap.size w ((w.alloc (.cells #[.string nm, .int .i64 1, .int .i64 life, .slice A n c] 39)).alloc (.cells #[.string ⟨#[]⟩, .int .i64 0, .int .i64 0] 43)) := ((Below.refl _ _).alloc (Nat.le_refl _) _).alloc (by simp) _
  have HAL := Lib.hid hal
  have HPA := Lib.hid (HP.out.keep hal hpb)
  clear hP hD hok ht hs hq hal
  have eg : ∀ args w, (callFunc 83 args).run Tryz.prog w = .ok (.enter 83 args) w := fun args w => by simp [go_sem]
  go_enter Tryz.func168, Tryz.ntmps168
  go_wp2_with fail
  refine (HQ.out _ HPA.out).mono ?_
  rintro e w1 ⟨rfl, hb1⟩
  have q1 := (hb1.cell (p := ⟨w.heap.size, 1, none⟩) (by simp; omega)).trans (cell1_new w _ _ _ 1)
  have q3 := (hb1.cell (p := ⟨w.heap.size, 3, none⟩) (by simp; omega)).trans (cell1_new w _ _ _ 3)
  have p0 := (hb1.cell (p := ⟨w.heap.size + 1, 0, none⟩) (by simp)).trans (cell2_new w _ _ _ 0)
  have p1 := (hb1.cell (p := ⟨w.heap.size + 1, 1, none⟩) (by simp)).trans (cell2_new w _ _ _ 1)
  have p2 := (hb1.cell (p := ⟨w.heap.size + 1, 2, none⟩) (by simp)).trans (cell2_new w _ _ _ 2)
  simp only [List.getElem?_toArray, List.getElem?_cons_zero, List.getElem?_cons_succ] at q1 q3 p0 p1 p2
  have hs1 : w.heap.size + 1 + 1 ≤ w1.heap.size := by have := hb1.size; simp at this; omega
  have hl0 : w.heap.size < w1.heap.size := by omega
  have hl1 : w.heap.size + 1 < w1.heap.size := by omega
  have pf : ∀ j, w1.frozen? ⟨w.heap.size + 1, j, none⟩ = false := fun j => (hb1.frozen (p := ⟨w.heap.size + 1, j, none⟩) (by simp)).trans (by simp [go_sem])
  have HB1 := Lib.hid (HAL.out.trans (hb1.mono HAL.out.size))
  clear hb1
  by_cases hk : t.kind = 1
  · have hk1 : (t.kind == 1) = true := by simpa using hk
    have hk2 : (t.kind != 2) = true := by rw [hk]; rfl
    obtain ⟨h0, hh⟩ := head_bytes HS.out (HOK.out.1 hk)
    have HK1 := Lib.hid hk1
    have HKN : Hid ((t.kind == 2) = false) := Lib.hid (by rw [hk]; rfl)
    clear hk
    by_cases h34 : t.text.head? = some 34
    · have h1 : ((s[0].toNat : Int) == 34) = true := by
        rw [hh] at h34
        rw [Option.some.inj h34]; rfl
      have HH : Hid ((t.text.head? == some 34) = true) := Lib.hid (by rw [h34]; rfl)
      clear hh h34
      have HF : Hid (Np.firstR 1 (toks.drop i) = false) := Lib.hid (by simp only [Np.firstR, Np.isAny, Np.isTxt, Np.isNum, HT.out, HKN.out]; rfl)
      go_wp2_with fail
      refine (check_yes pb tv toks size i 10 _ (HP.out.keep (HB1.out.alloc HB1.out.size _) hpb)).mono ?_
      rintro e w3 ⟨rfl, hb3⟩
      have HB3 := Lib.hid ((HB1.out.alloc HB1.out.size _).trans (hb3.mono (by have := HB1.out.size; simp; omega)))
      clear hb3
      go_wp2_with fail
      exact ⟨rfl, read_err (i := i) (by unfold Np.datumR; rw [HF.out]; rfl) HP.out.le (Mv.of_below HB3.out HP.out.c1)⟩
    · have h1 : ((s[0].toNat : Int) == 34) = false := by
        rw [beq_eq_false_iff_ne]; intro e
        apply h34
        have h3 : s[0] = 34 := by apply UInt8.toNat_inj.1; have : s[0].toNat = 34 := by omega
                                  rw [this]; rfl
        rw [hh, h3]
      have HH : Hid ((t.text.head? == some 34) = false) := Lib.hid (by simpa using h34)
      clear hh h34
      have HF : Hid (Np.firstR 1 (toks.drop i) = false) := Lib.hid (by simp only [Np.firstR, Np.isAny, Np.isTxt, Np.isNum, HT.out, HKN.out]; rfl)
      go_wp2_with fail
      refine (check_yes pb tv toks size i 10 _ (HP.out.keep (HB1.out.alloc HB1.out.size _) hpb)).mono ?_
      rintro e w3 ⟨rfl, hb3⟩
      have HB3 := Lib.hid ((HB1.out.alloc HB1.out.size _).trans (hb3.mono (by have := HB1.out.size; simp; omega)))
      clear hb3
      go_wp2_with fail
      exact ⟨rfl, read_err (i := i) (by unfold Np.datumR; rw [HF.out]; rfl) HP.out.le (Mv.of_below HB3.out HP.out.c1)⟩
  · have hk1 : (t.kind == 1) = false := by simpa using hk
    have HK1 := Lib.hid hk1
    by_cases hk2' : t.kind = 2
    · have hk2 : (t.kind != 2) = false := by simpa using hk2'
      have HKN : Hid ((t.kind == 2) = true) := Lib.hid (by simpa using hk2')
      clear hk hk2'
      have HF : Hid (Np.firstR 1 (toks.drop i) = true) := Lib.hid (by simp only [Np.firstR, Np.isAny, Np.isTxt, Np.isNum, HT.out, HKN.out]; rfl)
      by_cases hmx : 8 ≤ n
      · have hm1 : decide ((8 : Int) ≤ (n : Int)) = true := by simpa using (by omega : (8 : Int) ≤ (n : Int))
        have HMX : Hid (Np.mostR 1 ≤ n) := Lib.hid (by simpa [Np.mostR] using hmx)
        clear hmx
        go_wp2_with fail
        refine (check_no _ _ _).mono ?_
        rintro e w3 ⟨rfl, rfl⟩
        go_wp2_with fail
        refine (check_yes pb tv toks size i 2 _ (HP.out.keep (HB1.out.alloc HB1.out.size _) hpb)).mono ?_
        rintro e w3 ⟨rfl, hb3⟩
        have HB3 := Lib.hid ((HB1.out.alloc HB1.out.size _).trans (hb3.mono (by have := HB1.out.size; simp; omega)))
        clear hb3
        go_wp2_with fail
        exact ⟨rfl, read_err (i := i) (by unfold Np.datumR; rw [HF.out, if_neg (by simp), if_pos HMX.out]) HP.out.le (Mv.of_below HB3.out HP.out.c1)⟩
      · have hm1 : decide ((8 : Int) ≤ (n : Int)) = false := by simpa using (by omega : ¬ (8 : Int) ≤ (n : Int))
        have HMX : Hid (¬ Np.mostR 1 ≤ n) := Lib.hid (by simpa [Np.mostR] using hmx)
        clear hmx
        go_wp2_with fail
        refine (check_no _ _ _).mono ?_
        rintro e w3 ⟨rfl, rfl⟩
        go_wp2_with fail
        refine (check_no _ _ _).mono ?_
        rintro e w3 ⟨rfl, rfl⟩
        go_wp2_with fail
        have hb2 : Below w.heap.size w (w1.alloc (.cells #[.int .i64 t.kind, .string s, .int .i64 t.n, .int .i64 t.pos] 66)) := HB1.out.alloc HB1.out.size _
        have hbT : Below w1.heap.size w1 (w1.alloc (.cells #[.int .i64 t.kind, .string s, .int .i64 t.n, .int .i64 t.pos] 66)) := (Below.refl _ _).alloc (Nat.le_refl _) _
        replace q1 := (hbT.cell (p := ⟨w.heap.size, 1, none⟩) hl0).trans q1
        replace p0 := (hbT.cell (p := ⟨w.heap.size + 1, 0, none⟩) hl1).trans p0
        replace p1 := (hbT.cell (p := ⟨w.heap.size + 1, 1, none⟩) hl1).trans p1
        replace p2 := (hbT.cell (p := ⟨w.heap.size + 1, 2, none⟩) hl1).trans p2
        replace pf := fun (j : Nat) => (hbT.frozen (p := ⟨w.heap.size + 1, j, none⟩) hl1).trans (pf j)
        have hz2 : w.heap.size + 1 < (w1.alloc (.cells #[.int .i64 t.kind, .string s, .int .i64 t.n, .int .i64 t.pos] 66)).heap.size := by simp; omega
        clear q3 hbT
        generalize w1.alloc (.cells #[.int .i64 t.kind, .string s, .int .i64 t.n, .int .i64 t.pos] 66) = w2 at *
        have c3' := (hb2.cell (p := ⟨pb, 3, none⟩) hpb).trans c3
        have hb2d : Below w.heap.size w w2.drew := hb2.drew
        have HDD := Lib.hid (HD.out.below hb2d)
        have hlk : (Instr.lookup 99 (.map (some dm)) (.int .i64 1) false).run Tryz.prog w2.drew = .ok (.func (.func 83) #[] #[.pointer (some ⟨bx, 0, none⟩)]) w2.drew := run_lookup_int w2.drew dm _ 7 HDD.out.map 1 0 _ (dataMap_find bx b4 b6 b7 0 (by omega))
        have HB2 := Lib.hid hb2
        have HBD := Lib.hid hb2d
        clear hb2 hb2d
        go_still_tail 7, (by kernel_rfl)
        change wpList Tryz.prog _ _ _ _ w2.drew
        go_wp2_with fail
        clear hlk
        have hw2d : pb < w2.drew.heap.size := by simp; omega
        refine (addr_any pb bx tv toks size i w2.drew (HP.out.keep HBD.out hpb) HDD.out.box).mono ?_
        intro e w3 ho
        have HO := Lib.hid ho
        clear ho
        cases hr : Np.addrR (toks.drop i) with
        | err er r' =>
          have h := HO.out
          rw [hr] at h
          obtain ⟨rfl, hm⟩ := h
          have HM := Lib.hid hm
          have HR := Lib.hid hr
          clear hm hr
          go_wp2_with fail
          refine ⟨rfl, ?_⟩
          have hdr : Np.datumR 1 n (toks.drop i) = .err er r' := by unfold Np.datumR; rw [HF.out, if_neg (by simp), if_neg HMX.out]; exact HR.out
          rw [hdr]
          exact ⟨rfl, HM.out.after HBD.out⟩
        | ok d r' =>
          have h := HO.out
          rw [hr] at h
          obtain ⟨rfl, i', hi', rfl, hm'⟩ := h
          have HR := Lib.hid hr
          have hs3 := hm'.os
          simp only [World.size_drew] at hs3
          have p0' := (hm'.cell (p := ⟨w.heap.size + 1, 0, none⟩) (by simp; omega) (noX_not _) (by dsimp only; omega)).trans (by simpa using p0)
          have p1' := (hm'.cell (p := ⟨w.heap.size + 1, 1, none⟩) (by simp; omega) (noX_not _) (by dsimp only; omega)).trans (by simpa using p1)
          have p2' := (hm'.cell (p := ⟨w.heap.size + 1, 2, none⟩) (by simp; omega) (noX_not _) (by dsimp only; omega)).trans (by simpa using p2)
          have pf' : ∀ j, w3.frozen? ⟨w.heap.size + 1, j, none⟩ = false := fun j => (hm'.frozen (p := ⟨w.heap.size + 1, j, none⟩) (by simp; omega) (noX_not _)).trans (by simpa using pf j)
          have hl3 : w.heap.size + 1 < w3.heap.size := by omega
          have HM := Lib.hid hm'
          have HI' := Lib.hid hi'
          clear hm' hr hi' p0 p1 p2 pf q1 hs3
          simp only [datV]
          go_wp2_with fail
          refine bodyPost_ret (v := datV d) ?_ rfl ?_
          · simp [results, Tryz.results168, go_sem, datV, p0', p1', p2']
          · have hdr : Np.datumR 1 n (toks.drop i) = .ok d (toks.drop i') := by unfold Np.datumR; rw [HF.out, if_neg (by simp), if_neg HMX.out]; exact HR.out
            rw [hdr]
            exact ⟨rfl, i', HI'.out, rfl, (((Mv.after HBD.out HM.out).setNew (p := ⟨w.heap.size + 1, 0, none⟩) (by simp) _).setNew (p := ⟨w.heap.size + 1, 1, none⟩) (by simp) _).setNew (p := ⟨w.heap.size + 1, 2, none⟩) (by simp) _⟩
    · have hk2 : (t.kind != 2) = true := by simpa using hk2'
      have HKN : Hid ((t.kind == 2) = false) := Lib.hid (by simpa using hk2')
      clear hk hk2'
      have HF : Hid (Np.firstR 1 (toks.drop i) = false) := Lib.hid (by simp only [Np.firstR, Np.isAny, Np.isTxt, Np.isNum, HT.out, HKN.out]; rfl)
      go_wp2_with fail
      refine (check_yes pb tv toks size i 10 _ (HP.out.keep (HB1.out.alloc HB1.out.size _) hpb)).mono ?_
      rintro e w3 ⟨rfl, hb3⟩
      have HB3 := Lib.hid ((HB1.out.alloc HB1.out.size _).trans (hb3.mono (by have := HB1.out.size; simp; omega)))
      clear hb3
      go_wp2_with fail
      exact ⟨rfl, read_err (i := i) (by unfold Np.datumR; rw [HF.out]; rfl) HP.out.le (Mv.of_below HB3.out HP.out.c1)⟩
set_option maxRecDepth 100000 in
set_option maxHeartbeats 8000000 in
theorem datum2 (pb dm bx b4 b6 b7 : Nat) (tv : Value) (toks : List Np.Tok) (size : Int) (i : Nat) (nm : ByteArray) (life : Int) (A : Option Addr) (n c : Nat) (hn : n ≤ 8) (w : World) (hP : PIn w pb tv toks size i) (c3 : w.cell? ⟨pb, 3, none⟩ = some (.map (some dm))) (hD : DataAt pb dm bx b4 b6 b7 w) :
    Calls Tryz.prog 168 #[.pointer (some ⟨pb, 0, none⟩), .agg #[.string nm, .int .i64 2, .int .i64 life, .slice A n c]] w (ReadOut datV pb toks size w (Np.datumR 2 n (toks.drop i))) := by
  have hpb := hP.lt
  have HP := Lib.hid hP
  have HD := Lib.hid hD
  have hok := hP.tok i
  obtain ⟨t, ht⟩ : ∃ t, Np.peekT (toks.drop i) = t := ⟨_, rfl⟩
  rw [ht] at hok
  have hq := fun W (h : PIn W pb tv toks size i) => peek0_is pb tv toks size i W h t ht
  obtain ⟨s, hs⟩ : ∃ s, s = bytesOf t.text := ⟨_, rfl⟩
  rw [← hs] at hq
  have HQ := Lib.hid hq
  have HT := Lib.hid ht
  have HS := Lib.hid hs
  have HOK := Lib.hid hok
  have hal : Below w.heap.size w ((w.alloc (.cells #[.string nm, .int .i64 2, .int .i64 life, .slice A n c] 39)).alloc (.cells #[.string ⟨#[]⟩, .int .i64 0, .int .i64 0] 43)) := ((Below.refl _ _).alloc (Nat.le_refl _) _).alloc (by simp) _
  have HAL := Lib.hid hal
  have HPA := Lib.hid (HP.out.keep hal hpb)
  clear hP hD hok ht hs hq hal
  have eg : ∀ args w, (callFunc 86 args).run Tryz.prog w = .ok (.enter 86 args) w := fun args w => by simp [go_sem]
  go_enter Tryz.func168, Tryz.ntmps168
  go_wp2_with fail
  refine (HQ.out _ HPA.out).mono ?_
  rintro e w1 ⟨rfl, hb1⟩
  have q1 := (hb1.cell (p := ⟨w.heap.size, 1, none⟩) (by simp; omega)).trans (cell1_new w _ _ _ 1)
  have q3 := (hb1.cell (p := ⟨w.heap.size, 3, none⟩) (by simp; omega)).trans (cell1_new w _ _ _ 3)
  have p0 := (hb1.cell (p := ⟨w.heap.size + 1, 0, none⟩) (by simp)).trans (cell2_new w _ _ _ 0)
  have p1 := (hb1.cell (p := ⟨w.heap.size + 1, 1, none⟩) (by simp)).trans (cell2_new w _ _ _ 1)
  have p2 := (hb1.cell (p := ⟨w.heap.size + 1, 2, none⟩) (by simp)).trans (cell2_new w _ _ _ 2)
  simp only [List.getElem?_toArray, List.getElem?_cons_zero, List.getElem?_cons_succ] at q1 q3 p0 p1 p2
  have hs1 : w.heap.size + 1 + 1 ≤ w1.heap.size := by have := hb1.size; simp at this; omega
  have hl0 : w.heap.size < w1.heap.size := by omega
  have hl1 : w.heap.size + 1 < w1.heap.size := by omega
  have pf : ∀ j, w1.frozen? ⟨w.heap.size + 1, j, none⟩ = false := fun j => (hb1.frozen (p := ⟨w.heap.size + 1, j, none⟩) (by simp)).trans (by simp [go_sem])
  have HB1 := Lib.hid (HAL.out.trans (hb1.mono HAL.out.size))
  clear hb1
  by_cases hk : t.kind = 1
  · have hk1 : (t.kind == 1) = true := by simpa using hk
    have hk2 : (t.kind != 2) = true := by rw [hk]; rfl
    obtain ⟨h0, hh⟩ := head_bytes HS.out (HOK.out.1 hk)
    have HK1 := Lib.hid hk1
    have HKN : Hid ((t.kind == 2) = false) := Lib.hid (by rw [hk]; rfl)
    clear hk
    by_cases h34 : t.text.head? = some 34
    · have h1 : ((s[0].toNat : Int) == 34) = true := by
        rw [hh] at h34
        rw [Option.some.inj h34]; rfl
      have HH : Hid ((t.text.head? == some 34) = true) := Lib.hid (by rw [h34]; rfl)
      clear hh h34
      have HF : Hid (Np.firstR 2 (toks.drop i) = false) := Lib.hid (by simp only [Np.firstR, Np.isAny, Np.isTxt, Np.isNum, HT.out, HK1.out, HH.out]; rfl)
      go_wp2_with fail
      refine (check_yes pb tv toks size i 10 _ (HP.out.keep (HB1.out.alloc HB1.out.size _) hpb)).mono ?_
      rintro e w3 ⟨rfl, hb3⟩
      have HB3 := Lib.hid ((HB1.out.alloc HB1.out.size _).trans (hb3.mono (by have := HB1.out.size; simp; omega)))
      clear hb3
      go_wp2_with fail
      exact ⟨rfl, read_err (i := i) (by unfold Np.datumR; rw [HF.out]; rfl) HP.out.le (Mv.of_below HB3.out HP.out.c1)⟩
    · have h1 : ((s[0].toNat : Int) == 34) = false := by
        rw [beq_eq_false_iff_ne]; intro e
        apply h34
        have h3 : s[0] = 34 := by apply UInt8.toNat_inj.1; have : s[0].toNat = 34 := by omega
                                  rw [this]; rfl
        rw [hh, h3]
      have HH : Hid ((t.text.head? == some 34) = false) := Lib.hid (by simpa using h34)
      clear hh h34
      have HF : Hid (Np.firstR 2 (toks.drop i) = true) := Lib.hid (by simp only [Np.firstR, Np.isAny, Np.isTxt, Np.isNum, HT.out, HK1.out, HH.out]; rfl)
      by_cases hmx : 8 ≤ n
      · have hm1 : decide ((8 : Int) ≤ (n : Int)) = true := by simpa using (by omega : (8 : Int) ≤ (n : Int))
        have HMX : Hid (Np.mostR 2 ≤ n) := Lib.hid (by simpa [Np.mostR] using hmx)
        clear hmx
        go_wp2_with fail
        refine (check_no _ _ _).mono ?_
        rintro e w3 ⟨rfl, rfl⟩
        go_wp2_with fail
        refine (check_yes pb tv toks size i 2 _ (HP.out.keep (HB1.out.alloc HB1.out.size _) hpb)).mono ?_
        rintro e w3 ⟨rfl, hb3⟩
        have HB3 := Lib.hid ((HB1.out.alloc HB1.out.size _).trans (hb3.mono (by have := HB1.out.size; simp; omega)))
        clear hb3
        go_wp2_with fail
        exact ⟨rfl, read_err (i := i) (by unfold Np.datumR; rw [HF.out, if_neg (by simp), if_pos HMX.out]) HP.out.le (Mv.of_below HB3.out HP.out.c1)⟩
      · have hm1 : decide ((8 : Int) ≤ (n : Int)) = false := by simpa using (by omega : ¬ (8 : Int) ≤ (n : Int))
        have HMX : Hid (¬ Np.mostR 2 ≤ n) := Lib.hid (by simpa [Np.mostR] using hmx)
        clear hmx
        go_wp2_with fail
        refine (check_no _ _ _).mono ?_
        rintro e w3 ⟨rfl, rfl⟩
        go_wp2_with fail
        refine (check_no _ _ _).mono ?_
        rintro e w3 ⟨rfl, rfl⟩
        go_wp2_with fail
        have hb2 : Below w.heap.size w (w1.alloc (.cells #[.int .i64 t.kind, .string s, .int .i64 t.n, .int .i64 t.pos] 66)) := HB1.out.alloc HB1.out.size _
        have hbT : Below w1.heap.size w1 (w1.alloc (.cells #[.int .i64 t.kind, .string s, .int .i64 t.n, .int .i64 t.pos] 66)) := (Below.refl _ _).alloc (Nat.le_refl _) _
        replace q1 := (hbT.cell (p := ⟨w.heap.size, 1, none⟩) hl0).trans q1
        replace p0 := (hbT.cell (p := ⟨w.heap.size + 1, 0, none⟩) hl1).trans p0
        replace p1 := (hbT.cell (p := ⟨w.heap.size + 1, 1, none⟩) hl1).trans p1
        replace p2 := (hbT.cell (p := ⟨w.heap.size + 1, 2, none⟩) hl1).trans p2
        replace pf := fun (j : Nat) => (hbT.frozen (p := ⟨w.heap.size + 1, j, none⟩) hl1).trans (pf j)
        have hz2 : w.heap.size + 1 < (w1.alloc (.cells #[.int .i64 t.kind, .string s, .int .i64 t.n, .int .i64 t.pos] 66)).heap.size := by simp; omega
        clear q3 hbT
        generalize w1.alloc (.cells #[.int .i64 t.kind, .string s, .int .i64 t.n, .int .i64 t.pos] 66) = w2 at *
        have c3' := (hb2.cell (p := ⟨pb, 3, none⟩) hpb).trans c3
        have hb2d : Below w.heap.size w w2.drew := hb2.drew
        have HDD := Lib.hid (HD.out.below hb2d)
        have hlk : (Instr.lookup 99 (.map (some dm)) (.int .i64 2) false).run Tryz.prog w2.drew = .ok (.func (.func 86) #[] #[.pointer (some ⟨bx, 0, none⟩)]) w2.drew := run_lookup_int w2.drew dm _ 7 HDD.out.map 2 1 _ (dataMap_find bx b4 b6 b7 1 (by omega))
        have HB2 := Lib.hid hb2
        have HBD := Lib.hid hb2d
        clear hb2 hb2d
        go_still_tail 7, (by kernel_rfl)
        change wpList Tryz.prog _ _ _ _ w2.drew
        go_wp2_with fail
        clear hlk
        have hw2d : pb < w2.drew.heap.size := by simp; omega
        refine (host_any pb bx tv toks size i w2.drew (HP.out.keep HBD.out hpb) HDD.out.box).mono ?_
        intro e w3 ho
        have HO := Lib.hid ho
        clear ho
        cases hr : Np.hostR (toks.drop i) with
        | err er r' =>
          have h := HO.out
          rw [hr] at h
          obtain ⟨rfl, hm⟩ := h
          have HM := Lib.hid hm
          have HR := Lib.hid hr
          clear hm hr
          go_wp2_with fail
          refine ⟨rfl, ?_⟩
          have hdr : Np.datumR 2 n (toks.drop i) = .err er r' := by unfold Np.datumR; rw [HF.out, if_neg (by simp), if_neg HMX.out]; exact HR.out
          rw [hdr]
          exact ⟨rfl, HM.out.after HBD.out⟩
        | ok d r' =>
          have h := HO.out
          rw [hr] at h
          obtain ⟨rfl, i', hi', rfl, hm'⟩ := h
          have HR := Lib.hid hr
          have hs3 := hm'.os
          simp only [World.size_drew] at hs3
          have p0' := (hm'.cell (p := ⟨w.heap.size + 1, 0, none⟩) (by simp; omega) (noX_not _) (by dsimp only; omega)).trans (by simpa using p0)
          have p1' := (hm'.cell (p := ⟨w.heap.size + 1, 1, none⟩) (by simp; omega) (noX_not _) (by dsimp only; omega)).trans (by simpa using p1)
          have p2' := (hm'.cell (p := ⟨w.heap.size + 1, 2, none⟩) (by simp; omega) (noX_not _) (by dsimp only; omega)).trans (by simpa using p2)
          have pf' : ∀ j, w3.frozen? ⟨w.heap.size + 1, j, none⟩ = false := fun j => (hm'.frozen (p := ⟨w.heap.size + 1, j, none⟩) (by simp; omega) (noX_not _)).trans (by simpa using pf j)
          have hl3 : w.heap.size + 1 < w3.heap.size := by omega
          have HM := Lib.hid hm'
          have HI' := Lib.hid hi'
          clear hm' hr hi' p0 p1 p2 pf q1 hs3
          simp only [datV]
          go_wp2_with fail
          refine bodyPost_ret (v := datV d) ?_ rfl ?_
          · simp [results, Tryz.results168, go_sem, datV, p0', p1', p2']
          · have hdr : Np.datumR 2 n (toks.drop i) = .ok d (toks.drop i') := by unfold Np.datumR; rw [HF.out, if_neg (by simp), if_neg HMX.out]; exact HR.out
            rw [hdr]
            exact ⟨rfl, i', HI'.out, rfl, (((Mv.after HBD.out HM.out).setNew (p := ⟨w.heap.size + 1, 0, none⟩) (by simp) _).setNew (p := ⟨w.heap.size + 1, 1, none⟩) (by simp) _).setNew (p := ⟨w.heap.size + 1, 2, none⟩) (by simp) _⟩
  · have hk1 : (t.kind == 1) = false := by simpa using hk
    have HK1 := Lib.hid hk1
    by_cases hk2' : t.kind = 2
    · have hk2 : (t.kind != 2) = false := by simpa using hk2'
      have HKN : Hid ((t.kind == 2) = true) := Lib.hid (by simpa using hk2')
      clear hk hk2'
      have HF : Hid (Np.firstR 2 (toks.drop i) = false) := Lib.hid (by simp only [Np.firstR, Np.isAny, Np.isTxt, Np.isNum, HT.out, HK1.out]; rfl)
      go_wp2_with fail
      refine (check_yes pb tv toks size i 10 _ (HP.out.keep (HB1.out.alloc HB1.out.size _) hpb)).mono ?_
      rintro e w3 ⟨rfl, hb3⟩
      have HB3 := Lib.hid ((HB1.out.alloc HB1.out.size _).trans (hb3.mono (by have := HB1.out.size; simp; omega)))
      clear hb3
      go_wp2_with fail
      exact ⟨rfl, read_err (i := i) (by unfold Np.datumR; rw [HF.out]; rfl) HP.out.le (Mv.of_below HB3.out HP.out.c1)⟩
    · have hk2 : (t.kind != 2) = true := by simpa using hk2'
      have HKN : Hid ((t.kind == 2) = false) := Lib.hid (by simpa using hk2')
      clear hk hk2'
      have HF : Hid (Np.firstR 2 (toks.drop i) = false) := Lib.hid (by simp only [Np.firstR, Np.isAny, Np.isTxt, Np.isNum, HT.out, HK1.out]; rfl)
      go_wp2_with fail
      refine (check_yes pb tv toks size i 10 _ (HP.out.keep (HB1.out.alloc HB1.out.size _) hpb)).mono ?_
      rintro e w3 ⟨rfl, hb3⟩
      have HB3 := Lib.hid ((HB1.out.alloc HB1.out.size _).trans (hb3.mono (by have := HB1.out.size; simp; omega)))
      clear hb3
      go_wp2_with fail
      exact ⟨rfl, read_err (i := i) (by unfold Np.datumR; rw [HF.out]; rfl) HP.out.le (Mv.of_below HB3.out HP.out.c1)⟩
set_option maxRecDepth 100000 in
set_option maxHeartbeats 8000000 in
theorem datum3 (pb dm bx b4 b6 b7 : Nat) (tv : Value) (toks : List Np.Tok) (size : Int) (i : Nat) (nm : ByteArray) (life : Int) (A : Option Addr) (n c : Nat) (hn : n ≤ 8) (w : World) (hP : PIn w pb tv toks size i) (c3 : w.cell? ⟨pb, 3, none⟩ = some (.map (some dm))) (hD : DataAt pb dm bx b4 b6 b7 w) :
    Calls Tryz.prog 168 #[.pointer (some ⟨pb, 0, none⟩), .agg #[.string nm, .int .i64 3, .int .i64 life, .slice A n c]] w (ReadOut datV pb toks size w (Np.datumR 3 n (toks.drop i))) := by
  have hpb := hP.lt
  have HP := Lib.hid hP
  have HD := Lib.hid hD
  have hok := hP.tok i
  obtain ⟨t, ht⟩ : ∃ t, Np.peekT (toks.drop i) = t := ⟨_, rfl⟩
  rw [ht] at hok
  have hq := fun W (h : PIn W pb tv toks size i) => peek0_is pb tv toks size i W h t ht
  obtain ⟨s, hs⟩ : ∃ s, s = bytesOf t.text := ⟨_, rfl⟩
  rw [← hs] at hq
  have HQ := Lib.hid hq
  have HT := Lib.hid ht
  have HS := Lib.hid hs
  have HOK := Lib.hid hok
  have hal : Below w.heap.size w ((w.alloc (.cells #[.string nm, .int .i64 3, .int .i64 life, .slice A n c] 39)).alloc (.cells #[.string ⟨#[]⟩, .int .i64 0, .int .i64 0] 43)) := ((Below.refl _ _).alloc (Nat.le_refl _) _).alloc (by simp) _
  have HAL := Lib.hid hal
  have HPA := Lib.hid (HP.out.keep hal hpb)
  clear hP hD hok ht hs hq hal
  have eg : ∀ args w, (callFunc 86 args).run Tryz.prog w = .ok (.enter 86 args) w := fun args w => by simp [go_sem]
  go_enter Tryz.func168, Tryz.ntmps168
  go_wp2_with fail
  refine (HQ.out _ HPA.out).mono ?_
  rintro e w1 ⟨rfl, hb1⟩
  have q1 := (hb1.cell (p := ⟨w.heap.size, 1, none⟩) (by simp; omega)).trans (cell1_new w _ _ _ 1)
  have q3 := (hb1.cell (p := ⟨w.heap.size, 3, none⟩) (by simp; omega)).trans (cell1_new w _ _ _ 3)
  have p0 := (hb1.cell (p := ⟨w.heap.size + 1, 0, none⟩) (by simp)).trans (cell2_new w _ _ _ 0)
  have p1 := (hb1.cell (p := ⟨w.heap.size + 1, 1, none⟩) (by simp)).trans (cell2_new w _ _ _ 1)
  have p2 := (hb1.cell (p := ⟨w.heap.size + 1, 2, none⟩) (by simp)).trans (cell2_new w _ _ _ 2)
  simp only [List.getElem?_toArray, List.getElem?_cons_zero, List.getElem?_cons_succ] at q1 q3 p0 p1 p2
  have hs1 : w.heap.size + 1 + 1 ≤ w1.heap.size := by have := hb1.size; simp at this; omega
  have hl0 : w.heap.size < w1.heap.size := by omega
  have hl1 : w.heap.size + 1 < w1.heap.size := by omega
  have pf : ∀ j, w1.frozen? ⟨w.heap.size + 1, j, none⟩ = false := fun j => (hb1.frozen (p := ⟨w.heap.size + 1, j, none⟩) (by simp)).trans (by simp [go_sem])
  have HB1 := Lib.hid (HAL.out.trans (hb1.mono HAL.out.size))
  clear hb1
  by_cases hk : t.kind = 1
  · have hk1 : (t.kind == 1) = true := by simpa using hk
    have hk2 : (t.kind != 2) = true := by rw [hk]; rfl
    obtain ⟨h0, hh⟩ := head_bytes HS.out (HOK.out.1 hk)
    have HK1 := Lib.hid hk1
    have HKN : Hid ((t.kind == 2) = false) := Lib.hid (by rw [hk]; rfl)
    clear hk
    by_cases h34 : t.text.head? = some 34
    · have h1 : ((s[0].toNat : Int) == 34) = true := by
        rw [hh] at h34
        rw [Option.some.inj h34]; rfl
      have HH : Hid ((t.text.head? == some 34) = true) := Lib.hid (by rw [h34]; rfl)
      clear hh h34
      have HF : Hid (Np.firstR 3 (toks.drop i) = false) := Lib.hid (by simp only [Np.firstR, Np.isAny, Np.isTxt, Np.isNum, HT.out, HK1.out, HH.out]; rfl)
      go_wp2_with fail
      refine (check_yes pb tv toks size i 10 _ (HP.out.keep (HB1.out.alloc HB1.out.size _) hpb)).mono ?_
      rintro e w3 ⟨rfl, hb3⟩
      have HB3 := Lib.hid ((HB1.out.alloc HB1.out.size _).trans (hb3.mono (by have := HB1.out.size; simp; omega)))
      clear hb3
      go_wp2_with fail
      exact ⟨rfl, read_err (i := i) (by unfold Np.datumR; rw [HF.out]; rfl) HP.out.le (Mv.of_below HB3.out HP.out.c1)⟩
    · have h1 : ((s[0].toNat : Int) == 34) = false := by
        rw [beq_eq_false_iff_ne]; intro e
        apply h34
        have h3 : s[0] = 34 := by apply UInt8.toNat_inj.1; have : s[0].toNat = 34 := by omega
                                  rw [this]; rfl
        rw [hh, h3]
      have HH : Hid ((t.text.head? == some 34) = false) := Lib.hid (by simpa using h34)
      clear hh h34
      have HF : Hid (Np.firstR 3 (toks.drop i) = true) := Lib.hid (by simp only [Np.firstR, Np.isAny, Np.isTxt, Np.isNum, HT.out, HK1.out, HH.out]; rfl)
      by_cases hmx : 1 ≤ n
      · have hm1 : decide ((1 : Int) ≤ (n : Int)) = true := by simpa using (by omega : (1 : Int) ≤ (n : Int))
        have HMX : Hid (Np.mostR 3 ≤ n) := Lib.hid (by simpa [Np.mostR] using hmx)
        clear hmx
        go_wp2_with fail
        refine (check_no _ _ _).mono ?_
        rintro e w3 ⟨rfl, rfl⟩
        go_wp2_with fail
        refine (check_yes pb tv toks size i 2 _ (HP.out.keep (HB1.out.alloc HB1.out.size _) hpb)).mono ?_
        rintro e w3 ⟨rfl, hb3⟩
        have HB3 := Lib.hid ((HB1.out.alloc HB1.out.size _).trans (hb3.mono (by have := HB1.out.size; simp; omega)))
        clear hb3
        go_wp2_with fail
        exact ⟨rfl, read_err (i := i) (by unfold Np.datumR; rw [HF.out, if_neg (by simp), if_pos HMX.out]) HP.out.le (Mv.of_below HB3.out HP.out.c1)⟩
      · have hm1 : decide ((1 : Int) ≤ (n : Int)) = false := by simpa using (by omega : ¬ (1 : Int) ≤ (n : Int))
        have HMX : Hid (¬ Np.mostR 3 ≤ n) := Lib.hid (by simpa [Np.mostR] using hmx)
        clear hmx
        go_wp2_with fail
        refine (check_no _ _ _).mono ?_
        rintro e w3 ⟨rfl, rfl⟩
        go_wp2_with fail
        refine (check_no _ _ _).mono ?_
        rintro e w3 ⟨rfl, rfl⟩
        go_wp2_with fail
        have hb2 : Below w.heap.size w (w1.alloc (.cells #[.int .i64 t.kind, .string s, .int .i64 t.n, .int .i64 t.pos] 66)) := HB1.out.alloc HB1.out.size _
        have hbT : Below w1.heap.size w1 (w1.alloc (.cells #[.int .i64 t.kind, .string s, .int .i64 t.n, .int .i64 t.pos] 66)) := (Below.refl _ _).alloc (Nat.le_refl _) _
        replace q1 := (hbT.cell (p := ⟨w.heap.size, 1, none⟩) hl0).trans q1
        replace p0 := (hbT.cell (p := ⟨w.heap.size + 1, 0, none⟩) hl1).trans p0
        replace p1 := (hbT.cell (p := ⟨w.heap.size + 1, 1, none⟩) hl1).trans p1
        replace p2 := (hbT.cell (p := ⟨w.heap.size + 1, 2, none⟩) hl1).trans p2
        replace pf := fun (j : Nat) => (hbT.frozen (p := ⟨w.heap.size + 1, j, none⟩) hl1).trans (pf j)
        have hz2 : w.heap.size + 1 < (w1.alloc (.cells #[.int .i64 t.kind, .string s, .int .i64 t.n, .int .i64 t.pos] 66)).heap.size := by simp; omega
        clear q3 hbT
        generalize w1.alloc (.cells #[.int .i64 t.kind, .string s, .int .i64 t.n, .int .i64 t.pos] 66) = w2 at *
        have c3' := (hb2.cell (p := ⟨pb, 3, none⟩) hpb).trans c3
        have hb2d : Below w.heap.size w w2.drew := hb2.drew
        have HDD := Lib.hid (HD.out.below hb2d)
        have hlk : (Instr.lookup 99 (.map (some dm)) (.int .i64 3) false).run Tryz.prog w2.drew = .ok (.func (.func 86) #[] #[.pointer (some ⟨bx, 0, none⟩)]) w2.drew := run_lookup_int w2.drew dm _ 7 HDD.out.map 3 2 _ (dataMap_find bx b4 b6 b7 2 (by omega))
        have HB2 := Lib.hid hb2
        have HBD := Lib.hid hb2d
        clear hb2 hb2d
        go_still_tail 7, (by kernel_rfl)
        change wpList Tryz.prog _ _ _ _ w2.drew
        go_wp2_with fail
        clear hlk
        have hw2d : pb < w2.drew.heap.size := by simp; omega
        refine (host_any pb bx tv toks size i w2.drew (HP.out.keep HBD.out hpb) HDD.out.box).mono ?_
        intro e w3 ho
        have HO := Lib.hid ho
        clear ho
        cases hr : Np.hostR (toks.drop i) with
        | err er r' =>
          have h := HO.out
          rw [hr] at h
          obtain ⟨rfl, hm⟩ := h
          have HM := Lib.hid hm
          have HR := Lib.hid hr
          clear hm hr
          go_wp2_with fail
          refine ⟨rfl, ?_⟩
          have hdr : Np.datumR 3 n (toks.drop i) = .err er r' := by unfold Np.datumR; rw [HF.out, if_neg (by simp), if_neg HMX.out]; exact HR.out
          rw [hdr]
          exact ⟨rfl, HM.out.after HBD.out⟩
        | ok d r' =>
          have h := HO.out
          rw [hr] at h
          obtain ⟨rfl, i', hi', rfl, hm'⟩ := h
          have HR := Lib.hid hr
          have hs3 := hm'.os
          simp only [World.size_drew] at hs3
          have p0' := (hm'.cell (p := ⟨w.heap.size + 1, 0, none⟩) (by simp; omega) (noX_not _) (by dsimp only; omega)).trans (by simpa using p0)
          have p1' := (hm'.cell (p := ⟨w.heap.size + 1, 1, none⟩) (by simp; omega) (noX_not _) (by dsimp only; omega)).trans (by simpa using p1)
          have p2' := (hm'.cell (p := ⟨w.heap.size + 1, 2, none⟩) (by simp; omega) (noX_not _) (by dsimp only; omega)).trans (by simpa using p2)
          have pf' : ∀ j, w3.frozen? ⟨w.heap.size + 1, j, none⟩ = false := fun j => (hm'.frozen (p := ⟨w.heap.size + 1, j, none⟩) (by simp; omega) (noX_not _)).trans (by simpa using pf j)
          have hl3 : w.heap.size + 1 < w3.heap.size := by omega
          have HM := Lib.hid hm'
          have HI' := Lib.hid hi'
          clear hm' hr hi' p0 p1 p2 pf q1 hs3
          simp only [datV]
          go_wp2_with fail
          refine bodyPost_ret (v := datV d) ?_ rfl ?_
          · simp [results, Tryz.results168, go_sem, datV, p0', p1', p2']
          · have hdr : Np.datumR 3 n (toks.drop i) = .ok d (toks.drop i') := by unfold Np.datumR; rw [HF.out, if_neg (by simp), if_neg HMX.out]; exact HR.out
            rw [hdr]
            exact ⟨rfl, i', HI'.out, rfl, (((Mv.after HBD.out HM.out).setNew (p := ⟨w.heap.size + 1, 0, none⟩) (by simp) _).setNew (p := ⟨w.heap.size + 1, 1, none⟩) (by simp) _).setNew (p := ⟨w.heap.size + 1, 2, none⟩) (by simp) _⟩
  · have hk1 : (t.kind == 1) = false := by simpa using hk
    have HK1 := Lib.hid hk1
    by_cases hk2' : t.kind = 2
    · have hk2 : (t.kind != 2) = false := by simpa using hk2'
      have HKN : Hid ((t.kind == 2) = true) := Lib.hid (by simpa using hk2')
      clear hk hk2'
      have HF : Hid (Np.firstR 3 (toks.drop i) = false) := Lib.hid (by simp only [Np.firstR, Np.isAny, Np.isTxt, Np.isNum, HT.out, HK1.out]; rfl)
      go_wp2_with fail
      refine (check_yes pb tv toks size i 10 _ (HP.out.keep (HB1.out.alloc HB1.out.size _) hpb)).mono ?_
      rintro e w3 ⟨rfl, hb3⟩
      have HB3 := Lib.hid ((HB1.out.alloc HB1.out.size _).trans (hb3.mono (by have := HB1.out.size; simp; omega)))
      clear hb3
      go_wp2_with fail
      exact ⟨rfl, read_err (i := i) (by unfold Np.datumR; rw [HF.out]; rfl) HP.out.le (Mv.of_below HB3.out HP.out.c1)⟩
    · have hk2 : (t.kind != 2) = true := by simpa using hk2'
      have HKN : Hid ((t.kind == 2) = false) := Lib.hid (by simpa using hk2')
      clear hk hk2'
      have HF : Hid (Np.firstR 3 (toks.drop i) = false) := Lib.hid (by simp only [Np.firstR, Np.isAny, Np.isTxt, Np.isNum, HT.out, HK1.out]; rfl)
      go_wp2_with fail
      refine (check_yes pb tv toks size i 10 _ (HP.out.keep (HB1.out.alloc HB1.out.size _) hpb)).mono ?_
      rintro e w3 ⟨rfl, hb3⟩
      have HB3 := Lib.hid ((HB1.out.alloc HB1.out.size _).trans (hb3.mono (by have := HB1.out.size; simp; omega)))
      clear hb3
      go_wp2_with fail
      exact ⟨rfl, read_err (i := i) (by unfold Np.datumR; rw [HF.out]; rfl) HP.out.le (Mv.of_below HB3.out HP.out.c1)⟩
set_option maxRecDepth 100000 in
set_option maxHeartbeats 8000000 in
theorem datum4 (pb dm bx b4 b6 b7 : Nat) (tv : Value) (toks : List Np.Tok) (size : Int) (i : Nat) (nm : ByteArray) (life : Int) (A : Option Addr) (n c : Nat) (hn : n ≤ 8) (w : World) (hP : PIn w pb tv toks size i) (c3 : w.cell? ⟨pb, 3, none⟩ = some (.map (some dm))) (hD : DataAt pb dm bx b4 b6 b7 w) :
    Calls Tryz.prog 168 #[.pointer (some ⟨pb, 0, none⟩), .agg #[.string nm, .int .i64 4, .int .i64 life, .slice A n c]] w (ReadOut datV pb toks size w (Np.datumR 4 n (toks.drop i))) := by
  have hpb := hP.lt
  have HP := Lib.hid hP
  have HD := Lib.hid hD
  have hok := hP.tok i
  obtain ⟨t, ht⟩ : ∃ t, Np.peekT (toks.drop i) = t := ⟨_, rfl⟩
  rw [ht] at hok
  have hq := fun W (h : PIn W pb tv toks size i) => peek0_is pb tv toks size i W h t ht
  obtain ⟨s, hs⟩ : ∃ s, s = bytesOf t.text := ⟨_, rfl⟩
  rw [← hs] at hq
  have HQ := Lib.hid hq
  have HT := Lib.hid ht
  have HS := Lib.hid hs
  have HOK := Lib.hid hok
  have hal : Below w.heap.size w ((w.alloc (.cells #[.string nm, .int .i64 4, .int .i64 life, .slice A n c] 39)).alloc (.cells #[.string ⟨#[]⟩, .int .i64 0, .int .i64 0] 43)) := ((Below.refl _ _).alloc (Nat.le_refl _) _).alloc (by simp) _
  have HAL := Lib.hid hal
  have HPA := Lib.hid (HP.out.keep hal hpb)
  clear hP hD hok ht hs hq hal
  have eg : ∀ args w, (callFunc 94 args).run Tryz.prog w = .ok (.enter 94 args) w := fun args w => by simp [go_sem]
  go_enter Tryz.func168, Tryz.ntmps168
  go_wp2_with fail
  refine (HQ.out _ HPA.out).mono ?_
  rintro e w1 ⟨rfl, hb1⟩
  have q1 := (hb1.cell (p := ⟨w.heap.size, 1, none⟩) (by simp; omega)).trans (cell1_new w _ _ _ 1)
  have q3 := (hb1.cell (p := ⟨w.heap.size, 3, none⟩) (by simp; omega)).trans (cell1_new w _ _ _ 3)
  have p0 := (hb1.cell (p := ⟨w.heap.size + 1, 0, none⟩) (by simp)).trans (cell2_new w _ _ _ 0)
  have p1 := (hb1.cell (p := ⟨w.heap.size + 1, 1, none⟩) (by simp)).trans (cell2_new w _ _ _ 1)
  have p2 := (hb1.cell (p := ⟨w.heap.size + 1, 2, none⟩) (by simp)).trans (cell2_new w _ _ _ 2)
  simp only [List.getElem?_toArray, List.getElem?_cons_zero, List.getElem?_cons_succ] at q1 q3 p0 p1 p2
  have hs1 : w.heap.size + 1 + 1 ≤ w1.heap.size := by have := hb1.size; simp at this; omega
  have hl0 : w.heap.size < w1.heap.size := by omega
  have hl1 : w.heap.size + 1 < w1.heap.size := by omega
  have pf : ∀ j, w1.frozen? ⟨w.heap.size + 1, j, none⟩ = false := fun j => (hb1.frozen (p := ⟨w.heap.size + 1, j, none⟩) (by simp)).trans (by simp [go_sem])
  have HB1 := Lib.hid (HAL.out.trans (hb1.mono HAL.out.size))
  clear hb1
  by_cases hk : t.kind = 1
  · have hk1 : (t.kind == 1) = true := by simpa using hk
    have hk2 : (t.kind != 2) = true := by rw [hk]; rfl
    obtain ⟨h0, hh⟩ := head_bytes HS.out (HOK.out.1 hk)
    have HK1 := Lib.hid hk1
    have HKN : Hid ((t.kind == 2) = false) := Lib.hid (by rw [hk]; rfl)
    clear hk
    by_cases h34 : t.text.head? = some 34
    · have h1 : ((s[0].toNat : Int) == 34) = true := by
        rw [hh] at h34
        rw [Option.some.inj h34]; rfl
      have HH : Hid ((t.text.head? == some 34) = true) := Lib.hid (by rw [h34]; rfl)
      clear hh h34
      have HF : Hid (Np.firstR 4 (toks.drop i) = false) := Lib.hid (by simp only [Np.firstR, Np.isAny, Np.isTxt, Np.isNum, HT.out, HKN.out]; rfl)
      go_wp2_with fail
      refine (check_yes pb tv toks size i 10 _ (HP.out.keep (HB1.out.alloc HB1.out.size _) hpb)).mono ?_
      rintro e w3 ⟨rfl, hb3⟩
      have HB3 := Lib.hid ((HB1.out.alloc HB1.out.size _).trans (hb3.mono (by have := HB1.out.size; simp; omega)))
      clear hb3
      go_wp2_with fail
      exact ⟨rfl, read_err (i := i) (by unfold Np.datumR; rw [HF.out]; rfl) HP.out.le (Mv.of_below HB3.out HP.out.c1)⟩
    · have h1 : ((s[0].toNat : Int) == 34) = false := by
        rw [beq_eq_false_iff_ne]; intro e
        apply h34
        have h3 : s[0] = 34 := by apply UInt8.toNat_inj.1; have : s[0].toNat = 34 := by omega
                                  rw [this]; rfl
        rw [hh, h3]
      have HH : Hid ((t.text.head? == some 34) = false) := Lib.hid (by simpa using h34)
      clear hh h34
      have HF : Hid (Np.firstR 4 (toks.drop i) = false) := Lib.hid (by simp only [Np.firstR, Np.isAny, Np.isTxt, Np.isNum, HT.out, HKN.out]; rfl)
      go_wp2_with fail
      refine (check_yes pb tv toks size i 10 _ (HP.out.keep (HB1.out.alloc HB1.out.size _) hpb)).mono ?_
      rintro e w3 ⟨rfl, hb3⟩
      have HB3 := Lib.hid ((HB1.out.alloc HB1.out.size _).trans (hb3.mono (by have := HB1.out.size; simp; omega)))
      clear hb3
      go_wp2_with fail
      exact ⟨rfl, read_err (i := i) (by unfold Np.datumR; rw [HF.out]; rfl) HP.out.le (Mv.of_below HB3.out HP.out.c1)⟩
  · have hk1 : (t.kind == 1) = false := by simpa using hk
    have HK1 := Lib.hid hk1
    by_cases hk2' : t.kind = 2
    · have hk2 : (t.kind != 2) = false := by simpa using hk2'
      have HKN : Hid ((t.kind == 2) = true) := Lib.hid (by simpa using hk2')
      clear hk hk2'
      have HF : Hid (Np.firstR 4 (toks.drop i) = true) := Lib.hid (by simp only [Np.firstR, Np.isAny, Np.isTxt, Np.isNum, HT.out, HKN.out]; rfl)
      by_cases hmx : 1 ≤ n
      · have hm1 : decide ((1 : Int) ≤ (n : Int)) = true := by simpa using (by omega : (1 : Int) ≤ (n : Int))
        have HMX : Hid (Np.mostR 4 ≤ n) := Lib.hid (by simpa [Np.mostR] using hmx)
        clear hmx
        go_wp2_with fail
        refine (check_no _ _ _).mono ?_
        rintro e w3 ⟨rfl, rfl⟩
        go_wp2_with fail
        refine (check_yes pb tv toks size i 2 _ (HP.out.keep (HB1.out.alloc HB1.out.size _) hpb)).mono ?_
        rintro e w3 ⟨rfl, hb3⟩
        have HB3 := Lib.hid ((HB1.out.alloc HB1.out.size _).trans (hb3.mono (by have := HB1.out.size; simp; omega)))
        clear hb3
        go_wp2_with fail
        exact ⟨rfl, read_err (i := i) (by unfold Np.datumR; rw [HF.out, if_neg (by simp), if_pos HMX.out]) HP.out.le (Mv.of_below HB3.out HP.out.c1)⟩
      · have hm1 : decide ((1 : Int) ≤ (n : Int)) = false := by simpa using (by omega : ¬ (1 : Int) ≤ (n : Int))
        have HMX : Hid (¬ Np.mostR 4 ≤ n) := Lib.hid (by simpa [Np.mostR] using hmx)
        clear hmx
        go_wp2_with fail
        refine (check_no _ _ _).mono ?_
        rintro e w3 ⟨rfl, rfl⟩
        go_wp2_with fail
        refine (check_no _ _ _).mono ?_
        rintro e w3 ⟨rfl, rfl⟩
        go_wp2_with fail
        have hb2 : Below w.heap.size w (w1.alloc (.cells #[.int .i64 t.kind, .string s, .int .i64 t.n, .int .i64 t.pos] 66)) := HB1.out.alloc HB1.out.size _
        have hbT : Below w1.heap.size w1 (w1.alloc (.cells #[.int .i64 t.kind, .string s, .int .i64 t.n, .int .i64 t.pos] 66)) := (Below.refl _ _).alloc (Nat.le_refl _) _
        replace q1 := (hbT.cell (p := ⟨w.heap.size, 1, none⟩) hl0).trans q1
        replace p0 := (hbT.cell (p := ⟨w.heap.size + 1, 0, none⟩) hl1).trans p0
        replace p1 := (hbT.cell (p := ⟨w.heap.size + 1, 1, none⟩) hl1).trans p1
        replace p2 := (hbT.cell (p := ⟨w.heap.size + 1, 2, none⟩) hl1).trans p2
        replace pf := fun (j : Nat) => (hbT.frozen (p := ⟨w.heap.size + 1, j, none⟩) hl1).trans (pf j)
        have hz2 : w.heap.size + 1 < (w1.alloc (.cells #[.int .i64 t.kind, .string s, .int .i64 t.n, .int .i64 t.pos] 66)).heap.size := by simp; omega
        clear q3 hbT
        generalize w1.alloc (.cells #[.int .i64 t.kind, .string s, .int .i64 t.n, .int .i64 t.pos] 66) = w2 at *
        have c3' := (hb2.cell (p := ⟨pb, 3, none⟩) hpb).trans c3
        have hb2d : Below w.heap.size w w2.drew := hb2.drew
        have HDD := Lib.hid (HD.out.below hb2d)
        have hlk : (Instr.lookup 99 (.map (some dm)) (.int .i64 4) false).run Tryz.prog w2.drew = .ok (.func (.func 94) #[] #[.pointer (some ⟨bx, 0, none⟩), .pointer (some ⟨b4, 0, none⟩), .pointer (some ⟨b4 + 1, 0, none⟩)]) w2.drew := run_lookup_int w2.drew dm _ 7 HDD.out.map 4 3 _ (dataMap_find bx b4 b6 b7 3 (by omega))
        have HB2 := Lib.hid hb2
        have HBD := Lib.hid hb2d
        clear hb2 hb2d
        go_still_tail 7, (by kernel_rfl)
        change wpList Tryz.prog _ _ _ _ w2.drew
        go_wp2_with fail
        clear hlk
        have hw2d : pb < w2.drew.heap.size := by simp; omega
        refine (pair_any pb bx b4 (b4 + 1) 4 0 tv toks size i w2.drew (HP.out.keep HBD.out hpb) HDD.out.box HDD.out.t4 HDD.out.u4 (by have := HDD.out.far; omega) (by have := HDD.out.far; omega) (by have := HDD.out.far; omega)).mono ?_
        intro e w3 ho
        have HO := Lib.hid ho
        clear ho
        cases hr : Np.pairR 4 0 (toks.drop i) with
        | err er r' =>
          have h := HO.out
          rw [hr] at h
          obtain ⟨rfl, hm⟩ := h
          have HM := Lib.hid hm
          have HR := Lib.hid hr
          clear hm hr
          go_wp2_with fail
          refine ⟨rfl, ?_⟩
          have hdr : Np.datumR 4 n (toks.drop i) = .err er r' := by unfold Np.datumR; rw [HF.out, if_neg (by simp), if_neg HMX.out]; exact HR.out
          rw [hdr]
          exact ⟨rfl, HM.out.after HBD.out⟩
        | ok d r' =>
          have h := HO.out
          rw [hr] at h
          obtain ⟨rfl, i', hi', rfl, hm'⟩ := h
          have HR := Lib.hid hr
          have hs3 := hm'.os
          simp only [World.size_drew] at hs3
          have p0' := (hm'.cell (p := ⟨w.heap.size + 1, 0, none⟩) (by simp; omega) (noX_not _) (by dsimp only; omega)).trans (by simpa using p0)
          have p1' := (hm'.cell (p := ⟨w.heap.size + 1, 1, none⟩) (by simp; omega) (noX_not _) (by dsimp only; omega)).trans (by simpa using p1)
          have p2' := (hm'.cell (p := ⟨w.heap.size + 1, 2, none⟩) (by simp; omega) (noX_not _) (by dsimp only; omega)).trans (by simpa using p2)
          have pf' : ∀ j, w3.frozen? ⟨w.heap.size + 1, j, none⟩ = false := fun j => (hm'.frozen (p := ⟨w.heap.size + 1, j, none⟩) (by simp; omega) (noX_not _)).trans (by simpa using pf j)
          have hl3 : w.heap.size + 1 < w3.heap.size := by omega
          have HM := Lib.hid hm'
          have HI' := Lib.hid hi'
          clear hm' hr hi' p0 p1 p2 pf q1 hs3
          simp only [datV]
          go_wp2_with fail
          refine bodyPost_ret (v := datV d) ?_ rfl ?_
          · simp [results, Tryz.results168, go_sem, datV, p0', p1', p2']
          · have hdr : Np.datumR 4 n (toks.drop i) = .ok d (toks.drop i') := by unfold Np.datumR; rw [HF.out, if_neg (by simp), if_neg HMX.out]; exact HR.out
            rw [hdr]
            exact ⟨rfl, i', HI'.out, rfl, (((Mv.after HBD.out HM.out).setNew (p := ⟨w.heap.size + 1, 0, none⟩) (by simp) _).setNew (p := ⟨w.heap.size + 1, 1, none⟩) (by simp) _).setNew (p := ⟨w.heap.size + 1, 2, none⟩) (by simp) _⟩
    · have hk2 : (t.kind != 2) = true := by simpa using hk2'
      have HKN : Hid ((t.kind == 2) = false) := Lib.hid (by simpa using hk2')
      clear hk hk2'
      have HF : Hid (Np.firstR 4 (toks.drop i) = false) := Lib.hid (by simp only [Np.firstR, Np.isAny, Np.isTxt, Np.isNum, HT.out, HKN.out]; rfl)
      go_wp2_with fail
      refine (check_yes pb tv toks size i 10 _ (HP.out.keep (HB1.out.alloc HB1.out.size _) hpb)).mono ?_
      rintro e w3 ⟨rfl, hb3⟩
      have HB3 := Lib.hid ((HB1.out.alloc HB1.out.size _).trans (hb3.mono (by have := HB1.out.size; simp; omega)))
      clear hb3
      go_wp2_with fail
      exact ⟨rfl, read_err (i := i) (by unfold Np.datumR; rw [HF.out]; rfl) HP.out.le (Mv.of_below HB3.out HP.out.c1)⟩
set_option maxRecDepth 100000 in
set_option maxHeartbeats 8000000 in
theorem datum5 (pb dm bx b4 b6 b7 : Nat) (tv : Value) (toks : List Np.Tok) (size : Int) (i : Nat) (nm : ByteArray) (life : Int) (A : Option Addr) (n c : Nat) (hn : n ≤ 8) (w : World) (hP : PIn w pb tv toks size i) (c3 : w.cell? ⟨pb, 3, none⟩ = some (.map (some dm))) (hD : DataAt pb dm bx b4 b6 b7 w) :
    Calls Tryz.prog 168 #[.pointer (some ⟨pb, 0, none⟩), .agg #[.string nm, .int .i64 5, .int .i64 life, .slice A n c]] w (ReadOut datV pb toks size w (Np.datumR 5 n (toks.drop i))) := by
  have hpb := hP.lt
  have HP := Lib.hid hP
  have HD := Lib.hid hD
  have hok := hP.tok i
  obtain ⟨t, ht⟩ : ∃ t, Np.peekT (toks.drop i) = t := ⟨_, rfl⟩
  rw [ht] at hok
  have hq := fun W (h : PIn W pb tv toks size i) => peek0_is pb tv toks size i W h t ht
  obtain ⟨s, hs⟩ : ∃ s, s = bytesOf t.text := ⟨_, rfl⟩
  rw [← hs] at hq
  have HQ := Lib.hid hq
  have HT := Lib.hid ht
  have HS := Lib.hid hs
  have HOK := Lib.hid hok
  have hal : Below w.heap.size w ((w.alloc (.cells #[.string nm, .int .i64 5, .int .i64 life, .slice A n c] 39)).alloc (.cells #[.string ⟨#[]⟩, .int .i64 0, .int .i64 0] 43)) := ((Below.refl _ _).alloc (Nat.le_refl _) _).alloc (by simp) _
  have HAL := Lib.hid hal
  have HPA := Lib.hid (HP.out.keep hal hpb)
  clear hP hD hok ht hs hq hal
  have eg : ∀ args w, (callFunc 90 args).run Tryz.prog w = .ok (.enter 90 args) w := fun args w => by simp [go_sem]
  go_enter Tryz.func168, Tryz.ntmps168
  go_wp2_with fail
  refine (HQ.out _ HPA.out).mono ?_
  rintro e w1 ⟨rfl, hb1⟩
  have q1 := (hb1.cell (p := ⟨w.heap.size, 1, none⟩) (by simp; omega)).trans (cell1_new w _ _ _ 1)
  have q3 := (hb1.cell (p := ⟨w.heap.size, 3, none⟩) (by simp; omega)).trans (cell1_new w _ _ _ 3)
  have p0 := (hb1.cell (p := ⟨w.heap.size + 1, 0, none⟩) (by simp)).trans (cell2_new w _ _ _ 0)
  have p1 := (hb1.cell (p := ⟨w.heap.size + 1, 1, none⟩) (by simp)).trans (cell2_new w _ _ _ 1)
  have p2 := (hb1.cell (p := ⟨w.heap.size + 1, 2, none⟩) (by simp)).trans (cell2_new w _ _ _ 2)
  simp only [List.getElem?_toArray, List.getElem?_cons_zero, List.getElem?_cons_succ] at q1 q3 p0 p1 p2
  have hs1 : w.heap.size + 1 + 1 ≤ w1.heap.size := by have := hb1.size; simp at this; omega
  have hl0 : w.heap.size < w1.heap.size := by omega
  have hl1 : w.heap.size + 1 < w1.heap.size := by omega
  have pf : ∀ j, w1.frozen? ⟨w.heap.size + 1, j, none⟩ = false := fun j => (hb1.frozen (p := ⟨w.heap.size + 1, j, none⟩) (by simp)).trans (by simp [go_sem])
  have HB1 := Lib.hid (HAL.out.trans (hb1.mono HAL.out.size))
  clear hb1
  by_cases hk : t.kind = 1
  · have hk1 : (t.kind == 1) = true := by simpa using hk
    have hk2 : (t.kind != 2) = true := by rw [hk]; rfl
    obtain ⟨h0, hh⟩ := head_bytes HS.out (HOK.out.1 hk)
    have HK1 := Lib.hid hk1
    have HKN : Hid ((t.kind == 2) = false) := Lib.hid (by rw [hk]; rfl)
    clear hk
    by_cases h34 : t.text.head? = some 34
    · have h1 : ((s[0].toNat : Int) == 34) = true := by
        rw [hh] at h34
        rw [Option.some.inj h34]; rfl
      have HH : Hid ((t.text.head? == some 34) = true) := Lib.hid (by rw [h34]; rfl)
      clear hh h34
      have HF : Hid (Np.firstR 5 (toks.drop i) = true) := Lib.hid (by simp only [Np.firstR, Np.isAny, Np.isTxt, Np.isNum, HT.out, HK1.out, HH.out]; rfl)
      have HF5 : Hid (Np.isTxt (toks.drop i) = true) := Lib.hid (by simp only [Np.isTxt, HT.out, HK1.out, HH.out]; rfl)
      by_cases hmx : 8 ≤ n
      · have hm1 : decide ((8 : Int) ≤ (n : Int)) = true := by simpa using (by omega : (8 : Int) ≤ (n : Int))
        have HMX : Hid (Np.mostR 5 ≤ n) := Lib.hid (by simpa [Np.mostR] using hmx)
        clear hmx
        go_wp2_with fail
        refine (check_no _ _ _).mono ?_
        rintro e w3 ⟨rfl, rfl⟩
        go_wp2_with fail
        refine (check_yes pb tv toks size i 2 _ (HP.out.keep (HB1.out.alloc HB1.out.size _) hpb)).mono ?_
        rintro e w3 ⟨rfl, hb3⟩
        have HB3 := Lib.hid ((HB1.out.alloc HB1.out.size _).trans (hb3.mono (by have := HB1.out.size; simp; omega)))
        clear hb3
        go_wp2_with fail
        exact ⟨rfl, read_err (i := i) (by unfold Np.datumR; rw [HF.out, if_neg (by simp), if_pos HMX.out]) HP.out.le (Mv.of_below HB3.out HP.out.c1)⟩
      · have hm1 : decide ((8 : Int) ≤ (n : Int)) = false := by simpa using (by omega : ¬ (8 : Int) ≤ (n : Int))
        have HMX : Hid (¬ Np.mostR 5 ≤ n) := Lib.hid (by simpa [Np.mostR] using hmx)
        clear hmx
        go_wp2_with fail
        refine (check_no _ _ _).mono ?_
        rintro e w3 ⟨rfl, rfl⟩
        go_wp2_with fail
        refine (check_no _ _ _).mono ?_
        rintro e w3 ⟨rfl, rfl⟩
        go_wp2_with fail
        have hb2 : Below w.heap.size w (w1.alloc (.cells #[.int .i64 t.kind, .string s, .int .i64 t.n, .int .i64 t.pos] 66)) := HB1.out.alloc HB1.out.size _
        have hbT : Below w1.heap.size w1 (w1.alloc (.cells #[.int .i64 t.kind, .string s, .int .i64 t.n, .int .i64 t.pos] 66)) := (Below.refl _ _).alloc (Nat.le_refl _) _
        replace q1 := (hbT.cell (p := ⟨w.heap.size, 1, none⟩) hl0).trans q1
        replace p0 := (hbT.cell (p := ⟨w.heap.size + 1, 0, none⟩) hl1).trans p0
        replace p1 := (hbT.cell (p := ⟨w.heap.size + 1, 1, none⟩) hl1).trans p1
        replace p2 := (hbT.cell (p := ⟨w.heap.size + 1, 2, none⟩) hl1).trans p2
        replace pf := fun (j : Nat) => (hbT.frozen (p := ⟨w.heap.size + 1, j, none⟩) hl1).trans (pf j)
        have hz2 : w.heap.size + 1 < (w1.alloc (.cells #[.int .i64 t.kind, .string s, .int .i64 t.n, .int .i64 t.pos] 66)).heap.size := by simp; omega
        clear q3 hbT
        generalize w1.alloc (.cells #[.int .i64 t.kind, .string s, .int .i64 t.n, .int .i64 t.pos] 66) = w2 at *
        have c3' := (hb2.cell (p := ⟨pb, 3, none⟩) hpb).trans c3
        have hb2d : Below w.heap.size w w2.drew := hb2.drew
        have HDD := Lib.hid (HD.out.below hb2d)
        have hlk : (Instr.lookup 99 (.map (some dm)) (.int .i64 5) false).run Tryz.prog w2.drew = .ok (.func (.func 90) #[] #[.pointer (some ⟨bx, 0, none⟩)]) w2.drew := run_lookup_int w2.drew dm _ 7 HDD.out.map 5 4 _ (dataMap_find bx b4 b6 b7 4 (by omega))
        have HB2 := Lib.hid hb2
        have HBD := Lib.hid hb2d
        clear hb2 hb2d
        go_still_tail 7, (by kernel_rfl)
        change wpList Tryz.prog _ _ _ _ w2.drew
        go_wp2_with fail
        clear hlk
        have hw2d : pb < w2.drew.heap.size := by simp; omega
        refine (text_any pb bx tv toks size i w2.drew (HP.out.keep HBD.out hpb) HDD.out.box HF5.out).mono ?_
        intro e w3 ho
        have HO := Lib.hid ho
        clear ho
        cases hr : Np.textR (toks.drop i) with
        | err er r' =>
          have h := HO.out
          rw [hr] at h
          obtain ⟨rfl, hm⟩ := h
          have HM := Lib.hid hm
          have HR := Lib.hid hr
          clear hm hr
          go_wp2_with fail
          refine ⟨rfl, ?_⟩
          have hdr : Np.datumR 5 n (toks.drop i) = .err er r' := by unfold Np.datumR; rw [HF.out, if_neg (by simp), if_neg HMX.out]; exact HR.out
          rw [hdr]
          exact ⟨rfl, HM.out.after HBD.out⟩
        | ok d r' =>
          have h := HO.out
          rw [hr] at h
          obtain ⟨rfl, i', hi', rfl, hm'⟩ := h
          have HR := Lib.hid hr
          have hs3 := hm'.os
          simp only [World.size_drew] at hs3
          have p0' := (hm'.cell (p := ⟨w.heap.size + 1, 0, none⟩) (by simp; omega) (noX_not _) (by dsimp only; omega)).trans (by simpa using p0)
          have p1' := (hm'.cell (p := ⟨w.heap.size + 1, 1, none⟩) (by simp; omega) (noX_not _) (by dsimp only; omega)).trans (by simpa using p1)
          have p2' := (hm'.cell (p := ⟨w.heap.size + 1, 2, none⟩) (by simp; omega) (noX_not _) (by dsimp only; omega)).trans (by simpa using p2)
          have pf' : ∀ j, w3.frozen? ⟨w.heap.size + 1, j, none⟩ = false := fun j => (hm'.frozen (p := ⟨w.heap.size + 1, j, none⟩) (by simp; omega) (noX_not _)).trans (by simpa using pf j)
          have hl3 : w.heap.size + 1 < w3.heap.size := by omega
          have HM := Lib.hid hm'
          have HI' := Lib.hid hi'
          clear hm' hr hi' p0 p1 p2 pf q1 hs3
          simp only [datV]
          go_wp2_with fail
          refine bodyPost_ret (v := datV d) ?_ rfl ?_
          · simp [results, Tryz.results168, go_sem, datV, p0', p1', p2']
          · have hdr : Np.datumR 5 n (toks.drop i) = .ok d (toks.drop i') := by unfold Np.datumR; rw [HF.out, if_neg (by simp), if_neg HMX.out]; exact HR.out
            rw [hdr]
            exact ⟨rfl, i', HI'.out, rfl, (((Mv.after HBD.out HM.out).setNew (p := ⟨w.heap.size + 1, 0, none⟩) (by simp) _).setNew (p := ⟨w.heap.size + 1, 1, none⟩) (by simp) _).setNew (p := ⟨w.heap.size + 1, 2, none⟩) (by simp) _⟩
    · have h1 : ((s[0].toNat : Int) == 34) = false := by
        rw [beq_eq_false_iff_ne]; intro e
        apply h34
        have h3 : s[0] = 34 := by apply UInt8.toNat_inj.1; have : s[0].toNat = 34 := by omega
                                  rw [this]; rfl
        rw [hh, h3]
      have HH : Hid ((t.text.head? == some 34) = false) := Lib.hid (by simpa using h34)
      clear hh h34
      have HF : Hid (Np.firstR 5 (toks.drop i) = false) := Lib.hid (by simp only [Np.firstR, Np.isAny, Np.isTxt, Np.isNum, HT.out, HK1.out, HH.out]; rfl)
      go_wp2_with fail
      refine (check_yes pb tv toks size i 10 _ (HP.out.keep (HB1.out.alloc HB1.out.size _) hpb)).mono ?_
      rintro e w3 ⟨rfl, hb3⟩
      have HB3 := Lib.hid ((HB1.out.alloc HB1.out.size _).trans (hb3.mono (by have := HB1.out.size; simp; omega)))
      clear hb3
      go_wp2_with fail
      exact ⟨rfl, read_err (i := i) (by unfold Np.datumR; rw [HF.out]; rfl) HP.out.le (Mv.of_below HB3.out HP.out.c1)⟩
  · have hk1 : (t.kind == 1) = false := by simpa using hk
    have HK1 := Lib.hid hk1
    by_cases hk2' : t.kind = 2
    · have hk2 : (t.kind != 2) = false := by simpa using hk2'
      have HKN : Hid ((t.kind == 2) = true) := Lib.hid (by simpa using hk2')
      clear hk hk2'
      have HF : Hid (Np.firstR 5 (toks.drop i) = false) := Lib.hid (by simp only [Np.firstR, Np.isAny, Np.isTxt, Np.isNum, HT.out, HK1.out]; rfl)
      go_wp2_with fail
      refine (check_yes pb tv toks size i 10 _ (HP.out.keep (HB1.out.alloc HB1.out.size _) hpb)).mono ?_
      rintro e w3 ⟨rfl, hb3⟩
      have HB3 := Lib.hid ((HB1.out.alloc HB1.out.size _).trans (hb3.mono (by have := HB1.out.size; simp; omega)))
      clear hb3
      go_wp2_with fail
      exact ⟨rfl, read_err (i := i) (by unfold Np.datumR; rw [HF.out]; rfl) HP.out.le (Mv.of_below HB3.out HP.out.c1)⟩
    · have hk2 : (t.kind != 2) = true := by simpa using hk2'
      have HKN : Hid ((t.kind == 2) = false) := Lib.hid (by simpa using hk2')
      clear hk hk2'
      have HF : Hid (Np.firstR 5 (toks.drop i) = false) := Lib.hid (by simp only [Np.firstR, Np.isAny, Np.isTxt, Np.isNum, HT.out, HK1.out]; rfl)
      go_wp2_with fail
      refine (check_yes pb tv toks size i 10 _ (HP.out.keep (HB1.out.alloc HB1.out.size _) hpb)).mono ?_
      rintro e w3 ⟨rfl, hb3⟩
      have HB3 := Lib.hid ((HB1.out.alloc HB1.out.size _).trans (hb3.mono (by have := HB1.out.size; simp; omega)))
      clear hb3
      go_wp2_with fail
      exact ⟨rfl, read_err (i := i) (by unfold Np.datumR; rw [HF.out]; rfl) HP.out.le (Mv.of_below HB3.out HP.out.c1)⟩
set_option maxRecDepth 100000 in
set_option maxHeartbeats 8000000 in
theorem datum6 (pb dm bx b4 b6 b7 : Nat) (tv : Value) (toks : List Np.Tok) (size : Int) (i : Nat) (nm : ByteArray) (life : Int) (A : Option Addr) (n c : Nat) (hn : n ≤ 8) (w : World) (hP : PIn w pb tv toks size i) (c3 : w.cell? ⟨pb, 3, none⟩ = some (.map (some dm))) (hD : DataAt pb dm bx b4 b6 b7 w) :
    Calls Tryz.prog 168 #[.pointer (some ⟨pb, 0, none⟩), .agg #[.string nm, .int .i64 6, .int .i64 life, .slice A n c]] w (ReadOut datV pb toks size w (Np.datumR 6 n (toks.drop i))) := by
  have hpb := hP.lt
  have HP := Lib.hid hP
  have HD := Lib.hid hD
  have hok := hP.tok i
  obtain ⟨t, ht⟩ : ∃ t, Np.peekT (toks.drop i) = t := ⟨_, rfl⟩
  rw [ht] at hok
  have hq := fun W (h : PIn W pb tv toks size i) => peek0_is pb tv toks size i W h t ht
  obtain ⟨s, hs⟩ : ∃ s, s = bytesOf t.text := ⟨_, rfl⟩
  rw [← hs] at hq
  have HQ := Lib.hid hq
  have HT := Lib.hid ht
  have HS := Lib.hid hs
  have HOK := Lib.hid hok
  have hal : Below w.heap.size w ((w.alloc (.cells #[.string nm, .int .i64 6, .int .i64 life, .slice A n c] 39)).alloc (.cells #[.string ⟨#[]⟩, .int .i64 0, .int .i64 0] 43)) := ((Below.refl _ _).alloc (Nat.le_refl _) _).alloc (by simp) _
  have HAL := Lib.hid hal
  have HPA := Lib.hid (HP.out.keep hal hpb)
  clear hP hD hok ht hs hq hal
  have eg : ∀ args w, (callFunc 94 args).run Tryz.prog w = .ok (.enter 94 args) w := fun args w => by simp [go_sem]
  go_enter Tryz.func168, Tryz.ntmps168
  go_wp2_with fail
  refine (HQ.out _ HPA.out).mono ?_
  rintro e w1 ⟨rfl, hb1⟩
  have q1 := (hb1.cell (p := ⟨w.heap.size, 1, none⟩) (by simp; omega)).trans (cell1_new w _ _ _ 1)
  have q3 := (hb1.cell (p := ⟨w.heap.size, 3, none⟩) (by simp; omega)).trans (cell1_new w _ _ _ 3)
  have p0 := (hb1.cell (p := ⟨w.heap.size + 1, 0, none⟩) (by simp)).trans (cell2_new w _ _ _ 0)
  have p1 := (hb1.cell (p := ⟨w.heap.size + 1, 1, none⟩) (by simp)).trans (cell2_new w _ _ _ 1)
  have p2 := (hb1.cell (p := ⟨w.heap.size + 1, 2, none⟩) (by simp)).trans (cell2_new w _ _ _ 2)
  simp only [List.getElem?_toArray, List.getElem?_cons_zero, List.getElem?_cons_succ] at q1 q3 p0 p1 p2
  have hs1 : w.heap.size + 1 + 1 ≤ w1.heap.size := by have := hb1.size; simp at this; omega
  have hl0 : w.heap.size < w1.heap.size := by omega
  have hl1 : w.heap.size + 1 < w1.heap.size := by omega
  have pf : ∀ j, w1.frozen? ⟨w.heap.size + 1, j, none⟩ = false := fun j => (hb1.frozen (p := ⟨w.heap.size + 1, j, none⟩) (by simp)).trans (by simp [go_sem])
  have HB1 := Lib.hid (HAL.out.trans (hb1.mono HAL.out.size))
  clear hb1
  by_cases hk : t.kind = 1
  · have hk1 : (t.kind == 1) = true := by simpa using hk
    have hk2 : (t.kind != 2) = true := by rw [hk]; rfl
    obtain ⟨h0, hh⟩ := head_bytes HS.out (HOK.out.1 hk)
    have HK1 := Lib.hid hk1
    have HKN : Hid ((t.kind == 2) = false) := Lib.hid (by rw [hk]; rfl)
    clear hk
    by_cases h34 : t.text.head? = some 34
    · have h1 : ((s[0].toNat : Int) == 34) = true := by
        rw [hh] at h34
        rw [Option.some.inj h34]; rfl
      have HH : Hid ((t.text.head? == some 34) = true) := Lib.hid (by rw [h34]; rfl)
      clear hh h34
      have HF : Hid (Np.firstR 6 (toks.drop i) = false) := Lib.hid (by simp only [Np.firstR, Np.isAny, Np.isTxt, Np.isNum, HT.out, HKN.out]; rfl)
      go_wp2_with fail
      refine (check_yes pb tv toks size i 10 _ (HP.out.keep (HB1.out.alloc HB1.out.size _) hpb)).mono ?_
      rintro e w3 ⟨rfl, hb3⟩
      have HB3 := Lib.hid ((HB1.out.alloc HB1.out.size _).trans (hb3.mono (by have := HB1.out.size; simp; omega)))
      clear hb3
      go_wp2_with fail
      exact ⟨rfl, read_err (i := i) (by unfold Np.datumR; rw [HF.out]; rfl) HP.out.le (Mv.of_below HB3.out HP.out.c1)⟩
    · have h1 : ((s[0].toNat : Int) == 34) = false := by
        rw [beq_eq_false_iff_ne]; intro e
        apply h34
        have h3 : s[0] = 34 := by apply UInt8.toNat_inj.1; have : s[0].toNat = 34 := by omega
                                  rw [this]; rfl
        rw [hh, h3]
      have HH : Hid ((t.text.head? == some 34) = false) := Lib.hid (by simpa using h34)
      clear hh h34
      have HF : Hid (Np.firstR 6 (toks.drop i) = false) := Lib.hid (by simp only [Np.firstR, Np.isAny, Np.isTxt, Np.isNum, HT.out, HKN.out]; rfl)
      go_wp2_with fail
      refine (check_yes pb tv toks size i 10 _ (HP.out.keep (HB1.out.alloc HB1.out.size _) hpb)).mono ?_
      rintro e w3 ⟨rfl, hb3⟩
      have HB3 := Lib.hid ((HB1.out.alloc HB1.out.size _).trans (hb3.mono (by have := HB1.out.size; simp; omega)))
      clear hb3
      go_wp2_with fail
      exact ⟨rfl, read_err (i := i) (by unfold Np.datumR; rw [HF.out]; rfl) HP.out.le (Mv.of_below HB3.out HP.out.c1)⟩
  · have hk1 : (t.kind == 1) = false := by simpa using hk
    have HK1 := Lib.hid hk1
    by_cases hk2' : t.kind = 2
    · have hk2 : (t.kind != 2) = false := by simpa using hk2'
      have HKN : Hid ((t.kind == 2) = true) := Lib.hid (by simpa using hk2')
      clear hk hk2'
      have HF : Hid (Np.firstR 6 (toks.drop i) = true) := Lib.hid (by simp only [Np.firstR, Np.isAny, Np.isTxt, Np.isNum, HT.out, HKN.out]; rfl)
      by_cases hmx : 8 ≤ n
      · have hm1 : decide ((8 : Int) ≤ (n : Int)) = true := by simpa using (by omega : (8 : Int) ≤ (n : Int))
        have HMX : Hid (Np.mostR 6 ≤ n) := Lib.hid (by simpa [Np.mostR] using hmx)
        clear hmx
        go_wp2_with fail
        refine (check_no _ _ _).mono ?_
        rintro e w3 ⟨rfl, rfl⟩
        go_wp2_with fail
        refine (check_yes pb tv toks size i 2 _ (HP.out.keep (HB1.out.alloc HB1.out.size _) hpb)).mono ?_
        rintro e w3 ⟨rfl, hb3⟩
        have HB3 := Lib.hid ((HB1.out.alloc HB1.out.size _).trans (hb3.mono (by have := HB1.out.size; simp; omega)))
        clear hb3
        go_wp2_with fail
        exact ⟨rfl, read_err (i := i) (by unfold Np.datumR; rw [HF.out, if_neg (by simp), if_pos HMX.out]) HP.out.le (Mv.of_below HB3.out HP.out.c1)⟩
      · have hm1 : decide ((8 : Int) ≤ (n : Int)) = false := by simpa using (by omega : ¬ (8 : Int) ≤ (n : Int))
        have HMX : Hid (¬ Np.mostR 6 ≤ n) := Lib.hid (by simpa [Np.mostR] using hmx)
        clear hmx
        go_wp2_with fail
        refine (check_no _ _ _).mono ?_
        rintro e w3 ⟨rfl, rfl⟩
        go_wp2_with fail
        refine (check_no _ _ _).mono ?_
        rintro e w3 ⟨rfl, rfl⟩
        go_wp2_with fail
        have hb2 : Below w.heap.size w (w1.alloc (.cells #[.int .i64 t.kind, .string s, .int .i64 t.n, .int .i64 t.pos] 66)) := HB1.out.alloc HB1.out.size _
        have hbT : Below w1.heap.size w1 (w1.alloc (.cells #[.int .i64 t.kind, .string s, .int .i64 t.n, .int .i64 t.pos] 66)) := (Below.refl _ _).alloc (Nat.le_refl _) _
        replace q1 := (hbT.cell (p := ⟨w.heap.size, 1, none⟩) hl0).trans q1
        replace p0 := (hbT.cell (p := ⟨w.heap.size + 1, 0, none⟩) hl1).trans p0
        replace p1 := (hbT.cell (p := ⟨w.heap.size + 1, 1, none⟩) hl1).trans p1
        replace p2 := (hbT.cell (p := ⟨w.heap.size + 1, 2, none⟩) hl1).trans p2
        replace pf := fun (j : Nat) => (hbT.frozen (p := ⟨w.heap.size + 1, j, none⟩) hl1).trans (pf j)
        have hz2 : w.heap.size + 1 < (w1.alloc (.cells #[.int .i64 t.kind, .string s, .int .i64 t.n, .int .i64 t.pos] 66)).heap.size := by simp; omega
        clear q3 hbT
        generalize w1.alloc (.cells #[.int .i64 t.kind, .string s, .int .i64 t.n, .int .i64 t.pos] 66) = w2 at *
        have c3' := (hb2.cell (p := ⟨pb, 3, none⟩) hpb).trans c3
        have hb2d : Below w.heap.size w w2.drew := hb2.drew
        have HDD := Lib.hid (HD.out.below hb2d)
        have hlk : (Instr.lookup 99 (.map (some dm)) (.int .i64 6) false).run Tryz.prog w2.drew = .ok (.func (.func 94) #[] #[.pointer (some ⟨bx, 0, none⟩), .pointer (some ⟨b6, 0, none⟩), .pointer (some ⟨b6 + 1, 0, none⟩)]) w2.drew := run_lookup_int w2.drew dm _ 7 HDD.out.map 6 5 _ (dataMap_find bx b4 b6 b7 5 (by omega))
        have HB2 := Lib.hid hb2
        have HBD := Lib.hid hb2d
        clear hb2 hb2d
        go_still_tail 7, (by kernel_rfl)
        change wpList Tryz.prog _ _ _ _ w2.drew
        go_wp2_with fail
        clear hlk
        have hw2d : pb < w2.drew.heap.size := by simp; omega
        refine (pair_any pb bx b6 (b6 + 1) 6 1 tv toks size i w2.drew (HP.out.keep HBD.out hpb) HDD.out.box HDD.out.t6 HDD.out.u6 (by have := HDD.out.far; omega) (by have := HDD.out.far; omega) (by have := HDD.out.far; omega)).mono ?_
        intro e w3 ho
        have HO := Lib.hid ho
        clear ho
        cases hr : Np.pairR 6 1 (toks.drop i) with
        | err er r' =>
          have h := HO.out
          rw [hr] at h
          obtain ⟨rfl, hm⟩ := h
          have HM := Lib.hid hm
          have HR := Lib.hid hr
          clear hm hr
          go_wp2_with fail
          refine ⟨rfl, ?_⟩
          have hdr : Np.datumR 6 n (toks.drop i) = .err er r' := by unfold Np.datumR; rw [HF.out, if_neg (by simp), if_neg HMX.out]; exact HR.out
          rw [hdr]
          exact ⟨rfl, HM.out.after HBD.out⟩
        | ok d r' =>
          have h := HO.out
          rw [hr] at h
          obtain ⟨rfl, i', hi', rfl, hm'⟩ := h
          have HR := Lib.hid hr
          have hs3 := hm'.os
          simp only [World.size_drew] at hs3
          have p0' := (hm'.cell (p := ⟨w.heap.size + 1, 0, none⟩) (by simp; omega) (noX_not _) (by dsimp only; omega)).trans (by simpa using p0)
          have p1' := (hm'.cell (p := ⟨w.heap.size + 1, 1, none⟩) (by simp; omega) (noX_not _) (by dsimp only; omega)).trans (by simpa using p1)
          have p2' := (hm'.cell (p := ⟨w.heap.size + 1, 2, none⟩) (by simp; omega) (noX_not _) (by dsimp only; omega)).trans (by simpa using p2)
          have pf' : ∀ j, w3.frozen? ⟨w.heap.size + 1, j, none⟩ = false := fun j => (hm'.frozen (p := ⟨w.heap.size + 1, j, none⟩) (by simp; omega) (noX_not _)).trans (by simpa using pf j)
          have hl3 : w.heap.size + 1 < w3.heap.size := by omega
          have HM := Lib.hid hm'
          have HI' := Lib.hid hi'
          clear hm' hr hi' p0 p1 p2 pf q1 hs3
          simp only [datV]
          go_wp2_with fail
          refine bodyPost_ret (v := datV d) ?_ rfl ?_
          · simp [results, Tryz.results168, go_sem, datV, p0', p1', p2']
          · have hdr : Np.datumR 6 n (toks.drop i) = .ok d (toks.drop i') := by unfold Np.datumR; rw [HF.out, if_neg (by simp), if_neg HMX.out]; exact HR.out
            rw [hdr]
            exact ⟨rfl, i', HI'.out, rfl, (((Mv.after HBD.out HM.out).setNew (p := ⟨w.heap.size + 1, 0, none⟩) (by simp) _).setNew (p := ⟨w.heap.size + 1, 1, none⟩) (by simp) _).setNew (p := ⟨w.heap.size + 1, 2, none⟩) (by simp) _⟩
    · have hk2 : (t.kind != 2) = true := by simpa using hk2'
      have HKN : Hid ((t.kind == 2) = false) := Lib.hid (by simpa using hk2')
      clear hk hk2'
      have HF : Hid (Np.firstR 6 (toks.drop i) = false) := Lib.hid (by simp only [Np.firstR, Np.isAny, Np.isTxt, Np.isNum, HT.out, HKN.out]; rfl)
      go_wp2_with fail
      refine (check_yes pb tv toks size i 10 _ (HP.out.keep (HB1.out.alloc HB1.out.size _) hpb)).mono ?_
      rintro e w3 ⟨rfl, hb3⟩
      have HB3 := Lib.hid ((HB1.out.alloc HB1.out.size _).trans (hb3.mono (by have := HB1.out.size; simp; omega)))
      clear hb3
      go_wp2_with fail
      exact ⟨rfl, read_err (i := i) (by unfold Np.datumR; rw [HF.out]; rfl) HP.out.le (Mv.of_below HB3.out HP.out.c1)⟩
set_option maxRecDepth 100000 in
set_option maxHeartbeats 8000000 in
theorem datum7 (pb dm bx b4 b6 b7 : Nat) (tv : Value) (toks : List Np.Tok) (size : Int) (i : Nat) (nm : ByteArray) (life : Int) (A : Option Addr) (n c : Nat) (hn : n ≤ 8) (w : World) (hP : PIn w pb tv toks size i) (c3 : w.cell? ⟨pb, 3, none⟩ = some (.map (some dm))) (hD : DataAt pb dm bx b4 b6 b7 w) :
    Calls Tryz.prog 168 #[.pointer (some ⟨pb, 0, none⟩), .agg #[.string nm, .int .i64 7, .int .i64 life, .slice A n c]] w (ReadOut datV pb toks size w (Np.datumR 7 n (toks.drop i))) := by
  have hpb := hP.lt
  have HP := Lib.hid hP
  have HD := Lib.hid hD
  have hok := hP.tok i
  obtain ⟨t, ht⟩ : ∃ t, Np.peekT (toks.drop i) = t := ⟨_, rfl⟩
  rw [ht] at hok
  have hq := fun W (h : PIn W pb tv toks size i) => peek0_is pb tv toks size i W h t ht
  obtain ⟨s, hs⟩ : ∃ s, s = bytesOf t.text := ⟨_, rfl⟩
  rw [← hs] at hq
  have HQ := Lib.hid hq
  have HT := Lib.hid ht
  have HS := Lib.hid hs
  have HOK := Lib.hid hok
  have hal : Below w.heap.size w ((w.alloc (.cells #[.string nm, .int .i64 7, .int .i64 life, .slice A n c] 39)).alloc (.cells #[.string ⟨#[]⟩, .int .i64 0, .int .i64 0] 43)) := ((Below.refl _ _).alloc (Nat.le_refl _) _).alloc (by simp) _
  have HAL := Lib.hid hal
  have HPA := Lib.hid (HP.out.keep hal hpb)
  clear hP hD hok ht hs hq hal
  have eg : ∀ args w, (callFunc 94 args).run Tryz.prog w = .ok (.enter 94 args) w := fun args w => by simp [go_sem]
  go_enter Tryz.func168, Tryz.ntmps168
  go_wp2_with fail
  refine (HQ.out _ HPA.out).mono ?_
  rintro e w1 ⟨rfl, hb1⟩
  have q1 := (hb1.cell (p := ⟨w.heap.size, 1, none⟩) (by simp; omega)).trans (cell1_new w _ _ _ 1)
  have q3 := (hb1.cell (p := ⟨w.heap.size, 3, none⟩) (by simp; omega)).trans (cell1_new w _ _ _ 3)
  have p0 := (hb1.cell (p := ⟨w.heap.size + 1, 0, none⟩) (by simp)).trans (cell2_new w _ _ _ 0)
  have p1 := (hb1.cell (p := ⟨w.heap.size + 1, 1, none⟩) (by simp)).trans (cell2_new w _ _ _ 1)
  have p2 := (hb1.cell (p := ⟨w.heap.size + 1, 2, none⟩) (by simp)).trans (cell2_new w _ _ _ 2)
  simp only [List.getElem?_toArray, List.getElem?_cons_zero, List.getElem?_cons_succ] at q1 q3 p0 p1 p2
  have hs1 : w.heap.size + 1 + 1 ≤ w1.heap.size := by have := hb1.size; simp at this; omega
  have hl0 : w.heap.size < w1.heap.size := by omega
  have hl1 : w.heap.size + 1 < w1.heap.size := by omega
  have pf : ∀ j, w1.frozen? ⟨w.heap.size + 1, j, none⟩ = false := fun j => (hb1.frozen (p := ⟨w.heap.size + 1, j, none⟩) (by simp)).trans (by simp [go_sem])
  have HB1 := Lib.hid (HAL.out.trans (hb1.mono HAL.out.size))
  clear hb1
  by_cases hk : t.kind = 1
  · have hk1 : (t.kind == 1) = true := by simpa using hk
    have hk2 : (t.kind != 2) = true := by rw [hk]; rfl
    obtain ⟨h0, hh⟩ := head_bytes HS.out (HOK.out.1 hk)
    have HK1 := Lib.hid hk1
    have HKN : Hid ((t.kind == 2) = false) := Lib.hid (by rw [hk]; rfl)
    clear hk
    by_cases h34 : t.text.head? = some 34
    · have h1 : ((s[0].toNat : Int) == 34) = true := by
        rw [hh] at h34
        rw [Option.some.inj h34]; rfl
      have HH : Hid ((t.text.head? == some 34) = true) := Lib.hid (by rw [h34]; rfl)
      clear hh h34
      have HF : Hid (Np.firstR 7 (toks.drop i) = false) := Lib.hid (by simp only [Np.firstR, Np.isAny, Np.isTxt, Np.isNum, HT.out, HKN.out]; rfl)
      go_wp2_with fail
      refine (check_yes pb tv toks size i 10 _ (HP.out.keep (HB1.out.alloc HB1.out.size _) hpb)).mono ?_
      rintro e w3 ⟨rfl, hb3⟩
      have HB3 := Lib.hid ((HB1.out.alloc HB1.out.size _).trans (hb3.mono (by have := HB1.out.size; simp; omega)))
      clear hb3
      go_wp2_with fail
      exact ⟨rfl, read_err (i := i) (by unfold Np.datumR; rw [HF.out]; rfl) HP.out.le (Mv.of_below HB3.out HP.out.c1)⟩
    · have h1 : ((s[0].toNat : Int) == 34) = false := by
        rw [beq_eq_false_iff_ne]; intro e
        apply h34
        have h3 : s[0] = 34 := by apply UInt8.toNat_inj.1; have : s[0].toNat = 34 := by omega
                                  rw [this]; rfl
        rw [hh, h3]
      have HH : Hid ((t.text.head? == some 34) = false) := Lib.hid (by simpa using h34)
      clear hh h34
      have HF : Hid (Np.firstR 7 (toks.drop i) = false) := Lib.hid (by simp only [Np.firstR, Np.isAny, Np.isTxt, Np.isNum, HT.out, HKN.out]; rfl)
      go_wp2_with fail
      refine (check_yes pb tv toks size i 10 _ (HP.out.keep (HB1.out.alloc HB1.out.size _) hpb)).mono ?_
      rintro e w3 ⟨rfl, hb3⟩
      have HB3 := Lib.hid ((HB1.out.alloc HB1.out.size _).trans (hb3.mono (by have := HB1.out.size; simp; omega)))
      clear hb3
      go_wp2_with fail
      exact ⟨rfl, read_err (i := i) (by unfold Np.datumR; rw [HF.out]; rfl) HP.out.le (Mv.of_below HB3.out HP.out.c1)⟩
  · have hk1 : (t.kind == 1) = false := by simpa using hk
    have HK1 := Lib.hid hk1
    by_cases hk2' : t.kind = 2
    · have hk2 : (t.kind != 2) = false := by simpa using hk2'
      have HKN : Hid ((t.kind == 2) = true) := Lib.hid (by simpa using hk2')
      clear hk hk2'
      have HF : Hid (Np.firstR 7 (toks.drop i) = true) := Lib.hid (by simp only [Np.firstR, Np.isAny, Np.isTxt, Np.isNum, HT.out, HKN.out]; rfl)
      by_cases hmx : 8 ≤ n
      · have hm1 : decide ((8 : Int) ≤ (n : Int)) = true := by simpa using (by omega : (8 : Int) ≤ (n : Int))
        have HMX : Hid (Np.mostR 7 ≤ n) := Lib.hid (by simpa [Np.mostR] using hmx)
        clear hmx
        go_wp2_with fail
        refine (check_no _ _ _).mono ?_
        rintro e w3 ⟨rfl, rfl⟩
        go_wp2_with fail
        refine (check_yes pb tv toks size i 2 _ (HP.out.keep (HB1.out.alloc HB1.out.size _) hpb)).mono ?_
        rintro e w3 ⟨rfl, hb3⟩
        have HB3 := Lib.hid ((HB1.out.alloc HB1.out.size _).trans (hb3.mono (by have := HB1.out.size; simp; omega)))
        clear hb3
        go_wp2_with fail
        exact ⟨rfl, read_err (i := i) (by unfold Np.datumR; rw [HF.out, if_neg (by simp), if_pos HMX.out]) HP.out.le (Mv.of_below HB3.out HP.out.c1)⟩
      · have hm1 : decide ((8 : Int) ≤ (n : Int)) = false := by simpa using (by omega : ¬ (8 : Int) ≤ (n : Int))
        have HMX : Hid (¬ Np.mostR 7 ≤ n) := Lib.hid (by simpa [Np.mostR] using hmx)
        clear hmx
        go_wp2_with fail
        refine (check_no _ _ _).mono ?_
        rintro e w3 ⟨rfl, rfl⟩
        go_wp2_with fail
        refine (check_no _ _ _).mono ?_
        rintro e w3 ⟨rfl, rfl⟩
        go_wp2_with fail
        have hb2 : Below w.heap.size w (w1.alloc (.cells #[.int .i64 t.kind, .string s, .int .i64 t.n, .int .i64 t.pos] 66)) := HB1.out.alloc HB1.out.size _
        have hbT : Below w1.heap.size w1 (w1.alloc (.cells #[.int .i64 t.kind, .string s, .int .i64 t.n, .int .i64 t.pos] 66)) := (Below.refl _ _).alloc (Nat.le_refl _) _
        replace q1 := (hbT.cell (p := ⟨w.heap.size, 1, none⟩) hl0).trans q1
        replace p0 := (hbT.cell (p := ⟨w.heap.size + 1, 0, none⟩) hl1).trans p0
        replace p1 := (hbT.cell (p := ⟨w.heap.size + 1, 1, none⟩) hl1).trans p1
        replace p2 := (hbT.cell (p := ⟨w.heap.size + 1, 2, none⟩) hl1).trans p2
        replace pf := fun (j : Nat) => (hbT.frozen (p := ⟨w.heap.size + 1, j, none⟩) hl1).trans (pf j)
        have hz2 : w.heap.size + 1 < (w1.alloc (.cells #[.int .i64 t.kind, .string s, .int .i64 t.n, .int .i64 t.pos] 66)).heap.size := by simp; omega
        clear q3 hbT
        generalize w1.alloc (.cells #[.int .i64 t.kind, .string s, .int .i64 t.n, .int .i64 t.pos] 66) = w2 at *
        have c3' := (hb2.cell (p := ⟨pb, 3, none⟩) hpb).trans c3
        have hb2d : Below w.heap.size w w2.drew := hb2.drew
        have HDD := Lib.hid (HD.out.below hb2d)
        have hlk : (Instr.lookup 99 (.map (some dm)) (.int .i64 7) false).run Tryz.prog w2.drew = .ok (.func (.func 94) #[] #[.pointer (some ⟨bx, 0, none⟩), .pointer (some ⟨b7, 0, none⟩), .pointer (some ⟨b7 + 1, 0, none⟩)]) w2.drew := run_lookup_int w2.drew dm _ 7 HDD.out.map 7 6 _ (dataMap_find bx b4 b6 b7 6 (by omega))
        have HB2 := Lib.hid hb2
        have HBD := Lib.hid hb2d
        clear hb2 hb2d
        go_still_tail 7, (by kernel_rfl)
        change wpList Tryz.prog _ _ _ _ w2.drew
        go_wp2_with fail
        clear hlk
        have hw2d : pb < w2.drew.heap.size := by simp; omega
        refine (pair_any pb bx b7 (b7 + 1) 7 1 tv toks size i w2.drew (HP.out.keep HBD.out hpb) HDD.out.box HDD.out.t7 HDD.out.u7 (by have := HDD.out.far; omega) (by have := HDD.out.far; omega) (by have := HDD.out.far; omega)).mono ?_
        intro e w3 ho
        have HO := Lib.hid ho
        clear ho
        cases hr : Np.pairR 7 1 (toks.drop i) with
        | err er r' =>
          have h := HO.out
          rw [hr] at h
          obtain ⟨rfl, hm⟩ := h
          have HM := Lib.hid hm
          have HR := Lib.hid hr
          clear hm hr
          go_wp2_with fail
          refine ⟨rfl, ?_⟩
          have hdr : Np.datumR 7 n (toks.drop i) = .err er r' := by unfold Np.datumR; rw [HF.out, if_neg (by simp), if_neg HMX.out]; exact HR.out
          rw [hdr]
          exact ⟨rfl, HM.out.after HBD.out⟩
        | ok d r' =>
          have h := HO.out
          rw [hr] at h
          obtain ⟨rfl, i', hi', rfl, hm'⟩ := h
          have HR := Lib.hid hr
          have hs3 := hm'.os
          simp only [World.size_drew] at hs3
          have p0' := (hm'.cell (p := ⟨w.heap.size + 1, 0, none⟩) (by simp; omega) (noX_not _) (by dsimp only; omega)).trans (by simpa using p0)
          have p1' := (hm'.cell (p := ⟨w.heap.size + 1, 1, none⟩) (by simp; omega) (noX_not _) (by dsimp only; omega)).trans (by simpa using p1)
          have p2' := (hm'.cell (p := ⟨w.heap.size + 1, 2, none⟩) (by simp; omega) (noX_not _) (by dsimp only; omega)).trans (by simpa using p2)
          have pf' : ∀ j, w3.frozen? ⟨w.heap.size + 1, j, none⟩ = false := fun j => (hm'.frozen (p := ⟨w.heap.size + 1, j, none⟩) (by simp; omega) (noX_not _)).trans (by simpa using pf j)
          have hl3 : w.heap.size + 1 < w3.heap.size := by omega
          have HM := Lib.hid hm'
          have HI' := Lib.hid hi'
          clear hm' hr hi' p0 p1 p2 pf q1 hs3
          simp only [datV]
          go_wp2_with fail
          refine bodyPost_ret (v := datV d) ?_ rfl ?_
          · simp [results, Tryz.results168, go_sem, datV, p0', p1', p2']
          · have hdr : Np.datumR 7 n (toks.drop i) = .ok d (toks.drop i') := by unfold Np.datumR; rw [HF.out, if_neg (by simp), if_neg HMX.out]; exact HR.out
            rw [hdr]
            exact ⟨rfl, i', HI'.out, rfl, (((Mv.after HBD.out HM.out).setNew (p := ⟨w.heap.size + 1, 0, none⟩) (by simp) _).setNew (p := ⟨w.heap.size + 1, 1, none⟩) (by simp) _).setNew (p := ⟨w.heap.size + 1, 2, none⟩) (by simp) _⟩
    · have hk2 : (t.kind != 2) = true := by simpa using hk2'
      have HKN : Hid ((t.kind == 2) = false) := Lib.hid (by simpa using hk2')
      clear hk hk2'
      have HF : Hid (Np.firstR 7 (toks.drop i) = false) := Lib.hid (by simp only [Np.firstR, Np.isAny, Np.isTxt, Np.isNum, HT.out, HKN.out]; rfl)
      go_wp2_with fail
      refine (check_yes pb tv toks size i 10 _ (HP.out.keep (HB1.out.alloc HB1.out.size _) hpb)).mono ?_
      rintro e w3 ⟨rfl, hb3⟩
      have HB3 := Lib.hid ((HB1.out.alloc HB1.out.size _).trans (hb3.mono (by have := HB1.out.size; simp; omega)))
      clear hb3
      go_wp2_with fail
      exact ⟨rfl, read_err (i := i) (by unfold Np.datumR; rw [HF.out]; rfl) HP.out.le (Mv.of_below HB3.out HP.out.c1)⟩
theorem datum_any (t : Int) (h1 : 1 ≤ t) (h7 : t ≤ 7) (pb dm bx b4 b6 b7 : Nat) (tv : Value) (toks : List Np.Tok) (size : Int) (i : Nat) (nm : ByteArray) (life : Int) (A : Option Addr) (n c : Nat) (hn : n ≤ 8) (w : World) (hP : PIn w pb tv toks size i) (c3 : w.cell? ⟨pb, 3, none⟩ = some (.map (some dm))) (hD : DataAt pb dm bx b4 b6 b7 w) :
    Calls Tryz.prog 168 #[.pointer (some ⟨pb, 0, none⟩), .agg #[.string nm, .int .i64 t, .int .i64 life, .slice A n c]] w (ReadOut datV pb toks size w (Np.datumR t n (toks.drop i))) := by
  have ht : t = 1 ∨ t = 2 ∨ t = 3 ∨ t = 4 ∨ t = 5 ∨ t = 6 ∨ t = 7 := by omega
  rcases ht with rfl | rfl | rfl | rfl | rfl | rfl | rfl
  · exact datum1 pb dm bx b4 b6 b7 tv toks size i nm life A n c hn w hP c3 hD
  · exact datum2 pb dm bx b4 b6 b7 tv toks size i nm life A n c hn w hP c3 hD
  · exact datum3 pb dm bx b4 b6 b7 tv toks size i nm life A n c hn w hP c3 hD
  · exact datum4 pb dm bx b4 b6 b7 tv toks size i nm life A n c hn w hP c3 hD
  · exact datum5 pb dm bx b4 b6 b7 tv toks size i nm life A n c hn w hP c3 hD
  · exact datum6 pb dm bx b4 b6 b7 tv toks size i nm life A n c hn w hP c3 hD
  · exact datum7 pb dm bx b4 b6 b7 tv toks size i nm life A n c hn w hP c3 hD
end Go.Proofs.YtnbolgdccdnjeaaGreatDoor
