/- Joined by program from: RefDiag, Par23, Par24. No condition. -/
import Derived.Test.YtnbolgdccdnjeaaGreatDoorPB
import Derived.Test.YtnbolgdccdnjeaaGreatDoorNB
import Derived.Laws.StructEq
import Derived.Test.YtnbolgdccdnjeaaGreatDoorQF
import Derived.Test.YtnbolgdccdnjeaaGreatDoorKA
/- The reference's comparison of diagnostics, where it says yes. No condition on the program. -/
namespace Go.Proofs.YtnbolgdccdnjeaaGreatDoor
open Go.RowKit
def RDiag (_ : World) (_ : Nat) (e : List Value) (d : Np.Diag) : Prop := e = [.int .i64 d.err, .int .i64 d.pos]
theorem rdiag_kept : KeptR RDiag := fun _ _ _ _ _ h _ => h
theorem rdiag_more : MoreR RDiag := fun _ _ _ _ _ h _ => h
theorem diag_at {w : World} {B : Nat} {v : Value} {xs : List Np.Diag} (h : SlR RDiag 2 w B v xs) {k : Nat} {d : Np.Diag} (hd : xs[k]? = some d) : ∃ b o c, v = .slice (some ⟨b, o, none⟩) xs.length c ∧ b < B ∧ w.cell? ⟨b, o + k * 2, none⟩ = some (.int .i64 d.err) ∧ w.cell? ⟨b, o + k * 2 + 1, none⟩ = some (.int .i64 d.pos) := by
  obtain ⟨A, c, rfl, _, _, he⟩ := h
  obtain ⟨b, o, e, rfl, hb, _, hce, rfl⟩ := he k d hd
  exact ⟨b, o, c, rfl, hb, by have := hce 0 _ rfl; simpa using this, hce 1 _ rfl⟩
theorem neqDiag (a b c d : Int) (w : World) : (binOp .neq 55 (.agg #[.int .i64 a, .int .i64 b]) (.agg #[.int .i64 c, .int .i64 d])).run Tryz.prog w = .ok (.bool (!(a == c && b == d))) w := by
  have u3 := Tryz.underlying3
  have a3 := Tryz.isAgg3
  have z3 := Tryz.sizeOf3
  have hS : Tryz.prog.underlying 55 = some (.struct (Tryz.prog.fieldsOf 55)) := by kernel_rfl
  have hp : Tryz.prog.stoodInHeld 55 = false := by kernel_rfl
  rw [run_neq_struct, show (10000 : Nat) = 9999 + 1 from rfl, run_equalIn_agg w 9999 55 _ _ hS hp]
  simp only [Program.fieldsOf, Tryz.underlying55]
  go_simp
  by_cases h1 : a = c <;> by_cases h2 : b = d <;> simp [h1, h2]
set_option maxRecDepth 100000 in
set_option maxHeartbeats 2000000 in
theorem sameDiags_yes (u v : Value) (xs : List Np.Diag) (w : World) (hu : SlR RDiag 2 w w.heap.size u xs) (hv : SlR RDiag 2 w w.heap.size v xs) :
    Calls Tryz.prog 34 #[u, v] w fun e w' => e = .returned (.bool true) ∧ Below w.heap.size w w' := by
  have HU := Lib.hid hu
  have HV := Lib.hid hv
  obtain ⟨A, c, rfl, hc1, hl1⟩ := slr_form hu
  obtain ⟨A2, c2, rfl, hc2, hl2⟩ := slr_form hv
  clear hu hv
  have hnn : ((xs.length : Int) != (xs.length : Int)) = false := by simp
  go_enter Tryz.func34, Tryz.ntmps34
  go_wp2_with fail
  go_loopw [5] (fun i wr => ∃ k : Nat, k ≤ xs.length ∧ i = .int .i64 k ∧ Hid (Below w.heap.size w wr)) (fun i _ => xs.length - (intOf i).toNat)
  case atStart => exact ⟨0, Nat.zero_le _, rfl, Lib.hid (Below.refl _ _)⟩
  case round =>
    obtain ⟨k, hk, rfl, HB⟩ := hrel
    by_cases hlt : k < xs.length
    · obtain ⟨b, o, c', hA, hb, e0, e1⟩ := diag_at (HU.out.keep rdiag_kept HB.out) (List.getElem?_eq_getElem hlt)
      cases hA
      obtain ⟨b2, o2, c2', hA, hb2, f0, f1⟩ := diag_at (HV.out.keep rdiag_kept HB.out) (List.getElem?_eq_getElem hlt)
      simp only [Value.slice.injEq] at hA
      obtain ⟨rfl, _, rfl⟩ := hA
      generalize xs[k] = d at *
      have hk0 : (0 : Int) ≤ (k : Int) := by omega
      have hk1 : (k : Int) < (xs.length : Int) := by omega
      have heq : ∀ w, (binOp .neq 55 (.agg #[.int .i64 d.err, .int .i64 d.pos]) (.agg #[.int .i64 d.err, .int .i64 d.pos])).run Tryz.prog w = .ok (.bool false) w := fun w => by rw [neqDiag]; simp
      go_wp2_with fail
      go_quiet (fail)
      go_wp2_with fail
      go_roundw
      case rel => exact ⟨k + 1, by omega, by go_num, Lib.hid (below_drewN HB.out _)⟩
      case measure => simp [intOf] <;> omega
    · go_wp2_with fail
      go_ret
      exact ⟨rfl, HB.out⟩
end Go.Proofs.YtnbolgdccdnjeaaGreatDoor
/- The parser: the zones of a file: contract. -/
namespace Go.Proofs.YtnbolgdccdnjeaaGreatDoor
open Go.RowKit
theorem Tryz.infoZoneQ : (Tryz.prog.info? 32).map (fun i => (i.zero, i.size, i.bytes)) = some (some (.agg #[.string ⟨#[]⟩, .slice none 0 0]), 2, 40) := by kernel_rfl
theorem przone_one {w : World} {B : Nat} {r : List Value} {y : Np.Zone} (h : RZone w B r y) : ∀ u ∈ r, u.oneCell' = true := by
  obtain ⟨s, v, _, _, h1, rfl⟩ := h
  obtain ⟨A1, c1, rfl, _⟩ := h1
  intro u hu
  simp only [List.mem_cons, List.not_mem_nil, or_false] at hu
  rcases hu with rfl | rfl <;> rfl
theorem body_few {size : Int} {apex : List UInt8} : ∀ (n : Nat) (r : List Np.Tok) (sets : List (List UInt8 × Int)) (acc : List Np.Signed) (diags : List Np.Diag), r.length ≤ n → diags.length < 20 → (Np.bodyR size apex sets acc diags r).2.2.1.length ≤ 20 ∧ ((Np.bodyR size apex sets acc diags r).1 = true → (Np.bodyR size apex sets acc diags r).2.2.1.length < 20) := by
  intro n
  induction n with
  | zero =>
    intro r sets acc diags hn hl
    have : r = [] := List.eq_nil_of_length_eq_zero (by omega)
    subst this
    have h1 : Np.isS [125] ([] : List Np.Tok) = false := rfl
    cases hh : Np.entryR apex sets [] with
    | ok s r' => have := Np.entryR_lt hh; simp at this
    | err e r' =>
      have hf := Np.entryR_fine apex sets []
      rw [hh] at hf
      have hr' : r' = [] := List.suffix_nil.1 hf.1
      subst hr'
      rw [body_bad h1 hh]
      split
      · exact ⟨by simp; omega, fun e => by cases e⟩
      · rw [if_pos (by rfl)]; exact ⟨by simp; omega, fun e => by cases e⟩
  | succ n ih =>
    intro r sets acc diags hn hl
    by_cases h1 : Np.isS [125] r = true
    · rw [body_end h1]; exact ⟨by dsimp only; omega, fun _ => hl⟩
    · replace h1 : Np.isS [125] r = false := by simpa using h1
      cases hh : Np.entryR apex sets r with
      | ok s r' =>
        have hlt := Np.entryR_lt hh
        rw [body_more h1 hh]
        exact ih _ _ _ _ (by omega) hl
      | err e r' =>
        rw [body_bad h1 hh]
        split
        · exact ⟨by simp; omega, fun e => by cases e⟩
        · rename_i h20
          split
          · exact ⟨by dsimp only; omega, fun e => by cases e⟩
          · rename_i hne
            have hlf := body_left h1 hh hne
            split
            · rename_i h59
              have := hlf.1 h59
              exact ih _ _ _ _ (by omega) (by omega)
            · rename_i h59
              have := hlf.2 (by simpa using h59)
              exact ih _ _ _ _ (by omega) (by omega)
theorem file_ok {size : Int} {known known' : List (List UInt8)} {zs : List Np.Zone} {ds ds' : List Np.Diag} {r r' r'' : List Np.Tok} {a : List UInt8} {S : List Np.Signed} (hne : r ≠ []) (hh : Np.headerR known r = (known', .ok a r')) (hb : Np.bodyR size a [] [] ds r' = (true, S, ds', r'')) :
    Np.fileR size known zs ds r = Np.fileR size known' (zs ++ [⟨a, S⟩]) ds' r'' ∧ r''.length < r.length := by
  have hlt := Np.headerR_lt hh
  have hs := Np.body_suf size a _ r' [] [] ds (Nat.le_refl _)
  rw [hb] at hs
  replace hs : r'' <:+ r' := hs
  have hl := hs.length_le
  refine ⟨?_, by omega⟩
  rw [Np.fileR, if_neg hne, hh]
  dsimp only
  rw [hb]
  dsimp only
  rw [if_pos (by omega)]
theorem file_stop {size : Int} {known known' : List (List UInt8)} {zs : List Np.Zone} {ds ds' : List Np.Diag} {r r' r'' : List Np.Tok} {a : List UInt8} {S : List Np.Signed} (hne : r ≠ []) (hh : Np.headerR known r = (known', .ok a r')) (hb : Np.bodyR size a [] [] ds r' = (false, S, ds', r'')) :
    Np.fileR size known zs ds r = (zs, ds') := by
  rw [Np.fileR, if_neg hne, hh]
  dsimp only
  rw [hb]
theorem file_bad {size : Int} {known known' : List (List UInt8)} {zs : List Np.Zone} {ds : List Np.Diag} {r r' : List Np.Tok} {e : Int} (hne : r ≠ []) (hh : Np.headerR known r = (known', .err e r')) :
    Np.fileR size known zs ds r = if 20 ≤ (ds ++ [Np.Diag.mk e (Np.posT size r')]).length then (zs, ds ++ [⟨e, Np.posT size r'⟩]) else Np.fileR size known' zs (ds ++ [⟨e, Np.posT size r'⟩]) (Np.skipZ r') := by
  rw [Np.fileR, if_neg hne, hh]
  dsimp only
  rw [if_pos (Np.header_err_lt hh hne)]
theorem skipZ_more {toks : List Np.Tok} {k : Nat} (hk : k < toks.length) (h1 : Np.isW Np.wZone (toks.drop k) = false) : Np.skipZ (toks.drop (k + 1)) = Np.skipZ (toks.drop k) := by
  rw [drop_some hk] at h1 ⊢
  rw [Np.skipZ, h1, if_neg (by simp)]
theorem skipZ_here {toks : List Np.Tok} {k : Nat} (hk : k < toks.length) (h1 : Np.isW Np.wZone (toks.drop k) = true) : Np.skipZ (toks.drop k) = toks.drop k := by
  rw [drop_some hk] at h1 ⊢
  rw [Np.skipZ, if_pos h1]
/-- What a file comes to. -/
def FileOut (pb : Nat) (W : World) (x : List Np.Zone × List Np.Diag) (e : Ending) (w' : World) : Prop :=
  e = .returned (.tuple #[]) ∧ ∃ dv zv, w'.cell? ⟨pb, 6, none⟩ = some dv ∧ w'.cell? ⟨pb, 5, none⟩ = some zv ∧ SlR RDiag 2 w' w'.heap.size dv x.2 ∧ SlR RZone 2 w' w'.heap.size zv x.1 ∧ Below (pb - 1) W w'
section
variable {pb fb mb dm bx b4 b6 b7 base : Nat} {tv : Value} {toks : List Np.Tok} {size : Int} {W : World} {M : Nat → Prop} {i : Nat} {known : List (List UInt8)} {zs : List Np.Zone} {ds : List Np.Diag} {dv zv : Value} {w w' : World}
theorem FileS.out (h : FileS pb fb mb dm bx b4 b6 b7 base tv toks size W M i known zs ds dv zv w) (hz : zs.length ≤ 10000) (hd : ds.length ≤ 10000) : FileOut pb W (zs, ds) (.returned (.tuple #[])) w :=
  ⟨rfl, dv, zv, h.dg.c6, h.c5, slr_of_own encG (fun _ _ => rfl) h.dg.row (show ds.length ≤ 140737488355328 by omega) (fun _ _ => rfl), h.own.slr rzone_sans (show zs.length ≤ 140737488355328 by omega), h.fr⟩
theorem file_start {i : Nat} (hP : PIn W pb tv toks size i) (c3 : W.cell? ⟨pb, 3, none⟩ = some (.map (some dm))) (hD : DataAt pb dm bx b4 b6 b7 W) (c4 : W.cell? ⟨pb, 4, none⟩ = some (.map (some mb))) (hKn : KnownM mb [] W) (c5 : W.cell? ⟨pb, 5, none⟩ = some (.slice none 0 0)) (f5 : W.frozen? ⟨pb, 5, none⟩ = false)
    (c6 : W.cell? ⟨pb, 6, none⟩ = some (.slice none 0 0)) (f6 : W.frozen? ⟨pb, 6, none⟩ = false) (hlow : dm < W.heap.size ∧ bx < W.heap.size ∧ b4 + 1 < W.heap.size ∧ b6 + 1 < W.heap.size ∧ b7 + 1 < W.heap.size) (hpm : pb ≤ mb + 1 ∧ mb ≠ pb)
    (hmd : mb ≠ dm ∧ mb ≠ bx ∧ mb ≠ b4 ∧ mb ≠ b4 + 1 ∧ mb ≠ b6 ∧ mb ≠ b6 + 1 ∧ mb ≠ b7 ∧ mb ≠ b7 + 1) :
    FileS pb W.heap.size mb dm bx b4 b6 b7 (W.heap.size + 1) tv toks size W (fun k => k < W.heap.size + 1) i [] [] [] (.slice none 0 0) (.slice none 0 0) (W.alloc (.cells #[.pointer (some ⟨pb, 0, none⟩)] 127)) ∧ FileK pb W.heap.size mb dm bx b4 b6 b7 (W.heap.size + 1) := by
  have hb : Below W.heap.size W (W.alloc (.cells #[.pointer (some ⟨pb, 0, none⟩)] 127)) := (Below.refl _ _).alloc (Nat.le_refl _) _
  have hpw := hP.lt
  have hmb := hKn.lt
  exact ⟨⟨hP.keep hb hpw, (hb.cell (p := ⟨pb, 3, none⟩) hpw).trans c3, hD.below hb, (hb.cell (p := ⟨pb, 4, none⟩) hpw).trans c4, hKn.keep (hb.block mb hmb), ⟨(hb.cell (p := ⟨pb, 6, none⟩) hpw).trans c6, (hb.frozen (p := ⟨pb, 6, none⟩) hpw).trans f6, ⟨by simp, .inl ⟨rfl, rfl⟩⟩⟩,
      (hb.cell (p := ⟨pb, 5, none⟩) hpw).trans c5, (hb.frozen (p := ⟨pb, 5, none⟩) hpw).trans f5, OwnM.nil _, (by rw [World.cell?_alloc_new]; rfl), fun k hk => hk, (fun g hg => by cases hg), (fun k hk => by simpa using hk), (by simp), hb.mono (by omega)⟩,
    ⟨by omega, hpm, hpw, by omega, by omega⟩⟩
end
/-- What the slots of the region that appends a zone hold. -/
def zval (pb : Nat) (zv z e25 e26 : Value) (i : Nat) : Value := [Value.pointer (some ⟨pb, 0, none⟩), .pointer (some ⟨pb, 0, none⟩), .pointer (some ⟨pb, 0, none⟩), .pointer (some ⟨pb, 5, none⟩), zv, z, e25, e26, .pointer (some ⟨pb, 0, none⟩), .pointer (some ⟨pb, 5, none⟩)].getD i undef
def zdst (i : Nat) : Nat := [19, 20, 21, 22, 23, 24, 25, 26, 27, 28].getD i 0
def zdsts : List Nat := [0, 1, 2, 3, 4, 5, 8, 9, 6, 7].map zdst
theorem zdst_in : ∀ i ∈ [0, 1, 2, 3, 4, 5, 8, 9, 6, 7], zdst i < 53 ∧ zdst i ∈ zdsts := by decide
theorem zdst_inj : ∀ i ∈ [0, 1, 2, 3, 4, 5, 8, 9, 6, 7], ∀ j ∈ [0, 1, 2, 3, 4, 5, 8, 9, 6, 7], j ≠ i → zdst i ≠ zdst j := by decide
set_option maxRecDepth 100000 in
set_option maxHeartbeats 8000000 in
theorem file_any (pb mb dm bx b4 b6 b7 : Nat) (tv : Value) (toks : List Np.Tok) (size : Int) (w : World) (hT : ∀ t ∈ toks, Np.TokR t) (hP : PIn w pb tv toks size 0) (c3 : w.cell? ⟨pb, 3, none⟩ = some (.map (some dm))) (hD : DataAt pb dm bx b4 b6 b7 w) (c4 : w.cell? ⟨pb, 4, none⟩ = some (.map (some mb))) (hKn : KnownM mb [] w) (c5 : w.cell? ⟨pb, 5, none⟩ = some (.slice none 0 0)) (f5 : w.frozen? ⟨pb, 5, none⟩ = false)
    (c6 : w.cell? ⟨pb, 6, none⟩ = some (.slice none 0 0)) (f6 : w.frozen? ⟨pb, 6, none⟩ = false) (hlow : dm < w.heap.size ∧ bx < w.heap.size ∧ b4 + 1 < w.heap.size ∧ b6 + 1 < w.heap.size ∧ b7 + 1 < w.heap.size) (hpm : pb ≤ mb + 1 ∧ mb ≠ pb)
    (hmd : mb ≠ dm ∧ mb ≠ bx ∧ mb ≠ b4 ∧ mb ≠ b4 + 1 ∧ mb ≠ b6 ∧ mb ≠ b6 + 1 ∧ mb ≠ b7 ∧ mb ≠ b7 + 1) :
    Calls Tryz.prog 58 #[.pointer (some ⟨pb, 0, none⟩)] w (FileOut pb w (Np.fileR size [] [] [] toks)) := by
  obtain ⟨R, hR⟩ : ∃ R, Np.fileR size [] [] [] (toks.drop 0) = R := ⟨_, rfl⟩
  rw [show Np.fileR size [] [] [] toks = R from hR]
  have HR := Lib.hid hR
  have hst := file_start hP c3 hD c4 hKn c5 f5 c6 f6 hlow hpm hmd
  have HS0 := Lib.hid hst.1
  have HK := Lib.hid hst.2
  have hfew := hP.few
  clear hR hP c3 hD hKn c5 f5 c6 f6 hlow hmd hst c4 hpm
  go_enter Tryz.func58, Tryz.ntmps58
  go_wp2_with fail
  generalize hbase : w.heap.size + 1 = base at *
  generalize hW1 : w.alloc (.cells #[.pointer (some ⟨pb, 0, none⟩)] 127) = W1 at *
  clear hW1 hbase
  go_loopg [] (toks.length + 1) (fun g wr => ∃ (M : Nat → Prop) (i' : Nat) (known : List (List UInt8)) (zs : List Np.Zone) (ds : List Np.Diag) (dv zv : Value), toks.length < g + i' ∧ zs.length ≤ i' ∧ ds.length < 20 ∧
    Hid (Np.fileR size known zs ds (toks.drop i') = R) ∧ Hid (FileS pb w.heap.size mb dm bx b4 b6 b7 base tv toks size w M i' known zs ds dv zv wr))
  case atStart => exact ⟨_, 0, [], [], [], _, _, by omega, by simp, by simp, HR, HS0⟩
  case round =>
    obtain ⟨M, i', known, zs, ds, dv, zv, hg, hzs, hds, HX, HS⟩ := hrel
    clear HS0 HR
    have xf := HS.out.xf
    have c0 := HS.out.pin.c0
    have c1 := HS.out.pin.c1
    have hi' := HS.out.pin.le
    obtain ⟨At, ct, rfl, -, -⟩ := slr_form HS.out.pin.tk
    by_cases hlt : i' < toks.length
    case neg =>
      have hlI : ¬ (i' : Int) < (toks.length : Int) := by omega
      have hRR : R = (zs, ds) := by rw [← HX.out, drop_none (by omega), Np.fileR, if_pos rfl]
      have HRR := Lib.hid hRR
      clear hRR
      go_wp2_with fail
      go_quiet (fail)
      go_wp2_with fail
      go_end0
      rw [HRR.out]
      exact (HS.out.grow HK.out (below_drewN (Below.refl _ _) _)).out (by omega) (by omega)
    case pos =>
      have hlI : (i' : Int) < (toks.length : Int) := by omega
      have hfb : w.heap.size < wr.heap.size := by have := HS.out.bw; have := HK.out.low; omega
      have xz : ∀ n, ((World.drewN wr n).alloc (.cells #[.string ⟨#[]⟩, .slice none 0 0] 32)).cell? ⟨w.heap.size, 0, none⟩ = some (.pointer (some ⟨pb, 0, none⟩)) := fun n =>
        (((below_drewN (Below.refl wr.heap.size wr) n).alloc (by simp) _).cell (p := ⟨w.heap.size, 0, none⟩) hfb).trans xf
      go_wp2_with fail
      go_quiet (fail)
      go_wp2_with fail
      obtain ⟨w2, hw2⟩ : ∃ w2, w2 = (World.drewN wr nq).alloc (.cells #[.string ⟨#[]⟩, .slice none 0 0] 32) := ⟨_, rfl⟩
      have hb2 : Below wr.heap.size wr w2 := by rw [hw2]; exact (below_drewN (Below.refl _ _) _).alloc (by simp) _
      have hs2 : w2.heap.size = wr.heap.size + 1 := by rw [hw2]; simp
      have hS2 := HS.out.more HK.out hb2 (fun k => k = wr.heap.size) (fun k hk => by subst hk; omega)
      have hzn : (World.drewN wr nq).heap.size = wr.heap.size := by simp
      have z0 : w2.cell? ⟨wr.heap.size, 0, none⟩ = some (.string ⟨#[]⟩) := by rw [hw2, ← hzn, World.cell?_alloc_new]; rfl
      have z1 : w2.cell? ⟨wr.heap.size, 1, none⟩ = some (.slice none 0 0) := by rw [hw2, ← hzn, World.cell?_alloc_new]; rfl
      have hhn : w2.heap[wr.heap.size]? = some (.cells #[.string ⟨#[]⟩, .slice none 0 0] 32 (0, 0)) := by rw [hw2, ← hzn]; exact heap_alloc_new _ _
      have zf0 : w2.frozen? ⟨wr.heap.size, 0, none⟩ = false := by simp [World.frozen?, hhn]
      have zf1 : w2.frozen? ⟨wr.heap.size, 1, none⟩ = false := by simp [World.frozen?, hhn]
      clear hhn
      have hzd : dv.ownBlock ≠ some wr.heap.size := fun e => by have := (ownsRow_base HS.out.dg.row _ e).2; omega
      have hzz : zv.ownBlock ≠ some wr.heap.size := fun e => by have := (HS.out.zown _ e).2.1; omega
      have hbz : base ≤ wr.heap.size := HS.out.bw
      rw [← hw2]
      clear hw2 hzn xf c0 c1 HS hb2 hfb xz
      generalize hzb : wr.heap.size = zb at *
      obtain ⟨⟨K, x⟩, hx⟩ : ∃ x, Np.headerR known (toks.drop i') = x := ⟨_, rfl⟩
      have htry := fileTry_any hS2 HK.out (by omega) (zb := zb) (.inr rfl) hbz hzd hzz z0 z1 zf0 zf1 _ hx
      have HH := Lib.hid hx
      have HTRY := Lib.hid htry
      have HZD := Lib.hid hzd
      have HZZ := Lib.hid hzz
      clear hS2 z0 z1 zf0 zf1 htry hx hzd hzz hs2
      have hne : toks.drop i' ≠ [] := fun e => by have := congrArg List.length e; simp at this; omega
      have HNE := Lib.hid hne
      clear hne
      cases x with
      | ok a r' =>
        refine HTRY.out.mono ?_
        rintro e w3 ⟨rfl, i3, hr3, hS3, z0, z1, zf1⟩
        have HR3 := Lib.hid hr3
        have HS3 := Lib.hid hS3
        have hok := Np.headerR_ok (fun t ht => hT t ((List.drop_suffix i' toks).subset ht)) HH.out
        have HOK := Lib.hid hok
        have xf := hS3.xf
        have hi3 := hS3.pin.le
        have hbody := body_any pb zb dm bx b4 b6 b7 base _ toks size i3 a ds dv w3 hok.1 (Np.name_form hok.1).1 hok.2.2.2.2 hT hds hS3.pin hS3.c3 hS3.data hS3.dg z0 z1 zf1 ⟨HK.out.low.1, HK.out.low.2.1, HK.out.low.2.2.1, HK.out.low.2.2.2.1, HK.out.low.2.2.2.2.1⟩ HK.out.pb' hbz HZD.out
        have HBODY := Lib.hid hbody
        clear hr3 hS3 hok z0 z1 zf1 hbody HTRY
        go_wp2_with fail
        refine HBODY.out.mono ?_
        intro e w4 hout
        obtain ⟨rfl, i4, dv4, v4, M4, hr4, hS4, k0, k1, hsl⟩ := HS3.out.body HK.out (zb := zb) (.inr rfl) hbz HZZ.out hout
        rw [HR3.out] at *
        rcases hb4 : Np.bodyR size a [] [] ds r' with ⟨b, S, ds4, r4⟩
        rw [hb4] at hr4 hS4 hsl
        replace hr4 : toks.drop i4 = r4 := hr4
        replace hS4 : FileS pb w.heap.size mb dm bx b4 b6 b7 base (.slice At toks.length ct) toks size w M4 i4 K zs ds4 dv4 zv w4 := hS4
        have HR4 := Lib.hid hr4
        have HB4 := Lib.hid hb4
        have xf := hS4.xf
        have HS4 := Lib.hid hS4
        clear hS4 hr4 hb4 HBODY hout HS3
        cases b with
        | false =>
          have hRR := file_stop (zs := zs) HNE.out HH.out HB4.out
          rw [HX.out] at hRR
          have HRR := Lib.hid hRR
          have hd4 := (ownsRow_base HS4.out.dg.row)
          clear hRR hd4 hsl k0 k1
          dsimp only
          go_wp2_with fail
          go_end0
          rw [HRR.out]
          refine HS4.out.out (by omega) ?_
          have hfew4 := (body_few (size := size) (apex := a) _ r' [] [] ds (Nat.le_refl _) hds).1
          rw [HB4.out] at hfew4
          have hfew4 : ds4.length ≤ 20 := hfew4
          omega
        | true =>
          have hsl := hsl rfl
          obtain ⟨A4, c4, hv4, hc4, hl4⟩ := slr_form hsl
          subst hv4
          have c5 := HS4.out.c5
          have f5 := HS4.out.f5
          obtain ⟨Az, cz, hform⟩ := HS4.out.own.form
          have HSL := Lib.hid hsl
          obtain ⟨nz, hnz⟩ : ∃ nz, nz = zs.length := ⟨_, rfl⟩
          have HNZ := Lib.hid hnz
          rw [← hnz] at hform
          subst hform
          obtain ⟨nS, hnS⟩ : ∃ nS, nS = S.length := ⟨_, rfl⟩
          have HNS := Lib.hid hnS
          rw [← hnS] at k1 HSL
          obtain ⟨i0, hi0, hz0, hz1, hz2⟩ := info_parts Tryz.infoZoneQ
          have hzpb : ¬ zb = pb := by have := HK.out.pb'; omega
          have hzpb' : ¬ pb = zb := by omega
          have hzlt : zb < w4.heap.size := World.block_lt_of_cell? w4 ⟨zb, 0, none⟩ k0
          have hplt := HS4.out.pin.lt
          have hfbl : w.heap.size < w4.heap.size := World.block_lt_of_cell? w4 ⟨w.heap.size, 0, none⟩ xf
          have HK0 := Lib.hid (And.intro k0 k1)
          have HNL := Lib.hid (Np.name_form HOK.out.1).1
          clear hsl hnz hnS hc4 hl4
          dsimp only
          go_wp2_with fail
          refine wp_gen fun a0 ha0 => ?_
          have HA0 := Lib.hid ha0
          have HA1 := Lib.hid (show a0.eval (.tmp 1) = .pointer (some ⟨w.heap.size, 0, none⟩) by rw [ha0]; rfl)
          have HA2 := Lib.hid (show a0.eval (.tmp 2) = .pointer (some ⟨zb, 0, none⟩) by rw [ha0]; rfl)
          have HM := Lib.hid (show a0.tmps.size = 53 by rw [ha0]; rfl)
          clear ha0
          refine wp_region_any (by kernel_rfl) ?_
          refine wpAny_act (w := w4.drew) (D := [0, 1, 2, 3, 4, 5, 8, 9]) (A := []) (p := 6) (dst := zdst) (val := zval pb (.slice Az nz cz) (.agg #[.string (bytesOf a), .slice A4 nS c4]) undef undef) (m := 53)
            (base := restBase a0 53 zdsts) (wellB_spec (by kernel_rfl)) (by simp) (by simp) (waitB_spec (by kernel_rfl)) ?_
            (fun i hi => (zdst_in i (by simp at hi ⊢; omega)).1) (fun i hi j hj => zdst_inj i (by simp at hi ⊢; omega) j (by simp at hj ⊢; omega)) (fun i hi => restBase_ne (zdst_in i (by simp at hi ⊢; omega)).2) ?_ ?_ _ _ _ (Held.start (fun q hq => restBase_self q hq) HM.out)
          · intro i hi hiA
            simp only [List.mem_cons, List.not_mem_nil, or_false] at hi
            rcases hi with rfl | rfl | rfl | rfl | rfl | rfl | rfl | rfl
            all_goals first | (exfalso; simp at hiA; done) | exact ⟨_, rfl, rfl⟩
          · intro i hi hiA o ho a' hb hdep
            have k1' := (restBase_get hb (j := 1) (by decide) (by decide)).trans HA1.out
            have k2' := (restBase_get hb (j := 2) (by decide) (by decide)).trans HA2.out
            simp [Act.eval] at k1' k2'
            simp only [List.mem_cons, List.not_mem_nil, or_false] at hi
            rcases hi with rfl | rfl | rfl | rfl | rfl | rfl | rfl | rfl
            all_goals first
              | (exfalso; simp at hiA; done)
              | (cases ho
                 try simp [Act.eval, Region.binds, zval, zdst] at hdep
                 refine .inl ⟨by simp [Region.wanted], fun w' hw' => ?_⟩
                 subst hw'
                 simp [Oper.quietAt, Oper.quietUpon, execOp, go_sem, zval, k1', k2', xf, k0, k1, c5, hdep])
          · intro f listed a' hH hr
            obtain ⟨_, o, ho, hall⟩ := mem_ready.1 hr
            cases ho
            have hG := hH.good
            have hval := fun i hi hl => hG.val i hi hl
            have hlst : ∀ k, ({ on := k, ground := .data } : Edge) ∈ _ → listed.getD k false = true := fun k hk => hall _ hk rfl
            have a5 := hval 5 (by simp) (hlst 5 (by simp))
            simp [Act.eval, zval, zdst] at a5
            simp only [wpOp]
            simp [Region.wanted]
            refine .inl ?_
            simp [Oper.wp, execOp, go_sem, a5]
            obtain ⟨W5, hW5⟩ : ∃ W5, W5 = (w4.alloc (.cells #[.string (bytesOf a), .slice A4 nS c4] 32)).drew := ⟨_, rfl⟩
            have hb5 : Below w4.heap.size w4 W5 := by rw [hW5]; exact ((Below.refl _ _).alloc (Nat.le_refl _) _).drew
            have hc5 : CellsAt W5 w4.heap.size 0 [.string (bytesOf a), .slice A4 nS c4] := by rw [hW5]; exact pcellsAt_new w4 [.string (bytesOf a), .slice A4 nS c4] 32
            rw [← hW5]
            have hS5 := HS4.out.grow HK.out hb5
            have HB5 := Lib.hid hb5
            have HC5 := Lib.hid hc5
            have HS5 := Lib.hid hS5
            clear hW5 hc5 xf k0 k1 c5
            have xf := hS5.xf
            have k0 := (HB5.out.cell (p := ⟨zb, 0, none⟩) hzlt).trans HK0.out.1
            have k1 := (HB5.out.cell (p := ⟨zb, 1, none⟩) hzlt).trans HK0.out.2
            have c5 := hS5.c5
            clear hS5 hb5
            refine wpAny_act (w := W5) (D := [0, 1, 2, 3, 4, 5, 8, 9, 6]) (A := [6]) (p := 7) (dst := zdst) (val := zval pb (.slice Az nz cz) (.agg #[.string (bytesOf a), .slice A4 nS c4]) (.slice (some ⟨w4.heap.size, 0, none⟩) 1 1) undef) (m := 53)
              (base := restBase a0 53 zdsts) (wellB_spec (by kernel_rfl)) (by simp) (by simp) (waitB_spec (by kernel_rfl)) ?_
              (fun i hi => (zdst_in i (by simp at hi ⊢; omega)).1) (fun i hi j hj => zdst_inj i (by simp at hi ⊢; omega) j (by simp at hj ⊢; omega)) (fun i hi => restBase_ne (zdst_in i (by simp at hi ⊢; omega)).2) ?_ ?_ _ _ _ (hH.act (D' := [0, 1, 2, 3, 4, 5, 8, 9, 6]) (val' := zval pb (.slice Az nz cz) (.agg #[.string (bytesOf a), .slice A4 nS c4]) (.slice (some ⟨w4.heap.size, 0, none⟩) 1 1) undef) hr (by simp) (fun i hi => by simp at hi ⊢; omega) (fun i hi => by simp at hi; rcases hi with rfl | rfl | rfl | rfl | rfl | rfl | rfl | rfl <;> rfl) rfl (by simp [zdst]) (fun j hj => zdst_inj 6 (by simp) j (by simp at hj ⊢; omega) (by rintro rfl; simp at hj)) (restBase_ne (zdst_in 6 (by simp)).2) (by simp))
            · intro i hi hiA
              simp only [List.mem_cons, List.not_mem_nil, or_false] at hi
              rcases hi with rfl | rfl | rfl | rfl | rfl | rfl | rfl | rfl | rfl
              all_goals first | (exfalso; simp at hiA; done) | exact ⟨_, rfl, rfl⟩
            · intro i hi hiA o ho a' hb hdep
              have k1' := (restBase_get hb (j := 1) (by decide) (by decide)).trans HA1.out
              have k2' := (restBase_get hb (j := 2) (by decide) (by decide)).trans HA2.out
              simp [Act.eval] at k1' k2'
              simp only [List.mem_cons, List.not_mem_nil, or_false] at hi
              rcases hi with rfl | rfl | rfl | rfl | rfl | rfl | rfl | rfl | rfl
              all_goals first
                | (exfalso; simp at hiA; done)
                | (cases ho
                   try simp [Act.eval, Region.binds, zval, zdst] at hdep
                   refine .inl ⟨by simp [Region.wanted], fun w' hw' => ?_⟩
                   subst hw'
                   simp [Oper.quietAt, Oper.quietUpon, execOp, go_sem, zval, k1', k2', xf, k0, k1, c5, hdep])
            · intro f listed a' hH hr
              obtain ⟨_, o, ho, hall⟩ := mem_ready.1 hr
              cases ho
              have hG := hH.good
              have hval := fun i hi hl => hG.val i hi hl
              have hlst : ∀ k, ({ on := k, ground := .data } : Edge) ∈ _ → listed.getD k false = true := fun k hk => hall _ hk rfl
              have a4 := hval 4 (by simp) (hlst 4 (by simp))
              have a6 := hval 6 (by simp) (hlst 6 (by simp))
              simp [zval, zdst] at a4 a6
              have hrow4 : RZone (sansP w4 M4) w4.heap.size [.string (bytesOf a), .slice A4 nS c4] ⟨a, S⟩ := ⟨bytesOf a, _, by simp [bytesOf], by have := HNL.out; rw [← size_list]; simp [bytesOf]; omega, HSL.out, rfl⟩
              have hrow5 : RZone (sansP W5 M4) W5.heap.size [.string (bytesOf a), .slice A4 nS c4] ⟨a, S⟩ := (Leaves'.of_below (M := M4) HB5.out).read rzone_kept rzone_sans rzone_more hrow4
              simp only [wpOp]
              simp [Region.wanted]
              refine .inl ?_
              have hznz := HNZ.out
              have ho5 := HS5.out.own
              refine wp_append_M (M := M4) W5 (.tmp 23) (.tmp 25) 22 rfl base 32 i0 (.agg #[.string ⟨#[]⟩, .slice none 0 0]) 40 Tryz.underlying22 hi0 hz0 hz1 hz2 rfl (by decide) (.slice Az nz cz) zs a4 ho5 (some ⟨w4.heap.size, 0, none⟩) 1 [⟨a, S⟩] a6 (rowsM_one rfl hrow5 HC5.out) (fun _ _ _ _ h => przone_one h) (by unfold maxLen; simp; omega) (by simp; omega) HS5.out.bw rzone_kept rzone_sans rzone_more ?_
              intro zv6 w6 ho6 hg6 hat6
              have hfin := HS5.out.add HK.out ho6 hg6
              have hne6 : ∀ k, k < base → some k ≠ (Value.slice Az nz cz).ownBlock := fun k hk e => by have := (HS5.out.zown k e.symm).1; omega
              have hz6 : some zb ≠ (Value.slice Az nz cz).ownBlock := fun e => HZZ.out e.symm
              have hs5 := HB5.out.size
              have hKl := HK.out.low
              have hKp := HK.out.pb'
              replace xf := (hg6.cell_far ⟨w.heap.size, 0, none⟩ (by dsimp only; omega) (hne6 w.heap.size (by omega))).trans xf
              replace k0 := (hg6.cell_far ⟨zb, 0, none⟩ (by dsimp only; omega) hz6).trans k0
              replace k1 := (hg6.cell_far ⟨zb, 1, none⟩ (by dsimp only; omega) hz6).trans k1
              replace c5 := (hg6.cell_far ⟨pb, 5, none⟩ (by dsimp only; omega) (hne6 pb hKp)).trans c5
              have f6 := (hg6.frozen_far ⟨pb, 5, none⟩ (by dsimp only; omega) (hne6 pb hKp)).trans HS5.out.f5
              obtain ⟨rows6, _, hrw6, _, _⟩ := ho6
              obtain ⟨A6, c6, rfl⟩ := ownsRow_form hrw6
              obtain ⟨n6, hn6⟩ : ∃ n6, n6 = (zs ++ [(⟨a, S⟩ : Np.Zone)]).length := ⟨_, rfl⟩
              rw [← hn6] at hfin ⊢
              have HFIN := Lib.hid hfin
              clear hg6 hat6 hrw6 hfin hne6 hz6 hrow4 hrow5 ho5 hn6
              refine wpAny_act (w := w6) (D := [0, 1, 2, 3, 4, 5, 8, 9, 6, 7]) (A := [7, 6]) (p := 10) (dst := zdst) (val := zval pb (.slice Az nz cz) (.agg #[.string (bytesOf a), .slice A4 nS c4]) (.slice (some ⟨w4.heap.size, 0, none⟩) 1 1) (.slice A6 n6 c6)) (m := 53)
                (base := restBase a0 53 zdsts) (wellB_spec (by kernel_rfl)) (by simp) (by simp) (waitB_spec (by kernel_rfl)) ?_
                (fun i hi => (zdst_in i (by simp at hi ⊢; omega)).1) (fun i hi j hj => zdst_inj i (by simp at hi ⊢; omega) j (by simp at hj ⊢; omega)) (fun i hi => restBase_ne (zdst_in i (by simp at hi ⊢; omega)).2) ?_ ?_ _ _ _ (hH.act (D' := [0, 1, 2, 3, 4, 5, 8, 9, 6, 7]) (val' := zval pb (.slice Az nz cz) (.agg #[.string (bytesOf a), .slice A4 nS c4]) (.slice (some ⟨w4.heap.size, 0, none⟩) 1 1) (.slice A6 n6 c6)) hr (by simp) (fun i hi => by simp at hi ⊢; omega) (fun i hi => by simp at hi; rcases hi with rfl | rfl | rfl | rfl | rfl | rfl | rfl | rfl | rfl <;> rfl) rfl (by simp [zdst]) (fun j hj => zdst_inj 7 (by simp) j (by simp at hj ⊢; omega) (by rintro rfl; simp at hj)) (restBase_ne (zdst_in 7 (by simp)).2) (by simp))
              · intro i hi hiA
                simp only [List.mem_cons, List.not_mem_nil, or_false] at hi
                rcases hi with rfl | rfl | rfl | rfl | rfl | rfl | rfl | rfl | rfl | rfl
                all_goals first | (exfalso; simp at hiA; done) | exact ⟨_, rfl, rfl⟩
              · intro i hi hiA o ho a' hb hdep
                have k1' := (restBase_get hb (j := 1) (by decide) (by decide)).trans HA1.out
                have k2' := (restBase_get hb (j := 2) (by decide) (by decide)).trans HA2.out
                simp [Act.eval] at k1' k2'
                simp only [List.mem_cons, List.not_mem_nil, or_false] at hi
                rcases hi with rfl | rfl | rfl | rfl | rfl | rfl | rfl | rfl | rfl | rfl
                all_goals first
                  | (exfalso; simp at hiA; done)
                  | (cases ho
                     try simp [Act.eval, Region.binds, zval, zdst] at hdep
                     refine .inl ⟨by simp [Region.wanted], fun w' hw' => ?_⟩
                     subst hw'
                     simp [Oper.quietAt, Oper.quietUpon, execOp, go_sem, zval, k1', k2', xf, k0, k1, c5, hdep])
              · intro f listed a' hH hr
                obtain ⟨_, o, ho, hall⟩ := mem_ready.1 hr
                cases ho
                have hG := hH.good
                have hval := fun i hi hl => hG.val i hi hl
                have hlst : ∀ k, ({ on := k, ground := .data } : Edge) ∈ _ → listed.getD k false = true := fun k hk => hall _ hk rfl
                obtain ⟨rfl, hlast⟩ := hH.all hr (by kernel_rfl)
                have a7 := hval 7 (by simp) (hlast 7 (by simp) (by simp))
                have a9 := hval 9 (by simp) (hlast 9 (by simp) (by simp))
                simp [Act.eval, zval, zdst] at a7 a9
                have hframe := Held.frame (D := [0, 1, 2, 3, 4, 5, 8, 9, 6, 7]) (dst := zdst) (a0 := a0) (m := 53) hH HM.out (fun i hi => hlast i (by simp at hi ⊢; omega) (by simp at hi; omega)) (fun i hi => (zdst_in i (by simp at hi ⊢; omega)).1)
                simp only [wpOp]
                simp [Region.wanted]
                refine .inl ?_
                simp [Oper.wp, execOp, go_sem, a7, a9, c5, f6]
                refine ⟨ready_nil (fun i hi => ?_) (by rw [Array.size_setIfInBounds]; exact hG.size), ?_⟩
                · by_cases h17 : i = 10
                  · subst h17
                    have hs : 10 < listed.size := by rw [hG.size]; exact hi
                    simp [Array.getD, hs]
                  · exact listed_set (hlast i hi h17)
                · rw [hframe, HA0.out]
                  simp [putAll, Act.put, zval, zdst]
                  have hRR := file_ok (zs := zs) HNE.out HH.out HB4.out
                  rw [HX.out] at hRR
                  have hfew4 := (body_few (size := size) (apex := a) _ r' [] [] ds (Nat.le_refl _) hds).2 (by rw [HB4.out])
                  rw [HB4.out] at hfew4
                  have hi4 := hRR.2
                  rw [← HR4.out] at hi4
                  have HRR := Lib.hid hRR.1
                  simp at hi4
                  have hle4 := HFIN.out.pin.le
                  clear hRR hframe xf k0 k1 c5 f6 a7 a9 hval hlst hlast hall hG hH
                  go_wp2_with fail
                  go_roundg (toks.length + 1 - i4)
                  case rel => exact ⟨_, i4, _, _, _, _, _, by omega, by simp; omega, hfew4, Lib.hid (by rw [HR4.out]; exact HRR.out.symm), HFIN⟩
                  case measure => omega
      | err er r' =>
        refine HTRY.out.mono ?_
        rintro e w3 ⟨rfl, M3, i3, dv3, hr3, hS3⟩
        have HR3 := Lib.hid hr3
        obtain ⟨ds2, hds2⟩ : ∃ ds2, ds2 = ds ++ [(⟨er, Np.posT size r'⟩ : Np.Diag)] := ⟨_, rfl⟩
        rw [← hds2] at hS3
        have HD2 := Lib.hid hds2
        have hlen2 : ds2.length = ds.length + 1 := by rw [hds2]; simp
        have HXB := Lib.hid (file_bad (size := size) (zs := zs) (ds := ds) HNE.out HH.out)
        have hlf := Np.header_err_lt HH.out HNE.out
        have HLF := Lib.hid hlf
        replace hS3 : FileS pb w.heap.size mb dm bx b4 b6 b7 base (.slice At toks.length ct) toks size w M3 i3 K zs ds2 dv3 zv w3 := hS3
        have c6 := hS3.dg.c6
        obtain ⟨Ad, cd, hform⟩ := ownsRow_form hS3.dg.row
        subst hform
        have HS3 := Lib.hid hS3
        have xf := hS3.xf
        have hi3 := hS3.pin.le
        clear hS3 hr3 hds2 hlf HTRY
        go_wp2_with fail
        refine (full_any pb Ad ds2.length cd (by omega) w3 c6).mono ?_
        rintro e w4 ⟨rfl, rfl⟩
        clear c6
        by_cases h20 : 20 ≤ ds2.length
        · have h20d : decide (20 ≤ ds2.length) = true := by simpa using h20
          rw [h20d]
          clear h20d
          have hRR : R = (zs, ds2) := by rw [← HX.out, HXB.out, ← HD2.out, if_pos h20]
          have HRR := Lib.hid hRR
          clear hRR
          go_wp2_with fail
          go_end0
          rw [HRR.out]
          exact HS3.out.out (by omega) (by omega)
        · have h20d : decide (20 ≤ ds2.length) = false := by simpa using h20
          rw [h20d]
          clear h20d xf
          go_wp2_with fail
          go_loopg [] (toks.length + 1) (fun g wr => ∃ k : Nat, toks.length < g + k ∧ i3 ≤ k ∧ Hid (Np.skipZ (toks.drop k) = Np.skipZ r') ∧ Hid (FileS pb w.heap.size mb dm bx b4 b6 b7 base (.slice At toks.length ct) toks size w M3 k K zs ds2 (.slice Ad ds2.length cd) zv wr))
          case atStart => exact ⟨i3, by omega, Nat.le_refl _, Lib.hid (by rw [HR3.out]), HS3⟩
          case round =>
            obtain ⟨k, hgk, hik, HKR, HS5⟩ := hrel
            have xf := HS5.out.xf
            have c0 := HS5.out.pin.c0
            have c1 := HS5.out.pin.c1
            have hklen := HS5.out.pin.le
            have hgc : ∀ (g : Grow wr) (p : Addr), p.block < wr.heap.size → g.w.cell? p = wr.cell? p := fun g p h => g.cell p h
            have hpw3 : pb < wr.heap.size := HS5.out.pin.lt
            have hfw3 : w.heap.size < wr.heap.size := World.block_lt_of_cell? wr ⟨w.heap.size, 0, none⟩ xf
            by_cases hkl : k < toks.length
            · have hkI : (k : Int) < (toks.length : Int) := by omega
              have hkd : decide ((k : Int) < (toks.length : Int)) = true := by simpa using hkI
              obtain ⟨cz, hcz⟩ : ∃ b, Np.isW Np.wZone (toks.drop k) = b := ⟨_, rfl⟩
              have hcall1 : ∀ g : Grow wr, Calls Tryz.prog 102 #[.pointer (some ⟨pb, 0, none⟩), .string ⟨#[122, 111, 110, 101]⟩] g.w fun e w' => e = .returned (.bool cz) ∧ Below g.w.heap.size g.w w' := fun g => isWord_is pb _ toks size k ⟨#[122, 111, 110, 101]⟩ _ cz (HS5.out.pin.keep g.below hpw3) hcz
              have HC1 := Lib.hid hcall1
              have HCZ := Lib.hid hcz
              clear hcall1 hcz
              cases cz with
              | true =>
                go_wp2_with fail
                refine wp_region_grow (by kernel_rfl) (by kernel_rfl) ?_
                repeat (go_big_quiet_step (fail))
                go_big_quiet_step ((go_at_call 102; exact Calls.grow_of (HC1.out _)))
                repeat (go_big_quiet_step (fail))
                refine wpQuiet_nil ?_
                rintro _ ⟨g, rfl⟩
                have HS6 := Lib.hid (HS5.out.grow HK.out g.below)
                have hsk : Np.skipZ r' = toks.drop k := by rw [← HKR.out]; exact skipZ_here hkl HCZ.out
                have hlt6 : i' < k := by have := HLF.out; rw [hsk] at this; simp at this; omega
                have HSK := Lib.hid hsk
                clear hgc c0 c1 xf hsk
                generalize hw5 : g.w = w5 at *
                clear hw5
                go_wp2_with fail
                go_roundg (toks.length + 1 - k)
                case rel =>
                  refine ⟨M3, k, K, zs, ds2, _, zv, by omega, by omega, by omega, Lib.hid ?_, HS6⟩
                  rw [← HX.out, HXB.out, ← HD2.out, if_neg h20, HSK.out]
                case measure => omega
              | false =>
                go_wp2_with fail
                refine wp_region_grow (by kernel_rfl) (by kernel_rfl) ?_
                repeat (go_big_quiet_step (fail))
                go_big_quiet_step ((go_at_call 102; exact Calls.grow_of (HC1.out _)))
                repeat (go_big_quiet_step (fail))
                refine wpQuiet_nil ?_
                rintro _ ⟨g, rfl⟩
                have HS6 := Lib.hid (HS5.out.grow HK.out g.below)
                have y1 := HS6.out.xf
                have yc := HS6.out.pin.c1
                have yf := HS6.out.pin.fz
                have hwr := step_w (i := k) (n := toks.length) (by omega) hfew
                have HS7 := Lib.hid (HS6.out.next HK.out (j := k + 1) (n := (k : Int) + 1) (by omega) (by push_cast; rfl))
                clear hgc c0 c1 xf
                generalize hw5 : g.w = w5 at *
                clear hw5
                go_wp2_with fail
                go_roundg (toks.length + 1 - (k + 1))
                case rel =>
                  refine ⟨k + 1, by omega, by omega, Lib.hid ?_, HS7⟩
                  rw [← HKR.out, skipZ_more hkl HCZ.out]
                case measure => omega
            · have hkI : ¬ (k : Int) < (toks.length : Int) := by omega
              have hkd : decide ((k : Int) < (toks.length : Int)) = false := by simpa using hkI
              go_wp2_with fail
              refine wp_region_grow (by kernel_rfl) (by kernel_rfl) ?_
              repeat (go_big_quiet_step (fail))
              refine wpQuiet_nil ?_
              rintro _ ⟨g, rfl⟩
              have HS6 := Lib.hid (HS5.out.grow HK.out g.below)
              have hnil : toks.drop k = [] := drop_none (by omega)
              have hsk : Np.skipZ r' = toks.drop k := by rw [← HKR.out, hnil]; rfl
              have hlt6 : i' < k := by have := HLF.out; rw [hsk] at this; simp at this; omega
              have HSK := Lib.hid hsk
              clear hgc c0 c1 xf hsk hnil
              generalize hw5 : g.w = w5 at *
              clear hw5
              go_wp2_with fail
              go_roundg (toks.length + 1 - k)
              case rel =>
                refine ⟨M3, k, K, zs, ds2, _, zv, by omega, by omega, by omega, Lib.hid ?_, HS6⟩
                rw [← HX.out, HXB.out, ← HD2.out, if_neg h20, HSK.out]
              case measure => omega
end Go.Proofs.YtnbolgdccdnjeaaGreatDoor
/- The parser: Parse: contract. -/
namespace Go.Proofs.YtnbolgdccdnjeaaGreatDoor
open Go.RowKit
theorem tokOf_W {c : UInt8} {r : List UInt8} (h0 : Np.width (c :: r) ≠ 0) (hg : ¬ (Np.cls c = 1 ∨ Np.cls c = 2)) (he : (Np.tokOf (Np.cls c) ((c :: r).take (Np.width (c :: r)))).1 = 0) : TokW (Np.tokOf (Np.cls c) ((c :: r).take (Np.width (c :: r)))).2 := by
  have hle := Np.width_le (c :: r)
  obtain ⟨s, hs⟩ : ∃ s, s = (c :: r).take (Np.width (c :: r)) := ⟨_, rfl⟩
  have hlen : s.length = Np.width (c :: r) := by rw [hs, List.length_take]; omega
  have hhd : s.head? = some c := by
    obtain ⟨m, hm⟩ : ∃ m, Np.width (c :: r) = m + 1 := ⟨Np.width (c :: r) - 1, by omega⟩
    rw [hs, hm]; rfl
  have hne : s ≠ [] := fun e => by rw [e] at hhd; cases hhd
  have hq : c = 34 → Np.cls c = 6 := fun e => by rw [e]; decide
  rw [← hs] at he ⊢
  unfold Np.tokOf at he ⊢
  split
  · rename_i h7
    have hw : Np.width (c :: r) = 1 := by simp only [Np.width, h7]
    refine ⟨fun h => by simp at h, by dsimp only; omega, by dsimp only; omega, by dsimp only; omega, fun h => ?_⟩
    dsimp only at h
    rw [hhd] at h
    have := hq (by simpa using h)
    omega
  · rename_i h7
    rw [if_neg h7] at he
    split
    · rename_i h6
      rw [if_pos h6] at he
      split
      · rename_i h42; rw [if_pos h42] at he; simp at he
      · refine ⟨fun _ => hne, by dsimp only; omega, by dsimp only; omega, by dsimp only; omega, fun _ => ?_⟩
        have hw : Np.width (c :: r) = Np.quoteW r := by simp only [Np.width, h6]
        rw [hw] at h0 hlen
        unfold Np.quoteW at h0 hlen
        split at h0
        · rename_i hq2
          rw [if_pos hq2] at hlen
          dsimp only; omega
        · exact absurd rfl h0
    · rename_i h6
      rw [if_neg h6] at he
      split
      · rename_i hd
        rw [if_pos hd] at he
        split
        · rename_i h60; rw [if_pos h60] at he; simp at he
        · refine ⟨fun _ => hne, by dsimp only; omega, by dsimp only; omega, by dsimp only; omega, fun h => ?_⟩
          dsimp only at h
          rw [hhd] at h
          exact absurd (hq (by simpa using h)) h6
      · rename_i hd
        rw [if_neg hd] at he
        split
        · rename_i h1; rw [if_pos h1] at he; simp at he
        · rename_i h1
          rw [if_neg h1] at he
          split
          · rename_i h2; rw [if_pos h2] at he; simp at he
          · exact ⟨fun h => by simp at h, by simp, by dsimp only; omega, by dsimp only; omega, fun h => by simp at h⟩
theorem lex_W : ∀ (n : Nat) (s : List UInt8) (p k : Nat), s.length ≤ n → ∀ t ∈ (Np.lexFrom s p k).1, TokW t := by
  intro n
  induction n with
  | zero =>
    intro s p k hn
    have : s = [] := List.eq_nil_of_length_eq_zero (by omega)
    subst this
    simp [Np.lexFrom]
  | succ n ih =>
    intro s p k hn
    cases s with
    | nil => simp [Np.lexFrom]
    | cons c r =>
      have hle := Np.width_le (c :: r)
      by_cases hg : Np.cls c = 1 ∨ Np.cls c = 2
      · have hw := Np.width_gap (r := r) hg
        rw [Np.lexFrom_gap p k hg]
        exact ih _ _ k (by simp at hn ⊢; omega)
      · by_cases h0 : Np.width (c :: r) = 0
        · rw [Np.lexFrom_bad p k hg h0]; simp
        · by_cases hk2 : k = 2000
          · subst hk2
            rw [Np.lexFrom_limit p hg h0]; simp
          · by_cases he : (Np.tokOf (Np.cls c) ((c :: r).take (Np.width (c :: r)))).1 = 0
            · rw [Np.lexFrom_tok p k hg h0 hk2 he]
              intro t ht
              rcases List.mem_cons.1 ht with rfl | ht
              · exact tokOf_W h0 hg he
              · exact ih ((c :: r).drop (Np.width (c :: r))) (p + Np.width (c :: r)) (k + 1) (by simp at hn ⊢; omega) t ht
            · rw [Np.lexFrom_err p k hg h0 hk2 he]; simp
theorem lexed_W {s : List UInt8} {l : List Np.Tok} {q : Nat} (h : Np.lex s = (l, 0, q)) : ∀ t ∈ l, TokW t := by
  obtain ⟨h8, h⟩ := Np.lex_ok h
  have h1 := lex_W _ s 0 0 (Nat.le_refl _)
  rw [h] at h1
  exact h1
/-- What Parse hands back. -/
def GivesParse (w : World) (x : List Np.Zone × List Np.Diag) (e : Ending) (w' : World) : Prop :=
  ∃ zv dv, e = .returned (.tuple #[zv, dv]) ∧ SlR RZone 2 w' w'.heap.size zv x.1 ∧ SlR RDiag 2 w' w'.heap.size dv x.2 ∧ Below w.heap.size w w'
theorem pslr_none {α : Type} {R : World → Nat → List Value → α → Prop} {sz : Nat} (w : World) (B : Nat) : SlR R sz w B (.slice none 0 0) [] := ⟨none, 0, rfl, by simp, by simp, fun i x h => by simp at h⟩
/-- Where file starts. -/
theorem parse_start {w1 w4 : World} {v : Value} {toks : List Np.Tok} {n : Nat} (hsl : SlR RTok 4 w1 w1.heap.size v toks) (hfew : toks.length ≤ 2000) (hW : ∀ t ∈ toks, TokW t) (hR : RulesIn w1 w1.heap.size) {b4 b6 b7 : Nat} {W3 : World}
    (hW3 : W3 = (w1.alloc (.map #[] 0)).alloc (.cells #[v, .int .i64 0, .int .i64 n, .map none, .map (some w1.heap.size), .slice none 0 0, .slice none 0 0] 101)) (hb : Below W3.heap.size W3 w4) (hD : DataAt (w1.heap.size + 1) (W3.heap.size + 1) W3.heap.size b4 b6 b7 w4) (w5 : World)
    (hw5 : w5 = w4.setCell ⟨w1.heap.size + 1, 3, none⟩ (.map (some (W3.heap.size + 1)))) :
    PIn w5 (w1.heap.size + 1) v toks n 0 ∧ w5.cell? ⟨w1.heap.size + 1, 3, none⟩ = some (.map (some (W3.heap.size + 1))) ∧ DataAt (w1.heap.size + 1) (W3.heap.size + 1) W3.heap.size b4 b6 b7 w5 ∧ w5.cell? ⟨w1.heap.size + 1, 4, none⟩ = some (.map (some w1.heap.size)) ∧ KnownM w1.heap.size [] w5 ∧
      w5.cell? ⟨w1.heap.size + 1, 5, none⟩ = some (.slice none 0 0) ∧ w5.frozen? ⟨w1.heap.size + 1, 5, none⟩ = false ∧ w5.cell? ⟨w1.heap.size + 1, 6, none⟩ = some (.slice none 0 0) ∧ w5.frozen? ⟨w1.heap.size + 1, 6, none⟩ = false ∧
      (W3.heap.size + 1 < w5.heap.size ∧ W3.heap.size < w5.heap.size ∧ b4 + 1 < w5.heap.size ∧ b6 + 1 < w5.heap.size ∧ b7 + 1 < w5.heap.size) ∧
      (w1.heap.size ≠ W3.heap.size + 1 ∧ w1.heap.size ≠ W3.heap.size ∧ w1.heap.size ≠ b4 ∧ w1.heap.size ≠ b4 + 1 ∧ w1.heap.size ≠ b6 ∧ w1.heap.size ≠ b6 + 1 ∧ w1.heap.size ≠ b7 ∧ w1.heap.size ≠ b7 + 1) ∧ Below w1.heap.size w1 w5 := by
  obtain ⟨W2, hW2⟩ : ∃ W2, W2 = w1.alloc (.map #[] 0) := ⟨_, rfl⟩
  rw [← hW2] at hW3
  have s2 : W2.heap.size = w1.heap.size + 1 := by rw [hW2]; simp
  have s3 : W3.heap.size = w1.heap.size + 2 := by rw [hW3, World.size_alloc, s2]
  have k2 : Below w1.heap.size w1 W2 := by rw [hW2]; exact (Below.refl _ _).alloc (Nat.le_refl _) _
  have k3 : Below W2.heap.size W2 W3 := by rw [hW3]; exact (Below.refl _ _).alloc (Nat.le_refl _) _
  have hpbk : ∀ j u, #[v, .int .i64 0, .int .i64 n, .map none, .map (some w1.heap.size), .slice none 0 0, .slice none 0 0][j]? = some u → w4.cell? ⟨w1.heap.size + 1, j, none⟩ = some u := fun j u hj => by
    have h0 : W3.cell? ⟨w1.heap.size + 1, j, none⟩ = some u := by rw [← s2, hW3, World.cell?_alloc_new]; exact hj
    exact (hb.cell (p := ⟨w1.heap.size + 1, j, none⟩) (by dsimp only; omega)).trans h0
  have hpbf : ∀ j, w4.frozen? ⟨w1.heap.size + 1, j, none⟩ = false := fun j => by
    have hh : w4.heap[w1.heap.size + 1]? = some (.cells #[v, .int .i64 0, .int .i64 n, .map none, .map (some w1.heap.size), .slice none 0 0, .slice none 0 0] 101 (0, 0)) := by
      rw [hb.block _ (by omega), hW3, ← s2]; exact heap_alloc_new _ _
    simp [World.frozen?, hh]
  have hc5 : ∀ j u, j ≠ 3 → w4.cell? ⟨w1.heap.size + 1, j, none⟩ = some u → w5.cell? ⟨w1.heap.size + 1, j, none⟩ = some u := fun j u hj h => by
    rw [hw5, World.cell?_setCell_other _ _ _ _ (by intro e; cases e; exact hj rfl)]; exact h
  have hf5 : ∀ j, w5.frozen? ⟨w1.heap.size + 1, j, none⟩ = false := fun j => by rw [hw5, World.frozen?_setCell]; exact hpbf j
  have hbl : Below w1.heap.size w1 w5 := by
    rw [hw5]
    exact ((k2.trans (k3.mono (by omega))).trans (hb.mono (by omega))).setCell (by dsimp only; omega) _
  have hs5 : w5.heap.size = w4.heap.size := by rw [hw5]; simp [World.setCell]
  have hmap : KnownM w1.heap.size [] w5 := by
    have h0 : KnownM w1.heap.size [] W2 := by rw [hW2]; exact KnownM.made _
    refine h0.keep ?_
    rw [hw5, Below.heap_setCell _ _ _ _ (by dsimp only; omega), hb.block _ (by omega), k3.block _ (by omega)]
  have hD5 : DataAt (w1.heap.size + 1) (W3.heap.size + 1) W3.heap.size b4 b6 b7 w5 := hD.keep (fun k _ hs => by
    rw [hw5]
    exact Below.heap_setCell _ _ _ _ (by have := hD.far; dsimp only; omega))
  have l1 := World.block_lt_of_cell? w5 ⟨W3.heap.size, 0, none⟩ hD5.box
  have l4 := World.block_lt_of_cell? w5 ⟨b4 + 1, 0, none⟩ hD5.u4
  have l6 := World.block_lt_of_cell? w5 ⟨b6 + 1, 0, none⟩ hD5.u6
  have l7 := World.block_lt_of_cell? w5 ⟨b7 + 1, 0, none⟩ hD5.u7
  have lm := (Array.getElem?_eq_some_iff.1 hD5.map).1
  have hfar := hD.far
  dsimp only at l1 l4 l6 l7
  exact ⟨⟨hc5 0 _ (by omega) (hpbk 0 _ rfl), hc5 1 _ (by omega) (hpbk 1 _ rfl), hc5 2 _ (by omega) (hpbk 2 _ rfl), by rw [Nat.add_sub_cancel]; exact hsl.keep rtok_kept hbl, Nat.zero_le _, hf5 1, hfew, hW, by rw [Nat.add_sub_cancel]; exact hR.keep hbl⟩,
    by rw [hw5]; exact World.cell?_setCell_same (w := w4) (a := ⟨w1.heap.size + 1, 3, none⟩) (v := .map (some (W3.heap.size + 1))) (hpbk 3 _ rfl), hD5, hc5 4 _ (by omega) (hpbk 4 _ rfl), hmap, hc5 5 _ (by omega) (hpbk 5 _ rfl), hf5 5, hc5 6 _ (by omega) (hpbk 6 _ rfl), hf5 6, ⟨lm, l1, l4, l6, l7⟩, by omega, hbl⟩
set_option maxRecDepth 100000 in
set_option maxHeartbeats 4000000 in
theorem parse_any (s : ByteArray) (hs : s.size ≤ 140737488355328) (w : World) (hE : ErrIn w) (hR : RulesIn w w.heap.size) :
    Calls Tryz.prog 23 #[.string s] w (GivesParse w (Np.parse s.data.toList)) := by
  have HL := Lib.hid (lex_any s hs w hE)
  have HRU := Lib.hid hR
  obtain ⟨x, hx⟩ : ∃ x, Np.lex s.data.toList = x := ⟨_, rfl⟩
  rw [hx] at HL
  have HXX := Lib.hid hx
  obtain ⟨toks, er, q⟩ := x
  have hmm : ∀ w : World, (Instr.makeMap 79 none).run Tryz.prog w = .ok (.map (some w.heap.size)) (w.alloc (.map #[] 0)) := fun w => by kernel_rfl
  clear hE hR hx
  go_enter Tryz.func23, Tryz.ntmps23
  go_wp2_with fail
  refine HL.out.mono ?_
  rintro e w1 ⟨v, rfl, hsl, hb1⟩
  dsimp only at hsl ⊢
  have HB1 := Lib.hid hb1
  by_cases he : er = 0
  case neg =>
    have heI : (er != 0) = true := by simpa using he
    have HPP := Lib.hid (show Np.parse s.data.toList = ([], [⟨er, q⟩]) by rw [Np.parse_bad (by rw [HXX.out]; exact he), HXX.out])
    clear hsl hb1 hmm
    go_wp2_with fail
    refine bodyPost_ret (results_tmp2 rfl _ _ _) rfl ?_
    rw [HPP.out]
    refine ⟨_, _, rfl, pslr_none _ _, ?_, HB1.out.trans ((Below.refl _ _).alloc (HB1.out.size) _)⟩
    exact slr_fresh encG (fun _ _ => rfl) rfl rfl (by simp) (fun _ _ _ _ => rfl)
  case pos =>
    subst he
    obtain ⟨At, ct, rfl, -, -⟩ := slr_form hsl
    have HSL := Lib.hid hsl
    clear hsl hb1
    obtain ⟨nt, hnt⟩ : ∃ nt, nt = toks.length := ⟨_, rfl⟩
    have HNT := Lib.hid hnt
    rw [← hnt] at HSL ⊢
    clear hnt
    have HLP := Lib.hid (Np.lex_placed HXX.out)
    have HLW := Lib.hid (lexed_W HXX.out)
    go_wp2_with fail
    clear hmm
    obtain ⟨W3, hW3⟩ : ∃ W3, W3 = (w1.alloc (.map #[] 0)).alloc (.cells #[.slice At nt ct, .int .i64 0, .int .i64 s.size, .map none, .map (some w1.heap.size), .slice none 0 0, .slice none 0 0] 101) := ⟨_, rfl⟩
    rw [← hW3]
    have hs3 : W3.heap.size = w1.heap.size + 2 := by rw [hW3]; simp
    refine (dataReaders_any (w1.heap.size + 1) W3 (by omega)).mono ?_
    rintro e w4 ⟨b4, b6, b7, rfl, hb4, hD4⟩
    have hst := parse_start HSL.out HLP.out.2.2.1 HLW.out ((HRU.out.keep HB1.out).more HB1.out.size) hW3 hb4 hD4 _ rfl
    have hh4 : w4.heap[w1.heap.size + 1]? = some (.cells #[.slice At nt ct, .int .i64 0, .int .i64 s.size, .map none, .map (some w1.heap.size), .slice none 0 0, .slice none 0 0] 101 (0, 0)) := by
      rw [hb4.block _ (by omega), hW3]
      have hh := heap_alloc_new (w1.alloc (.map #[] 0)) (.cells #[.slice At nt ct, .int .i64 0, .int .i64 s.size, .map none, .map (some w1.heap.size), .slice none 0 0, .slice none 0 0] 101)
      rw [show (w1.alloc (.map #[] 0)).heap.size = w1.heap.size + 1 by simp] at hh
      exact hh
    have c3 : w4.cell? ⟨w1.heap.size + 1, 3, none⟩ = some (.map none) := by simp [World.cell?, hh4]
    have f3 : w4.frozen? ⟨w1.heap.size + 1, 3, none⟩ = false := by simp [World.frozen?, hh4]
    have HST := Lib.hid hst
    clear hW3 hb4 hD4 hst hh4 hs3
    go_wp2_with fail
    clear c3 f3
    obtain ⟨w5, hw5⟩ : ∃ w5, w5 = w4.setCell ⟨w1.heap.size + 1, 3, none⟩ (.map (some (W3.heap.size + 1))) := ⟨_, rfl⟩
    rw [← hw5] at HST ⊢
    clear hw5
    obtain ⟨p1, p2, p3, p4, p5, p6, p7, p8, p9, p10, p11, p12⟩ := HST.out
    have HB5 := Lib.hid (HB1.out.trans (p12.mono HB1.out.size))
    refine (file_any (w1.heap.size + 1) w1.heap.size _ _ b4 b6 b7 _ toks s.size w5 HLP.out.2.1 p1 p2 p3 p4 p5 p6 p7 p8 p9 p10 ⟨by omega, by omega⟩ p11).mono ?_
    rintro e w6 ⟨rfl, dv, zv, q6, q5, hdv, hzv, hb6⟩
    rw [Nat.add_sub_cancel] at hb6
    have HB6 := Lib.hid (HB5.out.trans (hb6.mono HB1.out.size))
    obtain ⟨Ad, cd, rfl, -, -⟩ := slr_form hdv
    obtain ⟨Az, cz, rfl, -, -⟩ := slr_form hzv
    have HDV := Lib.hid hdv
    have HZV := Lib.hid hzv
    clear p1 p2 p3 p4 p5 p6 p7 p8 p9 p10 p11 p12 HST hb6 hdv hzv
    obtain ⟨F, hF⟩ : ∃ F, Np.fileR s.size [] [] [] toks = F := ⟨_, rfl⟩
    have hsz : ((s.data.toList.length : Nat) : Int) = s.size := rfl
    have hPP := Np.parse_of HXX.out
    rw [hsz, hF] at hPP
    rw [hF] at q6 q5 HDV HZV
    have HPP := Lib.hid hPP
    clear hPP hF hsz
    obtain ⟨zs, ds⟩ := F
    dsimp only at q6 q5 HDV HZV
    obtain ⟨nd, hnd⟩ : ∃ nd, nd = ds.length := ⟨_, rfl⟩
    obtain ⟨nz, hnz⟩ : ∃ nz, nz = zs.length := ⟨_, rfl⟩
    rw [← hnd] at q6 HDV
    rw [← hnz] at q5 HZV
    by_cases hds : ds = []
    · have h0 : nd = 0 := by rw [hnd, hds]; rfl
      subst h0
      have HPQ := Lib.hid (show Np.parse s.data.toList = (zs, []) by rw [HPP.out, if_pos hds])
      clear hnd hnz hds
      go_wp2_with fail
      refine bodyPost_ret (results_tmp2 rfl _ _ _) rfl ?_
      rw [HPQ.out]
      exact ⟨_, _, rfl, HZV.out, pslr_none _ _, HB6.out⟩
    · have h0 : (0 : Int) < (nd : Int) := by
        have : 0 < ds.length := List.length_pos_iff.2 hds
        omega
      have HPQ := Lib.hid (show Np.parse s.data.toList = ([], ds) by rw [HPP.out, if_neg hds])
      clear hnd hnz hds
      go_wp2_with fail
      go_quiet (fail)
      go_wp2_with fail
      refine bodyPost_ret (results_tmp2 rfl _ _ _) rfl ?_
      rw [HPQ.out]
      exact ⟨_, _, rfl, pslr_none _ _, HDV.out.later rdiag_kept rdiag_more (below_drewN (Below.refl _ _) _), below_drewN HB6.out _⟩
end Go.Proofs.YtnbolgdccdnjeaaGreatDoor
