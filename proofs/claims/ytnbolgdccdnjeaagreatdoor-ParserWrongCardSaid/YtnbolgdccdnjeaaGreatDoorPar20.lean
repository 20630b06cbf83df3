/- The parser: the entries of a zone: contract. -/
import Derived.Test.YtnbolgdccdnjeaaGreatDoorQE
namespace Go.Proofs.YtnbolgdccdnjeaaGreatDoor
open Go.RowKit
/-- What the sets so far are. -/
structure AccOk (apex : List UInt8) (sets : List (List UInt8 × Int)) (acc : List Np.Signed) : Prop where
  sr : ∀ x ∈ acc, x.sigs = [] ∧ Np.SR apex x.set ∧ Np.keyS x.set ∈ sets
  nd : (acc.map fun x => Np.keyS x.set).Nodup
theorem AccOk.nil (apex : List UInt8) (sets : List (List UInt8 × Int)) : AccOk apex sets [] := ⟨fun x h => by simp at h, by simp⟩
theorem AccOk.snoc {apex : List UInt8} {sets : List (List UInt8 × Int)} {acc : List Np.Signed} {s : Np.DSet} (h : AccOk apex sets acc) (hs : Np.SR apex s) (hn : (s.name, s.type) ∉ sets) : AccOk apex ((s.name, s.type) :: sets) (acc ++ [⟨s, []⟩]) := by
  refine ⟨fun x hx => ?_, ?_⟩
  · rcases List.mem_append.1 hx with hx | hx
    · obtain ⟨a, b, c⟩ := h.sr x hx
      exact ⟨a, b, List.mem_cons_of_mem _ c⟩
    · simp at hx; subst hx; exact ⟨rfl, hs, by simp [Np.keyS]⟩
  · rw [List.map_append, List.nodup_append]
    refine ⟨h.nd, by simp, fun a ha b hb => ?_⟩
    obtain ⟨y, hy, rfl⟩ := List.mem_map.1 ha
    simp at hb
    subst hb
    intro e
    exact hn (by have := (h.sr y hy).2.2; rw [e] at this; exact this)
theorem AccOk.parts {apex : List UInt8} {sets : List (List UInt8 × Int)} {acc : List Np.Signed} (h : AccOk apex sets acc) : (∀ x ∈ acc, Np.validSet x.set = true) ∧ ∀ i j (hi : i < acc.length) (hj : j < acc.length), Np.cmpSet acc[i].set acc[j].set = 0 → i = j := by
  refine ⟨fun x hx => (h.sr x hx).2.1.2.2.1, fun i j hi hj he => ?_⟩
  rw [Np.cmpSet_key] at he
  have e1 := Np.toKey.zero _ _ he
  have hnd := List.pairwise_iff_getElem.1 h.nd
  rcases Nat.lt_trichotomy i j with hl | hl | hl
  · exact absurd (by rw [List.getElem_map, List.getElem_map]; exact e1) (hnd i j (by simpa using hi) (by simpa using hj) hl)
  · exact hl
  · exact absurd (by rw [List.getElem_map, List.getElem_map]; exact e1.symm) (hnd j i (by simpa using hj) (by simpa using hi) hl)
theorem body_end {size : Int} {apex : List UInt8} {sets : List (List UInt8 × Int)} {acc : List Np.Signed} {ds : List Np.Diag} {r : List Np.Tok} (h : Np.isS [125] r = true) : Np.bodyR size apex sets acc ds r = (true, Np.sortS acc, ds, r.tail) := by
  rw [Np.bodyR, if_pos h]
theorem body_more {size : Int} {apex : List UInt8} {sets : List (List UInt8 × Int)} {acc : List Np.Signed} {ds : List Np.Diag} {r r' : List Np.Tok} {s : Np.DSet} (h : Np.isS [125] r = false) (he : Np.entryR apex sets r = .ok s r') : Np.bodyR size apex sets acc ds r = Np.bodyR size apex ((s.name, s.type) :: sets) (acc ++ [⟨s, []⟩]) ds r' := by
  rw [Np.bodyR, h, if_neg (by simp), he]
  dsimp only
  rw [if_pos (Np.entryR_lt he)]
theorem body_bad {size : Int} {apex : List UInt8} {sets : List (List UInt8 × Int)} {acc : List Np.Signed} {ds : List Np.Diag} {r r' : List Np.Tok} {er : Int} (h : Np.isS [125] r = false) (he : Np.entryR apex sets r = .err er r') :
    Np.bodyR size apex sets acc ds r = if 20 ≤ (ds ++ [Np.Diag.mk er (Np.posT size r')]).length then (false, acc, ds ++ [⟨er, Np.posT size r'⟩], r')
      else if Np.skipR r' = [] then (false, acc, ds ++ [⟨er, Np.posT size r'⟩], [])
      else if Np.isS [59] (Np.skipR r') = true then Np.bodyR size apex sets acc (ds ++ [⟨er, Np.posT size r'⟩]) (Np.skipR r').tail
      else Np.bodyR size apex sets acc (ds ++ [⟨er, Np.posT size r'⟩]) (Np.skipR r') := by
  rw [Np.bodyR, h, if_neg (by simp), he]
  dsimp only
  split
  · rfl
  · split
    · rfl
    · rename_i hne
      have hf := Np.entryR_fine apex sets r
      rw [he] at hf
      have h1 := (Np.skipR_suf r').length_le
      have h2 := hf.1.length_le
      split
      · rename_i h59
        have h3 := Np.isS_ne h59
        rw [if_pos (by omega)]
      · rename_i h59
        rw [if_pos]
        apply Decidable.byContradiction
        intro hlt
        have e1 := Np.suf_eq hf.1 (by omega)
        subst e1
        have e2 := Np.suf_eq (Np.skipR_suf r') hlt
        have hst := Np.skipR_stop r' hne
        rw [e2] at hst h59
        have h59 : Np.isS [59] r' = false := by simpa using h59
        rw [h, h59] at hst
        cases hst
theorem body_left {apex : List UInt8} {sets : List (List UInt8 × Int)} {r r' : List Np.Tok} {er : Int} (h : Np.isS [125] r = false) (he : Np.entryR apex sets r = .err er r') (hne : Np.skipR r' ≠ []) :
    (Np.isS [59] (Np.skipR r') = true → (Np.skipR r').tail.length < r.length) ∧ (Np.isS [59] (Np.skipR r') = false → (Np.skipR r').length < r.length) := by
  have hf := Np.entryR_fine apex sets r
  rw [he] at hf
  have h1 := (Np.skipR_suf r').length_le
  have h2 := hf.1.length_le
  refine ⟨fun h59 => ?_, fun h59 => ?_⟩
  · have h3 := Np.isS_ne h59
    omega
  · apply Decidable.byContradiction
    intro hlt
    have e1 := Np.suf_eq hf.1 (by omega)
    subst e1
    have e2 := Np.suf_eq (Np.skipR_suf r') hlt
    have hst := Np.skipR_stop r' hne
    rw [e2] at hst h59
    rw [h, h59] at hst
    cases hst
theorem skip_more {toks : List Np.Tok} {k : Nat} (hk : k < toks.length) (h1 : Np.isS [125] (toks.drop k) = false) (h2 : Np.isS [59] (toks.drop k) = false) : Np.skipR (toks.drop (k + 1)) = Np.skipR (toks.drop k) := by
  rw [drop_some hk] at h1 h2 ⊢
  rw [Np.skipR, h1, h2, if_neg (by simp)]
/-- What the entries of a zone come to. -/
def BodyOut (pb zb base : Nat) (tv : Value) (toks : List Np.Tok) (size : Int) (apex : List UInt8) (w : World) (d0 : Value) (x : Bool × List Np.Signed × List Np.Diag × List Np.Tok) (e : Ending) (w' : World) : Prop :=
  e = .returned (.bool x.1) ∧ ∃ i' dv v, toks.drop i' = x.2.2.2 ∧ PIn w' pb tv toks size i' ∧ DgM base pb dv x.2.2.1 w' ∧ w'.cell? ⟨zb, 0, none⟩ = some (.string (bytesOf apex)) ∧ w'.cell? ⟨zb, 1, none⟩ = some v ∧
    (x.1 = true → SlR RSigned 5 (sansP w' (fun k => k < w.heap.size ∨ dv.ownBlock = some k)) w'.heap.size v x.2.1) ∧ Fr (fun k => k = zb ∨ d0.ownBlock = some k) pb w w' ∧ (dv.ownBlock = d0.ownBlock ∨ ∃ g, dv.ownBlock = some g ∧ w.heap.size ≤ g)
/-- Where the loop starts. -/
theorem body_start (pb zb dm bx b4 b6 b7 base : Nat) (tv : Value) (toks : List Np.Tok) (size : Int) (i : Nat) (apex : List UInt8) (ds : List Np.Diag) (d0 : Value) (w : World)
    (hP : PIn w pb tv toks size i) (c3 : w.cell? ⟨pb, 3, none⟩ = some (.map (some dm))) (hD : DataAt pb dm bx b4 b6 b7 w) (hG : DgM base pb d0 ds w) (z0 : w.cell? ⟨zb, 0, none⟩ = some (.string (bytesOf apex))) (z1 : w.cell? ⟨zb, 1, none⟩ = some (.slice none 0 0)) (zf : w.frozen? ⟨zb, 1, none⟩ = false)
    (hlow : dm < base ∧ bx < base ∧ b4 + 1 < base ∧ b6 + 1 < base ∧ b7 + 1 < base) (hpb : pb < base) (hzl : base ≤ zb) (hdz : d0.ownBlock ≠ some zb) (W1 : World)
    (hW1 : W1 = (((w.alloc (.cells #[.pointer (some ⟨pb, 0, none⟩)] 127)).alloc (.cells #[.pointer (some ⟨zb, 0, none⟩)] 29)).alloc (.map #[] 0)).alloc (.cells #[.map (some (w.heap.size + 1 + 1))] 157)) :
    BodyS pb zb (w.heap.size + 1 + 1) (w.heap.size + 1) w.heap.size (w.heap.size + 1 + 1 + 1) dm bx b4 b6 b7 base (w.heap.size + 4) tv toks size apex w d0 i [] [] ds d0 (.slice none 0 0) W1 ∧
    BodyK pb zb (w.heap.size + 1 + 1) (w.heap.size + 1) w.heap.size (w.heap.size + 1 + 1 + 1) dm bx b4 b6 b7 base (w.heap.size + 4) w d0 := by
  have hpw := hP.lt
  have hzw : zb < w.heap.size := World.block_lt_of_cell? w ⟨zb, 0, none⟩ z0
  have hb : Below w.heap.size w W1 := by
    rw [hW1]
    exact ((((Below.refl _ _).alloc (Nat.le_refl _) _).alloc (by simp) _).alloc (by simp; omega) _).alloc (by simp; omega) _
  have hs : W1.heap.size = w.heap.size + 4 := by rw [hW1]; simp
  obtain ⟨Wa, hWa⟩ : ∃ Wa, Wa = w.alloc (.cells #[.pointer (some ⟨pb, 0, none⟩)] 127) := ⟨_, rfl⟩
  obtain ⟨Wb, hWb⟩ : ∃ Wb, Wb = Wa.alloc (.cells #[.pointer (some ⟨zb, 0, none⟩)] 29) := ⟨_, rfl⟩
  obtain ⟨Wc, hWc⟩ : ∃ Wc, Wc = Wb.alloc (.map #[] 0) := ⟨_, rfl⟩
  rw [← hWa, ← hWb, ← hWc] at hW1
  have sa : Wa.heap.size = w.heap.size + 1 := by rw [hWa]; simp
  have sb : Wb.heap.size = w.heap.size + 1 + 1 := by rw [hWb, World.size_alloc, sa]
  have sc : Wc.heap.size = w.heap.size + 1 + 1 + 1 := by rw [hWc, World.size_alloc, sb]
  have k1 : Below Wa.heap.size Wa Wb := by rw [hWb]; exact (Below.refl _ _).alloc (Nat.le_refl _) _
  have k2 : Below Wb.heap.size Wb Wc := by rw [hWc]; exact (Below.refl _ _).alloc (Nat.le_refl _) _
  have k3 : Below Wc.heap.size Wc W1 := by rw [hW1]; exact (Below.refl _ _).alloc (Nat.le_refl _) _
  have x1 : W1.cell? ⟨w.heap.size, 0, none⟩ = some (.pointer (some ⟨pb, 0, none⟩)) := by
    have h0 : Wa.cell? ⟨w.heap.size, 0, none⟩ = some (.pointer (some ⟨pb, 0, none⟩)) := by rw [hWa, World.cell?_alloc_new]; rfl
    exact (k3.cell (p := ⟨w.heap.size, 0, none⟩) (by dsimp only; omega)).trans ((k2.cell (p := ⟨w.heap.size, 0, none⟩) (by dsimp only; omega)).trans ((k1.cell (p := ⟨w.heap.size, 0, none⟩) (by dsimp only; omega)).trans h0))
  have x0 : W1.cell? ⟨w.heap.size + 1, 0, none⟩ = some (.pointer (some ⟨zb, 0, none⟩)) := by
    have h0 : Wb.cell? ⟨w.heap.size + 1, 0, none⟩ = some (.pointer (some ⟨zb, 0, none⟩)) := by rw [← sa, hWb, World.cell?_alloc_new]; rfl
    exact (k3.cell (p := ⟨w.heap.size + 1, 0, none⟩) (by dsimp only; omega)).trans ((k2.cell (p := ⟨w.heap.size + 1, 0, none⟩) (by dsimp only; omega)).trans h0)
  have hmq : MapQ (w.heap.size + 1 + 1) [] W1 := by
    have h0 : MapQ Wb.heap.size [] Wc := by rw [hWc]; exact MapQ.made _
    rw [sb] at h0
    exact h0.keep (k3.block _ (by omega))
  have x2 : W1.cell? ⟨w.heap.size + 1 + 1 + 1, 0, none⟩ = some (.map (some (w.heap.size + 1 + 1))) := by rw [← sc, hW1, World.cell?_alloc_new]; rfl
  exact ⟨⟨hP.keep hb hpw, (hb.cell (p := ⟨pb, 3, none⟩) hpw).trans c3, hD.below hb, hmq, hG.keep (hb.cell (p := ⟨pb, 6, none⟩) hpw) (hb.frozen (p := ⟨pb, 6, none⟩) hpw) (fun g hg => hb.block g (ownsRow_base hG.row g hg).2),
      (hb.cell (p := ⟨zb, 0, none⟩) hzw).trans z0, (hb.cell (p := ⟨zb, 1, none⟩) hzw).trans z1, (hb.frozen (p := ⟨zb, 1, none⟩) hzw).trans zf, OwnM.nil W1, x0, x1, x2, Fr.of_below hb hpw, .inl rfl, by omega⟩,
    ⟨by omega, hpb, hlow, hzl, hzw, by omega, by omega, by omega, by omega, by omega, fun g hg => ⟨(ownsRow_base hG.row g hg).1, (ownsRow_base hG.row g hg).2, fun e => hdz (by rw [hg, e])⟩⟩⟩
theorem OwnM.slrM {α : Type} {R : World → Nat → List Value → α → Prop} (hs : SansR R) {sz : Nat} {e : TypeId} {base : Nat} {M M2 : Nat → Prop} {w : World} {v : Value} {xs : List α} (h : OwnM R sz e base M w v xs) (hM2 : ∀ k, M2 k → M k) (hv : ∀ g, v.ownBlock = some g → ¬ M2 g) (hl : xs.length ≤ 140737488355328) : SlR R sz (sansP w M2) w.heap.size v xs := by
  obtain ⟨rows, h1, h2, h3, h4⟩ := h
  have hl' := OwnR.rows_len (w := sansP w M) (B := w.heap.size) h1 h4
  rcases h2.2 with ⟨rfl, h0⟩ | ⟨g, cap, cur, rfl, hb, hg, hnc, _⟩
  · have : xs = [] := List.eq_nil_of_length_eq_zero h0
    subst this
    exact ⟨none, 0, rfl, by simp, by simp, fun i x hx => by simp at hx⟩
  · refine ⟨_, cap, rfl, hnc, hl, fun i x hx => ?_⟩
    have hi := (List.getElem?_eq_some_iff.1 hx).1
    have hr := List.getElem?_eq_getElem (l := rows) (i := i) (by omega)
    obtain ⟨h5, h6⟩ := h4 i _ x hr hx
    refine ⟨g, 0, rows[i], rfl, (Array.getElem?_eq_some_iff.1 hg).1, h5, fun j u hj => ?_, hs _ _ _ _ _ _ hM2 h6⟩
    have h7 := h2.cells (g := g) rfl _ _ (flatten_at rows i j _ u hl' hr hj)
    have hadd : (⟨g, 0, none⟩ : Addr).add (i * sz + j) = ⟨g, 0 + i * sz + j, none⟩ := by unfold Addr.add; split <;> simp_all
    rw [hadd] at h7
    rw [sansP_cell_of (hv g rfl)]
    exact h7
section
variable {pb zb sb b0 b1 b2 dm bx b4 b6 b7 base B : Nat} {tv : Value} {toks : List Np.Tok} {size : Int} {apex : List UInt8} {W : World} {d0 : Value} {j : Nat} {sets : List (List UInt8 × Int)} {acc : List Np.Signed} {ds : List Np.Diag} {dv v : Value} {w w3 : World}
theorem body_done {L : List Np.Signed} (h : BodyS pb zb sb b0 b1 b2 dm bx b4 b6 b7 base B tv toks size apex W d0 j sets acc ds dv v w) (hK : BodyK pb zb sb b0 b1 b2 dm bx b4 b6 b7 base B W d0) (ho : OwnM RSigned 5 41 B (Mb B dv v) w3 v L) (hg : w.grownBy w3 v.ownBlock) (hL : L.length ≤ 2000) :
    BodyOut pb zb base tv toks size apex W d0 (true, L, ds, toks.drop j) (.returned (.bool true)) w3 := by
  have hWw := h.fr.size
  have hpz := hK.pz
  have hzW := hK.zW
  have hWB := hK.WB
  have hbW := hK.bW
  have hpbase := hK.pbase
  have hp := h.pin.lt
  have hvB : ∀ g, v.ownBlock = some g → B ≤ g := fun g hg => (h.vown g hg).1
  have hlt : ∀ k, k < B → some k ≠ v.ownBlock := fun k hk e => by have := hvB k e.symm; omega
  have hf : Fr (fun k => v.ownBlock = some k) pb w w3 := Fr.of_grown hg hp (hlt pb (by omega))
  refine ⟨rfl, j, dv, v, rfl, hf.pin h.pin (fun k hk => by have := hvB k hk; omega) h.pin.le ((hg.cell_far ⟨pb, 1, none⟩ hp (hlt pb (by omega))).trans h.pin.c1), h.dg.keep (hg.cell_far ⟨pb, 6, none⟩ hp (hlt pb (by omega))) (hf.froz 6) (fun g hgd => ?_),
    (hg.cell_far ⟨zb, 0, none⟩ (by dsimp only; omega) (hlt zb (by omega))).trans h.z0, (hg.cell_far ⟨zb, 1, none⟩ (by dsimp only; omega) (hlt zb (by omega))).trans h.z1, fun _ => ho.slrM rsigned_sans (fun k hk => ?_) (fun g hgv => ?_) (by omega), h.fr.trans hf (fun k hk hkW => ?_), ?_⟩
  · exact hg.block g (ownsRow_base h.dg.row g hgd).2 (fun e => (h.vown g e.symm).2.2 hgd)
  · rcases hk with e | e
    · exact .inl (by omega)
    · exact .inr (.inl e)
  · have h1 := h.vown g hgv
    rintro (e | e)
    · omega
    · exact h1.2.2 e
  · have := hvB k hk; omega
  · rcases h.dd with e | ⟨g, e, hge⟩
    · exact .inl e
    · exact .inr ⟨g, e, by omega⟩
theorem body_stop (h : BodyS pb zb sb b0 b1 b2 dm bx b4 b6 b7 base B tv toks size apex W d0 j sets acc ds dv v w) (hK : BodyK pb zb sb b0 b1 b2 dm bx b4 b6 b7 base B W d0) {r : List Np.Tok} (hr : toks.drop j = r) : BodyOut pb zb base tv toks size apex W d0 (false, acc, ds, r) (.returned (.bool false)) w := by
  refine ⟨rfl, j, dv, v, hr, h.pin, h.dg, h.z0, h.z1, (fun e => by cases e), h.fr, ?_⟩
  have := hK.WB
  rcases h.dd with e | ⟨g, e, hge⟩
  · exact .inl e
  · exact .inr ⟨g, e, by omega⟩
end
set_option maxRecDepth 100000 in
set_option maxHeartbeats 8000000 in
theorem body_any (pb zb dm bx b4 b6 b7 base : Nat) (tv : Value) (toks : List Np.Tok) (size : Int) (i : Nat) (apex : List UInt8) (ds : List Np.Diag) (d0 : Value) (w : World) (hav : Np.validName apex = true) (ha6 : apex.length ≤ 60) (had : apex.all Np.isDig = false) (hT : ∀ t ∈ toks, Np.TokR t) (hds : ds.length < 20)
    (hP : PIn w pb tv toks size i) (c3 : w.cell? ⟨pb, 3, none⟩ = some (.map (some dm))) (hD : DataAt pb dm bx b4 b6 b7 w) (hG : DgM base pb d0 ds w) (z0 : w.cell? ⟨zb, 0, none⟩ = some (.string (bytesOf apex))) (z1 : w.cell? ⟨zb, 1, none⟩ = some (.slice none 0 0)) (zf : w.frozen? ⟨zb, 1, none⟩ = false)
    (hlow : dm < base ∧ bx < base ∧ b4 + 1 < base ∧ b6 + 1 < base ∧ b7 + 1 < base) (hpb : pb < base) (hzl : base ≤ zb) (hdz : d0.ownBlock ≠ some zb) :
    Calls Tryz.prog 100 #[.pointer (some ⟨pb, 0, none⟩), .pointer (some ⟨zb, 0, none⟩)] w (BodyOut pb zb base tv toks size apex w d0 (Np.bodyR size apex [] [] ds (toks.drop i))) := by
  obtain ⟨R, hR⟩ : ∃ R, Np.bodyR size apex [] [] ds (toks.drop i) = R := ⟨_, rfl⟩
  rw [hR]
  have HR := Lib.hid hR
  have HST := Lib.hid (body_start pb zb dm bx b4 b6 b7 base tv toks size i apex ds d0 w hP c3 hD hG z0 z1 zf hlow hpb hzl hdz _ rfl)
  have HI := Lib.hid hP.le
  have hfew := hP.few
  clear hR hP c3 hD hG z0 z1 zf hlow hpb hzl hdz
  have hmm : ∀ w : World, (Instr.makeMap 157 none).run Tryz.prog w = .ok (.map (some w.heap.size)) (w.alloc (.map #[] 0)) := fun w => by kernel_rfl
  go_enter Tryz.func100, Tryz.ntmps100
  go_wp2_with fail
  clear hmm
  have HK := Lib.hid HST.out.2
  have HS0 := Lib.hid HST.out.1
  clear HST
  generalize hB : w.heap.size + 4 = B at *
  generalize hb2 : w.heap.size + 1 + 1 + 1 = b2 at *
  generalize hsb : w.heap.size + 1 + 1 = sb at *
  generalize hb0 : w.heap.size + 1 = b0 at *
  generalize hW1 : (((w.alloc (.cells #[.pointer (some ⟨pb, 0, none⟩)] 127)).alloc (.cells #[.pointer (some ⟨zb, 0, none⟩)] 29)).alloc (.map #[] 0)).alloc (.cells #[.map (some sb)] 157) = W1 at *
  clear hB hb2 hsb hb0 hW1
  go_loopg [] (toks.length + 1) (fun g wr => ∃ (i' : Nat) (sets : List (List UInt8 × Int)) (acc : List Np.Signed) (ds' : List Np.Diag) (dv v : Value), toks.length < g + i' ∧ acc.length ≤ i' ∧ ds'.length < 20 ∧ Hid (AccOk apex sets acc) ∧
    Hid (Np.bodyR size apex sets acc ds' (toks.drop i') = R) ∧ Hid (BodyS pb zb sb b0 w.heap.size b2 dm bx b4 b6 b7 base B tv toks size apex w d0 i' sets acc ds' dv v wr))
  case atStart => exact ⟨i, [], [], ds, d0, _, by omega, by simp, hds, Lib.hid (AccOk.nil _ _), HR, HS0⟩
  case round =>
    obtain ⟨i', sets, acc, ds', dv, v, hg, hacc, hds', HA, HX, HS⟩ := hrel
    clear HS0 HR
    have x1 := HS.out.x1
    have hpw := HS.out.pin.lt
    obtain ⟨b125, h125⟩ : ∃ b, Np.isS [125] (toks.drop i') = b := ⟨_, rfl⟩
    have H125 := Lib.hid h125
    clear h125
    go_wp2_with fail
    refine (isSign_is pb tv toks size i' ⟨#[125]⟩ _ b125 HS.out.pin H125.out).mono ?_
    rintro e w1 ⟨rfl, hb1⟩
    have HS1 := Lib.hid (HS.out.grow HK.out hb1)
    clear hb1 x1 HS
    have x1 := HS1.out.x1
    have hnb : ¬ pb = zb := by have := HK.out.pz; omega
    have hnb' : ¬ zb = pb := by have := HK.out.pz; omega
    cases b125 with
    | true =>
      have c1 := HS1.out.pin.c1
      have fz := HS1.out.pin.fz
      have x0 := HS1.out.x0
      have z1 := HS1.out.z1
      obtain ⟨Av, cv, hform⟩ := HS1.out.own.form
      have hlt : i' + 1 ≤ toks.length := by have := Np.isS_ne H125.out; simp at this; omega
      have hwr := step_w (i := i') (n := toks.length) (by omega) hfew
      have HS2 := Lib.hid (HS1.out.next HK.out (j := i' + 1) (n := (i' : Int) + 1) hlt (by push_cast; rfl))
      obtain ⟨nv, hnv⟩ : ∃ nv, nv = acc.length := ⟨_, rfl⟩
      have HNV := Lib.hid hnv
      rw [← hnv] at hform
      subst hform
      clear hnv
      have HRX := Lib.hid (show R = (true, Np.sortS acc, ds', toks.drop (i' + 1)) by rw [← HX.out, body_end H125.out, List.tail_drop])
      go_wp2_with fail
      by_cases hne : acc = []
      · have hn0 : nv = 0 := by rw [HNV.out, hne]; rfl
        subst hn0
        refine (AnyF.slices_SortFunc_none Tryz.sortSig Av cv _ _).mono ?_
        rintro e w3 ⟨rfl, rfl⟩
        go_wp2_with fail
        go_ret
        rw [HRX.out, hne, show Np.sortS [] = [] by simp [Np.sortS]]
        exact body_done HS2.out HK.out (by have := HS2.out.own; rw [hne] at this; exact this) ⟨rfl, rfl, rfl, Nat.le_refl _, fun _ _ _ => rfl⟩ (by simp)
      · have hle1 := HS1.out.pin.le
        refine (sortSig_any B (.slice Av nv cv) acc (Mb B dv (.slice Av nv cv)) _ HS2.out.own (HS2.out.pin.ru.more (by have := HK.out.pz; have := HK.out.zW; have := HK.out.WB; omega)) HS2.out.bw hne (by omega) HA.out.parts.1 HA.out.parts.2).mono ?_
        rintro e w3 ⟨rfl, ho3, hg3⟩
        have HO3 := Lib.hid ho3
        have HG3 := Lib.hid hg3
        clear ho3 hg3
        go_wp2_with fail
        go_ret
        rw [HRX.out]
        exact body_done HS2.out HK.out HO3.out HG3.out (by rw [(Np.sortS_perm acc).length_eq]; omega)
    | false =>
      obtain ⟨x, hx⟩ : ∃ x, Np.entryR apex sets (toks.drop i') = x := ⟨_, rfl⟩
      have HTRY := Lib.hid (bodyTry_any HS1.out HK.out hav ha6 had hT (by have := HS1.out.pin.le; omega) (by omega) x hx)
      have HXX := Lib.hid hx
      clear hx
      go_wp2_with fail
      cases x with
      | ok s r' =>
        refine HTRY.out.mono ?_
        rintro e w2 ⟨rfl, i2, v2, hr2, hS2⟩
        have HS2 := Lib.hid hS2
        have hi2 : i' < i2 := by
          have := Np.entryR_lt HXX.out
          rw [← hr2] at this
          simp at this; omega
        have HR2 := Lib.hid hr2
        have hle2 := hS2.pin.le
        clear hS2 hr2 x1
        go_wp2_with fail
        go_roundg (toks.length + 1 - i2)
        case rel =>
          refine ⟨i2, _, _, ds', dv, v2, by omega, by simp; omega, hds', Lib.hid (HA.out.snoc ?_ ?_), Lib.hid ?_, HS2⟩
          · exact (Np.entryR_ok (fun t ht => hT t ((List.drop_suffix i' toks).subset ht)) hav had HXX.out).1
          · exact (Np.entryR_ok (fun t ht => hT t ((List.drop_suffix i' toks).subset ht)) hav had HXX.out).2
          · rw [HR2.out, ← HX.out]
            exact (body_more H125.out HXX.out).symm
        case measure => omega
      | err er r' =>
        refine HTRY.out.mono ?_
        rintro e w2 ⟨rfl, i2, dv2, hr2, hS2⟩
        have HS2 := Lib.hid hS2
        have HR2 := Lib.hid hr2
        obtain ⟨ds2, hds2⟩ : ∃ ds2, ds2 = ds' ++ [(⟨er, Np.posT size r'⟩ : Np.Diag)] := ⟨_, rfl⟩
        rw [← hds2] at HS2
        have HD2 := Lib.hid hds2
        have hlen2 : ds2.length = ds'.length + 1 := by rw [hds2]; simp
        have c6 := HS2.out.dg.c6
        obtain ⟨Ad, cd, hform⟩ := ownsRow_form HS2.out.dg.row
        subst hform
        have hle2 := hS2.pin.le
        clear hS2 hr2 hds2 x1
        have x1 := HS2.out.x1
        go_wp2_with fail
        refine (full_any pb Ad ds2.length cd (by omega) w2 c6).mono ?_
        rintro e w3 ⟨rfl, rfl⟩
        clear c6
        have HXB := Lib.hid (body_bad (size := size) (acc := acc) (ds := ds') H125.out HXX.out)
        by_cases h20 : 20 ≤ ds2.length
        · have h20d : decide (20 ≤ ds2.length) = true := by simpa using h20
          rw [h20d]
          clear h20d
          go_wp2_with fail
          go_ret
          have hRR : R = (false, acc, ds2, r') := by
            rw [← HX.out, HXB.out, ← HD2.out, if_pos h20]
          rw [hRR]
          exact body_stop HS2.out HK.out HR2.out
        · have h20d : decide (20 ≤ ds2.length) = false := by simpa using h20
          rw [h20d]
          clear h20d
          go_wp2_with fail
          go_loopg [] (toks.length + 1) (fun g wr => ∃ k : Nat, toks.length < g + k ∧ i2 ≤ k ∧ Hid (Np.skipR (toks.drop k) = Np.skipR r') ∧ Hid (BodyS pb zb sb b0 w.heap.size b2 dm bx b4 b6 b7 base B tv toks size apex w d0 k sets acc ds2 (.slice Ad ds2.length cd) v wr))
          case atStart => exact ⟨i2, by omega, Nat.le_refl _, Lib.hid (by rw [HR2.out]), HS2⟩
          case round =>
            obtain ⟨k, hgk, hik, HKR, HS3⟩ := hrel
            clear x1 HTRY
            have x1 := HS3.out.x1
            have c0 := HS3.out.pin.c0
            have c1 := HS3.out.pin.c1
            have hklen := HS3.out.pin.le
            obtain ⟨At, ct, rfl, -, -⟩ := slr_form HS3.out.pin.tk
            have hgc : ∀ (g : Grow wr) (p : Addr), p.block < wr.heap.size → g.w.cell? p = wr.cell? p := fun g p h => g.cell p h
            have hpw3 : pb < wr.heap.size := HS3.out.pin.lt
            have hbw3 : w.heap.size < wr.heap.size := by have := HS3.out.bw; have := HK.out.xB; omega
            by_cases hkl : k < toks.length
            · have hkI : (k : Int) < (toks.length : Int) := by omega
              have hkd : decide ((k : Int) < (toks.length : Int)) = true := by simpa using hkI
              obtain ⟨c125, h125⟩ : ∃ b, Np.isS [125] (toks.drop k) = b := ⟨_, rfl⟩
              obtain ⟨c59, h59⟩ : ∃ b, Np.isS [59] (toks.drop k) = b := ⟨_, rfl⟩
              have hcall1 : ∀ g : Grow wr, Calls Tryz.prog 138 #[.pointer (some ⟨pb, 0, none⟩), .string ⟨#[125]⟩] g.w fun e w' => e = .returned (.bool c125) ∧ Below g.w.heap.size g.w w' := fun g => isSign_is pb _ toks size k ⟨#[125]⟩ _ c125 (HS3.out.pin.keep g.below hpw3) h125
              have hcall2 : ∀ g : Grow wr, Calls Tryz.prog 138 #[.pointer (some ⟨pb, 0, none⟩), .string ⟨#[59]⟩] g.w fun e w' => e = .returned (.bool c59) ∧ Below g.w.heap.size g.w w' := fun g => isSign_is pb _ toks size k ⟨#[59]⟩ _ c59 (HS3.out.pin.keep g.below hpw3) h59
              have HC1 := Lib.hid hcall1
              have HC2 := Lib.hid hcall2
              have H1 := Lib.hid h125
              have H2 := Lib.hid h59
              clear hcall1 hcall2 h125 h59
              cases c125 with
              | true =>
                go_wp2_with fail
                refine wp_region_grow (by kernel_rfl) (by kernel_rfl) ?_
                repeat (go_big_quiet_step (fail))
                go_big_quiet_step ((go_at_call 138; exact Calls.grow_of (HC1.out _)))
                repeat (go_big_quiet_step (fail))
                refine wpQuiet_nil ?_
                rintro _ ⟨g, rfl⟩
                have HS5 := Lib.hid (HS3.out.grow HK.out g.below)
                have hne5 : toks.drop k ≠ [] := fun e => by have := congrArg List.length e; simp at this; omega
                have hsk : Np.skipR r' = toks.drop k := by rw [← HKR.out]; exact Np.skipR_same (by rw [H1.out, H2.out]; rfl)
                have HSK := Lib.hid hsk
                have hleft := body_left (sets := sets) H125.out HXX.out (by rw [hsk]; exact hne5)
                rw [hsk] at hleft
                have HLF := Lib.hid hleft
                have HN5 := Lib.hid hne5
                have y1 := HS5.out.x1
                have y0 := HS5.out.pin.c0
                have yc := HS5.out.pin.c1
                have hkE : ((k : Int) == (toks.length : Int)) = false := by simp; omega
                clear hgc c0 c1 x1 hsk hleft hne5
                generalize hw5 : g.w = w5 at *
                clear hw5
                go_wp2_with fail
                go_quiet (fail)
                go_wp2_with fail
                generalize hw6 : World.drewN _ nq = w6
                have hb6 : Below w5.heap.size w5 w6 := hw6 ▸ below_drewN (Below.refl _ _) _
                have HS6 := Lib.hid (HS5.out.grow HK.out hb6)
                clear hb6 hw6 y1 y0 yc HS5
                have y1 := HS6.out.x1
                refine (isSign_is pb _ toks size k ⟨#[59]⟩ _ c59 HS6.out.pin H2.out).mono ?_
                rintro e w7 ⟨rfl, hb7⟩
                have HS7 := Lib.hid (HS6.out.grow HK.out hb7)
                clear hb7 y1 HS6
                cases c59 with
                | true =>
                  have y1 := HS7.out.x1
                  have yc := HS7.out.pin.c1
                  have yf := HS7.out.pin.fz
                  have hwr := step_w (i := k) (n := toks.length) (by omega) hfew
                  have HS8 := Lib.hid (HS7.out.next HK.out (j := k + 1) (n := (k : Int) + 1) (by omega) (by push_cast; rfl))
                  have hlt9 : i' < k + 1 := by have := HLF.out.1 H2.out; simp at this; omega
                  go_wp2_with fail
                  go_roundg (toks.length + 1 - (k + 1))
                  case rel =>
                    refine ⟨k + 1, sets, acc, ds2, _, v, by omega, by omega, by omega, HA, Lib.hid ?_, HS8⟩
                    rw [← HX.out, HXB.out, ← HD2.out, if_neg h20, HSK.out, if_neg HN5.out, if_pos H2.out, List.tail_drop]
                  case measure => omega
                | false =>
                  have hlt9 : i' < k := by have := HLF.out.2 H2.out; simp at this; omega
                  go_wp2_with fail
                  go_roundg (toks.length + 1 - k)
                  case rel =>
                    refine ⟨k, sets, acc, ds2, _, v, by omega, by omega, by omega, HA, Lib.hid ?_, HS7⟩
                    rw [← HX.out, HXB.out, ← HD2.out, if_neg h20, HSK.out, if_neg HN5.out, if_neg (by rw [H2.out]; simp)]
                  case measure => omega
              | false =>
                cases c59 with
                | true =>
                  go_wp2_with fail
                  refine wp_region_grow (by kernel_rfl) (by kernel_rfl) ?_
                  repeat (go_big_quiet_step (fail))
                  go_big_quiet_step ((go_at_call 138; exact Calls.grow_of (HC1.out _)))
                  repeat (go_big_quiet_step (fail))
                  go_big_quiet_step ((go_at_call 138; exact Calls.grow_of (HC2.out _)))
                  repeat (go_big_quiet_step (fail))
                  refine wpQuiet_nil ?_
                  rintro _ ⟨g, rfl⟩
                  have HS5 := Lib.hid (HS3.out.grow HK.out g.below)
                  have hne5 : toks.drop k ≠ [] := fun e => by have := congrArg List.length e; simp at this; omega
                  have hsk : Np.skipR r' = toks.drop k := by rw [← HKR.out]; exact Np.skipR_same (by rw [H1.out, H2.out]; rfl)
                  have HSK := Lib.hid hsk
                  have hleft := body_left (sets := sets) H125.out HXX.out (by rw [hsk]; exact hne5)
                  rw [hsk] at hleft
                  have HLF := Lib.hid hleft
                  have HN5 := Lib.hid hne5
                  have y1 := HS5.out.x1
                  have y0 := HS5.out.pin.c0
                  have yc := HS5.out.pin.c1
                  have hkE : ((k : Int) == (toks.length : Int)) = false := by simp; omega
                  clear hgc c0 c1 x1 hsk hleft hne5
                  generalize hw5 : g.w = w5 at *
                  clear hw5
                  go_wp2_with fail
                  go_quiet (fail)
                  go_wp2_with fail
                  generalize hw6 : World.drewN _ nq = w6
                  have hb6 : Below w5.heap.size w5 w6 := hw6 ▸ below_drewN (Below.refl _ _) _
                  have HS6 := Lib.hid (HS5.out.grow HK.out hb6)
                  clear hb6 hw6 y1 y0 yc HS5
                  have y1 := HS6.out.x1
                  refine (isSign_is pb _ toks size k ⟨#[59]⟩ _ true HS6.out.pin H2.out).mono ?_
                  rintro e w7 ⟨rfl, hb7⟩
                  have HS7 := Lib.hid (HS6.out.grow HK.out hb7)
                  clear hb7 y1 HS6
                  have y1 := HS7.out.x1
                  have yc := HS7.out.pin.c1
                  have yf := HS7.out.pin.fz
                  have hwr := step_w (i := k) (n := toks.length) (by omega) hfew
                  have HS8 := Lib.hid (HS7.out.next HK.out (j := k + 1) (n := (k : Int) + 1) (by omega) (by push_cast; rfl))
                  have hlt9 : i' < k + 1 := by have := HLF.out.1 H2.out; simp at this; omega
                  go_wp2_with fail
                  go_roundg (toks.length + 1 - (k + 1))
                  case rel =>
                    refine ⟨k + 1, sets, acc, ds2, _, v, by omega, by omega, by omega, HA, Lib.hid ?_, HS8⟩
                    rw [← HX.out, HXB.out, ← HD2.out, if_neg h20, HSK.out, if_neg HN5.out, if_pos H2.out, List.tail_drop]
                  case measure => omega
                | false =>
                  go_wp2_with fail
                  refine wp_region_grow (by kernel_rfl) (by kernel_rfl) ?_
                  repeat (go_big_quiet_step (fail))
                  go_big_quiet_step ((go_at_call 138; exact Calls.grow_of (HC1.out _)))
                  repeat (go_big_quiet_step (fail))
                  go_big_quiet_step ((go_at_call 138; exact Calls.grow_of (HC2.out _)))
                  repeat (go_big_quiet_step (fail))
                  refine wpQuiet_nil ?_
                  rintro _ ⟨g, rfl⟩
                  have HS5 := Lib.hid (HS3.out.grow HK.out g.below)
                  have y1 := HS5.out.x1
                  have yc := HS5.out.pin.c1
                  have yf := HS5.out.pin.fz
                  have hwr := step_w (i := k) (n := toks.length) (by omega) hfew
                  have HS6 := Lib.hid (HS5.out.next HK.out (j := k + 1) (n := (k : Int) + 1) (by omega) (by push_cast; rfl))
                  clear hgc c0 c1 x1
                  generalize hw5 : g.w = w5 at *
                  clear hw5
                  go_wp2_with fail
                  go_roundg (toks.length + 1 - (k + 1))
                  case rel =>
                    refine ⟨k + 1, by omega, by omega, Lib.hid ?_, HS6⟩
                    rw [← HKR.out, skip_more hkl H1.out H2.out]
                  case measure => omega
            · have hkI : ¬ (k : Int) < (toks.length : Int) := by omega
              have hkd : decide ((k : Int) < (toks.length : Int)) = false := by simpa using hkI
              go_wp2_with fail
              refine wp_region_grow (by kernel_rfl) (by kernel_rfl) ?_
              repeat (go_big_quiet_step (fail))
              refine wpQuiet_nil ?_
              rintro _ ⟨g, rfl⟩
              have HS5 := Lib.hid (HS3.out.grow HK.out g.below)
              have y1 := HS5.out.x1
              have y0 := HS5.out.pin.c0
              have yc := HS5.out.pin.c1
              have hkE : ((k : Int) == (toks.length : Int)) = true := by simp; omega
              have hnil : toks.drop k = [] := drop_none (by omega)
              have hsk : Np.skipR r' = [] := by rw [← HKR.out, hnil]; rfl
              have hRR : R = (false, acc, ds2, []) := by
                rw [← HX.out, HXB.out, ← HD2.out, if_neg h20, if_pos hsk]
              have HRR := Lib.hid hRR
              have HNIL := Lib.hid hnil
              clear hgc c0 c1 x1 hRR hsk hnil
              generalize hw5 : g.w = w5 at *
              clear hw5
              go_wp2_with fail
              go_quiet (fail)
              go_wp2_with fail
              go_ret
              rw [HRR.out]
              exact body_stop (HS5.out.grow HK.out (below_drewN (Below.refl _ _) _)) HK.out HNIL.out
end Go.Proofs.YtnbolgdccdnjeaaGreatDoor
