/- Joined by program from: Par21, Par22. No condition. -/
import Derived.Test.YtnbolgdccdnjeaaGreatDoorPar20
/- The parser: what stands while the zones of a file are read. No condition. -/
namespace Go.Proofs.YtnbolgdccdnjeaaGreatDoor
open Go.RowKit
structure FileS (pb fb mb dm bx b4 b6 b7 base : Nat) (tv : Value) (toks : List Np.Tok) (size : Int) (W : World) (M : Nat → Prop) (i : Nat) (known : List (List UInt8)) (zs : List Np.Zone) (ds : List Np.Diag) (dv zv : Value) (w : World) : Prop where
  pin : PIn w pb tv toks size i
  c3 : w.cell? ⟨pb, 3, none⟩ = some (.map (some dm))
  data : DataAt pb dm bx b4 b6 b7 w
  c4 : w.cell? ⟨pb, 4, none⟩ = some (.map (some mb))
  kn : KnownM mb known w
  dg : DgM base pb dv ds w
  c5 : w.cell? ⟨pb, 5, none⟩ = some zv
  f5 : w.frozen? ⟨pb, 5, none⟩ = false
  own : OwnM RZone 2 32 base M w zv zs
  xf : w.cell? ⟨fb, 0, none⟩ = some (.pointer (some ⟨pb, 0, none⟩))
  Ml : ∀ k, k < base → M k
  Md : ∀ g, dv.ownBlock = some g → M g
  Mw : ∀ k, M k → k < w.heap.size
  bw : base ≤ w.heap.size
  fr : Below (pb - 1) W w
structure FileK (pb fb mb dm bx b4 b6 b7 base : Nat) : Prop where
  pb' : pb < base
  pm : pb ≤ mb + 1 ∧ mb ≠ pb
  pf : pb < fb
  low : dm < base ∧ bx < base ∧ b4 + 1 < base ∧ b6 + 1 < base ∧ b7 + 1 < base ∧ mb < base ∧ fb < base
  md : mb ≠ dm ∧ mb ≠ bx ∧ mb ≠ b4 ∧ mb ≠ b4 + 1 ∧ mb ≠ b6 ∧ mb ≠ b6 + 1 ∧ mb ≠ b7 ∧ mb ≠ b7 + 1 ∧ mb ≠ fb
section
variable {pb fb mb dm bx b4 b6 b7 base : Nat} {tv : Value} {toks : List Np.Tok} {size : Int} {W : World} {M : Nat → Prop} {i : Nat} {known : List (List UInt8)} {zs : List Np.Zone} {ds : List Np.Diag} {dv zv : Value} {w w' : World}
theorem own_kindsZ {base base' : Nat} {dv v : Value} {n m : Nat} {xs ys : List Value} (h : w.ownsRow base 55 2 dv n xs) (h' : w.ownsRow base' 32 2 v m ys) : ∀ g, v.ownBlock = some g → dv.ownBlock ≠ some g := fun g hg hd => by
  obtain ⟨c, z, e1⟩ := Lib.ownsRow_kind h g hd
  obtain ⟨c', z', e2⟩ := Lib.ownsRow_kind h' g hg
  rw [e1] at e2
  simp only [Option.some.injEq, Obj.cells.injEq] at e2
  exact absurd e2.2.1 (by decide)
theorem FileS.zown (h : FileS pb fb mb dm bx b4 b6 b7 base tv toks size W M i known zs ds dv zv w) : ∀ g, zv.ownBlock = some g → base ≤ g ∧ g < w.heap.size ∧ dv.ownBlock ≠ some g ∧ M g := fun g hg => by
  obtain ⟨rows, _, h2, h3, _⟩ := h.own
  have := ownsRow_base h2 g hg
  exact ⟨this.1, this.2, own_kindsZ h.dg.row h2 g hg, h3 g hg⟩
/-- Steps that leave the zones as they are. -/
theorem FileS.to {S' : Nat → Prop} {i' : Nat} {known' : List (List UInt8)} {ds' : List Np.Diag} {dv' : Value} (h : FileS pb fb mb dm bx b4 b6 b7 base tv toks size W M i known zs ds dv zv w) (hK : FileK pb fb mb dm bx b4 b6 b7 base)
    (hf : Fr S' pb w w') (hS : ∀ k, S' k → k = mb ∨ (base ≤ k ∧ (M k ∨ w.heap.size ≤ k))) (hSz : ∀ g, zv.ownBlock = some g → ¬ S' g) (hc : w'.cell? ⟨pb, 1, none⟩ = some (.int .i64 i')) (hi : i' ≤ toks.length) (hQ : KnownM mb known' w') (hD : DgM base pb dv' ds' w')
    (hdv : dv'.ownBlock = dv.ownBlock ∨ ∃ g, dv'.ownBlock = some g ∧ w.heap.size ≤ g) : FileS pb fb mb dm bx b4 b6 b7 base tv toks size W (fun k => M k ∨ dv'.ownBlock = some k) i' known' zs ds' dv' zv w' := by
  have hpw := h.pin.lt
  have hpm := hK.pm
  have hpf := hK.pf
  have hpb := hK.pb'
  have hlow := hK.low
  have hmd := hK.md
  have hfl : fb < w.heap.size := World.block_lt_of_cell? w ⟨fb, 0, none⟩ h.xf
  have hSp : ∀ k, S' k → pb ≤ k + 1 ∧ k ≠ pb := fun k hk => by rcases hS k hk with e | e <;> omega
  refine ⟨hf.pin h.pin hSp hi hc, (hf.mine 3 (by omega) (by omega)).trans h.c3, hf.data h.data (fun k hk e => ?_), (hf.mine 4 (by omega) (by omega)).trans h.c4, hQ, hD, (hf.mine 5 (by omega) (by omega)).trans h.c5, (hf.froz 5).trans h.f5, ?_,
    (hf.cell (p := ⟨fb, 0, none⟩) hfl (by dsimp only; omega) (fun e => by rcases hS fb e with e | e <;> omega)).trans h.xf, fun k hk => .inl (h.Ml k hk), fun g hg => .inr hg, fun k hk => ?_, Nat.le_trans h.bw hf.size, h.fr.trans (hf.below hSp hpw)⟩
  · rcases hS k e with e | e
    · omega
    · omega
  · refine h.own.leaves rzone_kept rzone_sans rzone_more ⟨hf.os, hf.tape, hf.output, hf.size, fun k hk hM => ?_⟩ (fun g hg => ?_)
    · refine ⟨?_, hf.block k hk (fun e => hM (h.Ml k (by omega))) (fun e => ?_)⟩
      · rintro (e | e)
        · exact hM e
        · rcases hdv with e2 | ⟨g, e2, hg⟩
          · exact hM (h.Md k (e2 ▸ e))
          · rw [e] at e2; cases e2; omega
      · rcases hS k e with e | e
        · exact hM (h.Ml k (by omega))
        · rcases e.2 with e2 | e2
          · exact hM e2
          · omega
    · obtain ⟨g1, g2, g3, g4⟩ := h.zown g hg
      exact ⟨hf.block g g2 (by omega) (hSz g hg), .inl g4⟩
  · rcases hk with e | e
    · exact Nat.lt_of_lt_of_le (h.Mw k e) hf.size
    · exact (ownsRow_base hD.row k e).2
theorem FileS.grow (h : FileS pb fb mb dm bx b4 b6 b7 base tv toks size W M i known zs ds dv zv w) (hK : FileK pb fb mb dm bx b4 b6 b7 base) (hb : Below w.heap.size w w') : FileS pb fb mb dm bx b4 b6 b7 base tv toks size W M i known zs ds dv zv w' := by
  have hp := h.pin.lt
  have h2 := h.to hK (Fr.of_below (S := fun _ => False) hb hp) (fun _ e => e.elim) (fun _ _ e => e.elim) ((hb.cell (p := ⟨pb, 1, none⟩) hp).trans h.pin.c1) h.pin.le (h.kn.keep (hb.block mb h.kn.lt))
    (h.dg.keep (hb.cell (p := ⟨pb, 6, none⟩) hp) (hb.frozen (p := ⟨pb, 6, none⟩) hp) (fun g hg => hb.block g (ownsRow_base h.dg.row g hg).2)) (.inl rfl)
  have e : (fun k => M k ∨ dv.ownBlock = some k) = M := funext fun k => propext ⟨fun e => e.elim id (h.Md k), .inl⟩
  rw [e] at h2
  exact h2
/-- More may be written. -/
theorem FileS.more (h : FileS pb fb mb dm bx b4 b6 b7 base tv toks size W M i known zs ds dv zv w) (hK : FileK pb fb mb dm bx b4 b6 b7 base) (hb : Below w.heap.size w w') (N : Nat → Prop) (hN : ∀ k, N k → w.heap.size ≤ k ∧ k < w'.heap.size) :
    FileS pb fb mb dm bx b4 b6 b7 base tv toks size W (fun k => M k ∨ N k) i known zs ds dv zv w' := by
  have h1 := h.grow hK hb
  refine ⟨h1.pin, h1.c3, h1.data, h1.c4, h1.kn, h1.dg, h1.c5, h1.f5, ?_, h1.xf, fun k hk => .inl (h.Ml k hk), fun g hg => .inl (h.Md g hg), fun k hk => ?_, h1.bw, h1.fr⟩
  · refine h.own.leaves rzone_kept rzone_sans rzone_more ((Leaves'.of_below (M := M) hb).more (fun k e => e.elim .inl (fun e => .inr (hN k e).1))) (fun g hg => ?_)
    obtain ⟨g1, g2, g3, g4⟩ := h.zown g hg
    exact ⟨hb.block g g2, .inl g4⟩
  · rcases hk with e | e
    · exact h1.Mw k e
    · exact (hN k e).2
theorem FileS.moved {known' : List (List UInt8)} {r' : List Np.Tok} (h : FileS pb fb mb dm bx b4 b6 b7 base tv toks size W M i known zs ds dv zv w) (hK : FileK pb fb mb dm bx b4 b6 b7 base) (hm : MovedTo (fun k => k = mb) pb toks w r' w') (hQ : KnownM mb known' w') :
    ∃ i', toks.drop i' = r' ∧ FileS pb fb mb dm bx b4 b6 b7 base tv toks size W M i' known' zs ds dv zv w' := by
  obtain ⟨i', hi', hr, hmv⟩ := hm
  have hp := h.pin.lt
  have hpm := hK.pm
  have hlow := hK.low
  have hpb := hK.pb'
  have hps : ¬ pb = mb := by omega
  have hdm : ∀ g, dv.ownBlock = some g → ¬ g = mb := fun g hg e => by have := (ownsRow_base h.dg.row g hg).1; omega
  have hdp : ∀ g, dv.ownBlock = some g → ¬ g = pb := fun g hg e => by have := (ownsRow_base h.dg.row g hg).1; omega
  have h2 := h.to hK (Fr.of_mv hmv hp hps) (fun k e => .inl e) (fun g hg e => by have := (h.zown g hg).1; omega) (hmv.next hps h.pin.c1) hi' hQ
    (h.dg.keep (hmv.mine hp hps (by omega)) (hmv.frozen (p := ⟨pb, 6, none⟩) hp hps) (fun g hg => hmv.block (ownsRow_base h.dg.row g hg).2 (hdm g hg) (hdp g hg))) (.inl rfl)
  have e : (fun k => M k ∨ dv.ownBlock = some k) = M := funext fun k => propext ⟨fun e => e.elim id (h.Md k), .inl⟩
  rw [e] at h2
  exact ⟨i', hr, h2⟩
theorem FileS.caught {er pos : Int} (h : FileS pb fb mb dm bx b4 b6 b7 base tv toks size W M i known zs ds dv zv w) (hK : FileK pb fb mb dm bx b4 b6 b7 base) (hc : Caught pb base dv ds.length (ds.flatMap encG) er pos w w') :
    ∃ M' dv', FileS pb fb mb dm bx b4 b6 b7 base tv toks size W M' i known zs (ds ++ [⟨er, pos⟩]) dv' zv w' := by
  have hp := h.pin.lt
  have hpm := hK.pm
  have hlow := hK.low
  obtain ⟨dv', h1, h2, h3, h4⟩ := h.dg.caught hK.pb' hp hc
  have hdm : ¬ dv.ownBlock = some mb := fun hg => by have := (ownsRow_base h.dg.row mb hg).1; omega
  exact ⟨_, dv', h.to hK h2 (fun k e => .inr ⟨(ownsRow_base h.dg.row k e).1, .inl (h.Md k e)⟩) (fun g hg e => (h.zown g hg).2.2.1 e) (h3.trans h.pin.c1) h.pin.le (h.kn.keep (h2.block mb h.kn.lt (by omega) hdm)) h1 h4⟩
theorem FileS.next {j : Nat} {n : Int} (h : FileS pb fb mb dm bx b4 b6 b7 base tv toks size W M i known zs ds dv zv w) (hK : FileK pb fb mb dm bx b4 b6 b7 base) (hj : j ≤ toks.length) (hn : n = j) :
    FileS pb fb mb dm bx b4 b6 b7 base tv toks size W M j known zs ds dv zv (w.setCell ⟨pb, 1, none⟩ (.int .i64 n)) := by
  subst hn
  have hfar := h.dg.far hK.pb'
  have hpm := hK.pm
  have h2 := h.to hK (Fr.of_mine (S := fun _ => False) (.int .i64 j) (.inl rfl)) (fun _ e => e.elim) (fun _ _ e => e.elim) (World.cell?_setCell_same (w := w) (a := ⟨pb, 1, none⟩) (v := .int .i64 j) h.pin.c1) hj (h.kn.keep (Below.heap_setCell _ _ _ _ (by dsimp only; omega)))
    (h.dg.keep (World.cell?_setCell_other _ _ _ _ (by intro e; cases e)) (World.frozen?_setCell _ _ _ _) (fun g hg => Below.heap_setCell _ _ _ _ (fun e => hfar (by rw [hg, e])))) (.inl rfl)
  have e : (fun k => M k ∨ dv.ownBlock = some k) = M := funext fun k => propext ⟨fun e => e.elim id (h.Md k), .inl⟩
  rw [e] at h2
  exact h2
/-- A store into a block that may be written, and that is no row. -/
theorem FileS.store {p : Addr} (v : Value) (h : FileS pb fb mb dm bx b4 b6 b7 base tv toks size W M i known zs ds dv zv w) (hK : FileK pb fb mb dm bx b4 b6 b7 base) (hp : base ≤ p.block) (hM : M p.block) (hd : dv.ownBlock ≠ some p.block) (hz : zv.ownBlock ≠ some p.block) :
    FileS pb fb mb dm bx b4 b6 b7 base tv toks size W M i known zs ds dv zv (w.setCell p v) := by
  have hpb := hK.pb'
  have hlow := hK.low
  have hpp : p.block ≠ pb := by omega
  have hfr := Fr.of_set (w := w) (p := p) v hpp
  have h2 := h.to hK hfr (fun k e => .inr ⟨by omega, .inl (e ▸ hM)⟩) (fun g hg e => hz (by rw [hg, e])) ((World.cell?_setCell_other _ _ _ _ (by intro e; rw [e] at hpp; exact hpp rfl)).trans h.pin.c1) h.pin.le (h.kn.keep (Below.heap_setCell _ _ _ _ (by omega)))
    (h.dg.keep (World.cell?_setCell_other _ _ _ _ (by intro e; rw [e] at hpp; exact hpp rfl)) (World.frozen?_setCell _ _ _ _) (fun g hg => Below.heap_setCell _ _ _ _ (fun e => hd (by rw [hg, e])))) (.inl rfl)
  have e : (fun k => M k ∨ dv.ownBlock = some k) = M := funext fun k => propext ⟨fun e => e.elim id (h.Md k), .inl⟩
  rw [e] at h2
  exact h2
/-- One more zone. -/
theorem FileS.add {w4 : World} {zv' : Value} {x : Np.Zone} (h : FileS pb fb mb dm bx b4 b6 b7 base tv toks size W M i known zs ds dv zv w) (hK : FileK pb fb mb dm bx b4 b6 b7 base)
    (ho : OwnM RZone 2 32 base (fun k => M k ∨ zv'.ownBlock = some k) w4 zv' (zs ++ [x])) (hg : w.grownBy w4 zv.ownBlock) :
    FileS pb fb mb dm bx b4 b6 b7 base tv toks size W (fun k => M k ∨ zv'.ownBlock = some k) i known (zs ++ [x]) ds dv zv' (w4.setCell ⟨pb, 5, none⟩ zv') := by
  have hp := h.pin.lt
  have hpm := hK.pm
  have hpf := hK.pf
  have hpb := hK.pb'
  have hlow := hK.low
  have hne : ∀ k, k < base → some k ≠ zv.ownBlock := fun k hk e => by have := (h.zown k e.symm).1; omega
  have hfl : fb < w.heap.size := World.block_lt_of_cell? w ⟨fb, 0, none⟩ h.xf
  have hfr := Fr.of_grown hg hp (hne pb (by omega))
  have hSp : ∀ k, zv.ownBlock = some k → pb ≤ k + 1 ∧ k ≠ pb := fun k hk => by have := (h.zown k hk).1; omega
  have hset : ∀ k, k ≠ pb → (w4.setCell ⟨pb, 5, none⟩ zv').heap[k]? = w4.heap[k]? := fun k hk => Below.heap_setCell _ _ _ _ hk
  have hcell : ∀ (p : Addr), (p.block ≠ pb ∨ p.off ≠ 5) → (w4.setCell ⟨pb, 5, none⟩ zv').cell? p = w4.cell? p := fun p hq => World.cell?_setCell_other _ _ _ _ (by intro e; subst e; simp at hq)
  have hb4 : Below (pb - 1) w4 (w4.setCell ⟨pb, 5, none⟩ zv') := (Below.refl (pb - 1) w4).setCell (p := ⟨pb, 5, none⟩) (by dsimp only; omega) zv'
  have hP4 := hfr.pin h.pin hSp h.pin.le ((hg.cell_far ⟨pb, 1, none⟩ hp (hne pb (by omega))).trans h.pin.c1)
  have hsz : w4.heap.size = (w4.setCell ⟨pb, 5, none⟩ zv').heap.size := by simp [World.setCell]
  have hho := ho
  obtain ⟨rows, _, hrow, _, _⟩ := hho
  refine ⟨⟨(hcell ⟨pb, 0, none⟩ (.inr (by simp))).trans hP4.c0, (hcell ⟨pb, 1, none⟩ (.inr (by simp))).trans hP4.c1, (hcell ⟨pb, 2, none⟩ (.inr (by simp))).trans hP4.c2, hP4.tk.keep rtok_kept hb4, hP4.le, (World.frozen?_setCell _ _ _ _).trans hP4.fz, hP4.few, hP4.ok, hP4.ru.keep hb4⟩,
    (hcell ⟨pb, 3, none⟩ (.inr (by simp))).trans ((hfr.mine 3 (by omega) (by omega)).trans h.c3), ?_, (hcell ⟨pb, 4, none⟩ (.inr (by simp))).trans ((hfr.mine 4 (by omega) (by omega)).trans h.c4),
    h.kn.keep ((hset mb (by omega)).trans (hfr.block mb h.kn.lt (by omega) (fun e => hne mb (by omega) e.symm))), h.dg.keep ?_ ((World.frozen?_setCell _ _ _ _).trans (hfr.froz 6)) (fun g hgd => ?_),
    World.cell?_setCell_same (w := w4) (a := ⟨pb, 5, none⟩) (v := zv') ((hg.cell_far ⟨pb, 5, none⟩ hp (hne pb (by omega))).trans h.c5), (World.frozen?_setCell _ _ _ _).trans ((hfr.froz 5).trans h.f5), ?_,
    (hcell ⟨fb, 0, none⟩ (.inl (by dsimp only; omega))).trans ((hfr.cell (p := ⟨fb, 0, none⟩) hfl (by dsimp only; omega) (fun e => hne fb (by omega) e.symm)).trans h.xf), fun k hk => .inl (h.Ml k hk), fun g hg => .inl (h.Md g hg), fun k hk => ?_, Nat.le_trans h.bw (by rw [← hsz]; exact hg.size), (h.fr.trans (hfr.below hSp hp)).trans hb4⟩
  · have h1 := hfr.data h.data (fun k hk e => by have := (h.zown k e).1; omega)
    exact h1.keep (fun k _ hs => hset k (by have := h.data.far; omega))
  · exact (hcell ⟨pb, 6, none⟩ (.inr (by simp))).trans (hg.cell_far ⟨pb, 6, none⟩ hp (hne pb (by omega)))
  · have hgl := ownsRow_base h.dg.row g hgd
    exact (hset g (by omega)).trans (hg.block g hgl.2 (fun e => (h.zown g e.symm).2.2.1 hgd))
  · exact ho.leaves rzone_kept rzone_sans rzone_more (Leaves'.setCell _ w4 (p := ⟨pb, 5, none⟩) (.inl (h.Ml pb hpb)) zv') (fun g hg' => ⟨hset g (by have := (ownsRow_base hrow g hg').1; omega), .inr hg'⟩)
  · rw [← hsz]
    rcases hk with e | e
    · exact Nat.lt_of_lt_of_le (h.Mw k e) hg.size
    · exact (ownsRow_base hrow k e).2
end
end Go.Proofs.YtnbolgdccdnjeaaGreatDoor
/- The parser: an attempt to read a header: contract. -/
namespace Go.Proofs.YtnbolgdccdnjeaaGreatDoor
open Go.RowKit
section
variable {pb fb mb dm bx b4 b6 b7 base : Nat} {tv : Value} {toks : List Np.Tok} {size : Int} {W : World} {M : Nat → Prop} {i : Nat} {known : List (List UInt8)} {zs : List Np.Zone} {ds : List Np.Diag} {dv zv : Value} {w w' : World}
/-- What an attempt to read a header comes to. -/
def FTryOut (pb fb mb dm bx b4 b6 b7 base zb : Nat) (tv : Value) (toks : List Np.Tok) (size : Int) (W : World) (M : Nat → Prop) (zs : List Np.Zone) (ds : List Np.Diag) (dv zv : Value) (x : List (List UInt8) × Np.Res (List UInt8)) (e : Ending) (w' : World) : Prop :=
  match x.2 with
  | .ok a r' => e = .returned (.bool true) ∧ ∃ i', toks.drop i' = r' ∧ FileS pb fb mb dm bx b4 b6 b7 base tv toks size W M i' x.1 zs ds dv zv w' ∧ w'.cell? ⟨zb, 0, none⟩ = some (.string (bytesOf a)) ∧ w'.cell? ⟨zb, 1, none⟩ = some (.slice none 0 0) ∧ w'.frozen? ⟨zb, 1, none⟩ = false
  | .err er r' => e = .returned (.bool false) ∧ ∃ M' i' dv', toks.drop i' = r' ∧ FileS pb fb mb dm bx b4 b6 b7 base tv toks size W M' i' x.1 zs (ds ++ [⟨er, Np.posT size r'⟩]) dv' zv w'
theorem fileTry_any (h : FileS pb fb mb dm bx b4 b6 b7 base tv toks size W M i known zs ds dv zv w) (hK : FileK pb fb mb dm bx b4 b6 b7 base) (hds : ds.length ≤ 100) {zb : Nat} (hzM : M zb) (hzb : base ≤ zb) (hzd : dv.ownBlock ≠ some zb) (hzz : zv.ownBlock ≠ some zb)
    {c0 : Value} (z0 : w.cell? ⟨zb, 0, none⟩ = some c0) (z1 : w.cell? ⟨zb, 1, none⟩ = some (.slice none 0 0)) (zf0 : w.frozen? ⟨zb, 0, none⟩ = false) (zf1 : w.frozen? ⟨zb, 1, none⟩ = false) (x : List (List UInt8) × Np.Res (List UInt8)) (hx : Np.headerR known (toks.drop i) = x) :
    Calls Tryz.prog 97 #[.pointer (some ⟨pb, 0, none⟩), .func (.func 98) #[] #[.pointer (some ⟨fb, 0, none⟩), .pointer (some ⟨zb, 0, none⟩)]] w
      (FTryOut pb fb mb dm bx b4 b6 b7 base zb tv toks size W M zs ds dv zv x) := by
  have eg : ∀ args w, (callFunc 98 args).run Tryz.prog w = .ok (.enter 98 args) w := fun args w => by simp [go_sem]
  have hpb := hK.pb'
  have hpm := hK.pm
  have hlow := hK.low
  have hbw := h.bw
  have hpw := h.pin.lt
  have hzl : zb < w.heap.size := World.block_lt_of_cell? w ⟨zb, 0, none⟩ z0
  obtain ⟨K, x⟩ := x
  refine (attempt_any pb base 98 _ w dv ds.length (ds.flatMap encG)
    (fun w2 => match x with | .ok a r' => ∃ i', toks.drop i' = r' ∧ FileS pb fb mb dm bx b4 b6 b7 base tv toks size W M i' K zs ds dv zv w2 ∧ w2.cell? ⟨zb, 0, none⟩ = some (.string (bytesOf a)) ∧ w2.cell? ⟨zb, 1, none⟩ = some (.slice none 0 0) ∧ w2.frozen? ⟨zb, 1, none⟩ = false | .err _ _ => False)
    (fun er pos w2 => match x with | .ok _ _ => False | .err er' r' => er = er' ∧ pos = Np.posT size r' ∧ ∃ i', toks.drop i' = r' ∧ FileS pb fb mb dm bx b4 b6 b7 base tv toks size W M i' K zs ds dv zv w2)
    eg hpb hds hbw h.dg.row ?_).mono ?_
  · intro w1 hb1 hs1
    have h1 := h.grow hK hb1
    have y0 := (hb1.cell (p := ⟨zb, 0, none⟩) hzl).trans z0
    have y1 := (hb1.cell (p := ⟨zb, 1, none⟩) hzl).trans z1
    have yf0 := (hb1.frozen (p := ⟨zb, 0, none⟩) hzl).trans zf0
    have yf1 := (hb1.frozen (p := ⟨zb, 1, none⟩) hzl).trans zf1
    have hc := file1_any pb mb fb zb tv toks size i known w1 h1.pin h1.c4 h1.kn hpm h1.xf y0 yf0 (by omega) (by omega)
    rw [hx] at hc
    cases x with
    | ok a r' =>
      refine hc.mono ?_
      rintro e w2 ⟨hk, he, w3, hm, hw2⟩
      refine .inl ⟨he, ?_⟩
      have hk3 : KnownM mb K w3 := hk.keep (by rw [hw2]; exact (Below.heap_setCell _ _ _ _ (by dsimp only; omega)).symm)
      obtain ⟨i', hr, h3⟩ := h1.moved hK hm hk3
      obtain ⟨j, _, _, hmv⟩ := hm
      have hz1 : zb < w1.heap.size := Nat.lt_of_lt_of_le hzl hb1.size
      have k0 := (hmv.cell (p := ⟨zb, 0, none⟩) hz1 (by dsimp only; omega) (by dsimp only; omega)).trans y0
      have k1 := (hmv.cell (p := ⟨zb, 1, none⟩) hz1 (by dsimp only; omega) (by dsimp only; omega)).trans y1
      have kf1 := (hmv.frozen (p := ⟨zb, 1, none⟩) hz1 (by dsimp only; omega)).trans yf1
      refine ⟨i', hr, ?_, ?_, ?_, ?_⟩
      · rw [hw2]; exact h3.store (p := ⟨zb, 0, none⟩) _ hK hzb hzM hzd hzz
      · rw [hw2]; exact World.cell?_setCell_same (w := w3) (a := ⟨zb, 0, none⟩) (v := .string (bytesOf a)) k0
      · rw [hw2, World.cell?_setCell_other _ _ _ _ (by intro e; cases e)]; exact k1
      · rw [hw2, World.frozen?_setCell]; exact kf1
    | err er r' =>
      refine hc.mono ?_
      rintro e w2 ⟨hk, he, hm⟩
      obtain ⟨i', hr, h3⟩ := h1.moved hK hm hk
      obtain ⟨j, _, _, hmv⟩ := hm
      refine .inr ⟨er, _, he, ⟨rfl, rfl, i', hr, h3⟩, hmv.block (k := w.heap.size) hs1 (by omega) (by omega), hmv.os, h3.dg.c6, h3.dg.f6, fun g hg => ?_⟩
      have hgl := ownsRow_base h1.dg.row g hg
      exact hmv.block (k := g) hgl.2 (by omega) (by omega)
  · rintro e w' (⟨rfl, w2, hok, hb⟩ | ⟨rfl, er, pos, w2, hbad, hcg⟩)
    · cases x with
      | ok a r' =>
        obtain ⟨i', hr, h2, k0, k1, kf⟩ := hok
        have hz2 : zb < w2.heap.size := World.block_lt_of_cell? w2 ⟨zb, 0, none⟩ k0
        exact ⟨rfl, i', hr, h2.grow hK hb, (hb.cell (p := ⟨zb, 0, none⟩) hz2).trans k0, (hb.cell (p := ⟨zb, 1, none⟩) hz2).trans k1, (hb.frozen (p := ⟨zb, 1, none⟩) hz2).trans kf⟩
      | err er r' => exact hok.elim
    · cases x with
      | ok a r' => exact hbad.elim
      | err er' r' =>
        obtain ⟨rfl, rfl, i', hr, h2⟩ := hbad
        obtain ⟨M', dv', h3⟩ := h2.caught hK hcg
        exact ⟨rfl, M', i', dv', hr, h3⟩
/-- The entries of a zone were read: the file's state. -/
theorem FileS.body {zb : Nat} {apex : List UInt8} {x : Bool × List Np.Signed × List Np.Diag × List Np.Tok} {e : Ending} (h : FileS pb fb mb dm bx b4 b6 b7 base tv toks size W M i known zs ds dv zv w) (hK : FileK pb fb mb dm bx b4 b6 b7 base) (hzM : M zb) (hzb : base ≤ zb) (hzz : zv.ownBlock ≠ some zb)
    (hb : BodyOut pb zb base tv toks size apex w dv x e w') : e = .returned (.bool x.1) ∧ ∃ i' dv' v M', toks.drop i' = x.2.2.2 ∧ FileS pb fb mb dm bx b4 b6 b7 base tv toks size W M' i' known zs x.2.2.1 dv' zv w' ∧ w'.cell? ⟨zb, 0, none⟩ = some (.string (bytesOf apex)) ∧ w'.cell? ⟨zb, 1, none⟩ = some v ∧
      (x.1 = true → SlR RSigned 5 (sansP w' M') w'.heap.size v x.2.1) := by
  obtain ⟨he, i', dv', v, hr, hP, hD, k0, k1, hsl, hf, hdv⟩ := hb
  have hlow := hK.low
  have hpm := hK.pm
  have hdl := fun g hg => ownsRow_base h.dg.row g hg
  have h2 := h.to hK hf (fun k e => .inr (by
    rcases e with e | e
    · exact ⟨by omega, .inl (e ▸ hzM)⟩
    · exact ⟨(hdl k e).1, .inl (h.Md k e)⟩)) (fun g hg e => by
    rcases e with e | e
    · exact hzz (by rw [hg, e])
    · exact (h.zown g hg).2.2.1 e) hP.c1 hP.le (h.kn.keep (hf.block mb h.kn.lt (by omega) (fun e => by
    rcases e with e | e
    · omega
    · have := (hdl mb e).1; omega))) hD hdv
  refine ⟨he, i', dv', v, _, hr, h2, k0, k1, fun hx => (hsl hx).sans rsigned_sans (fun k hk => ?_)⟩
  rcases hk with e | e
  · exact .inl (h.Mw k e)
  · exact .inr e
end
end Go.Proofs.YtnbolgdccdnjeaaGreatDoor
