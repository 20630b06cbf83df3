/- Joined by program from: Par16, Par17, Par18, Par19. No condition. -/
import Derived.Test.YtnbolgdccdnjeaaGreatDoorQD
import Derived.Test.YtnbolgdccdnjeaaGreatDoorQC
import Derived.Test.YtnbolgdccdnjeaaGreatDoorKA
import Derived.Lib.OwnKind
import Derived.Test.YtnbolgdccdnjeaaGreatDoorPA
/- The parser: the closure that reads an entry: contract. -/
namespace Go.Proofs.YtnbolgdccdnjeaaGreatDoor
open Go.RowKit
set_option maxRecDepth 100000 in
set_option maxHeartbeats 1000000 in
/-- The entry is wrong. -/
theorem body1_bad (pb sb b0 b1 b2 zb : Nat) (apex : List UInt8) (w : World) (er pos : Int) (v : Value) (Pan : World → Prop)
    (h0 : w.cell? ⟨b0, 0, none⟩ = some (.pointer (some ⟨zb, 0, none⟩))) (h1 : w.cell? ⟨b1, 0, none⟩ = some (.pointer (some ⟨pb, 0, none⟩))) (h2 : w.cell? ⟨b2, 0, none⟩ = some (.map (some sb)))
    (z0 : w.cell? ⟨zb, 0, none⟩ = some (.string (bytesOf apex))) (z1 : w.cell? ⟨zb, 1, none⟩ = some v)
    (hc : Calls Tryz.prog 140 #[.pointer (some ⟨pb, 0, none⟩), .string (bytesOf apex), .map (some sb)] w.drew fun e w' => e = .panicked (failV er pos) ∧ Pan w') :
    Calls Tryz.prog 139 #[.pointer (some ⟨b0, 0, none⟩), .pointer (some ⟨b1, 0, none⟩), .pointer (some ⟨b2, 0, none⟩)] w fun e w' => e = .panicked (failV er pos) ∧ Pan w' := by
  go_enter Tryz.func139, Tryz.ntmps139
  go_wp2_with fail
  refine wp_region_panics_good (m := 20) (p := 11) (D := [0, 1, 2, 3, 4, 5, 6, 7, 8, 9, 10, 15, 16]) (dst := fun i => [3, 4, 5, 6, 7, 8, 9, 10, 11, 12, 13, 0, 0, 0, 0, 18, 19].getD i 0)
    (val := fun i => [Value.pointer (some ⟨zb, 0, none⟩), .pointer (some ⟨zb, 0, none⟩), .pointer (some ⟨zb, 0, none⟩), .pointer (some ⟨zb, 1, none⟩), v, .pointer (some ⟨pb, 0, none⟩), .pointer (some ⟨zb, 0, none⟩), .pointer (some ⟨zb, 0, none⟩), .pointer (some ⟨zb, 0, none⟩), .string (bytesOf apex), .map (some sb), undef, undef, undef, undef, .pointer (some ⟨zb, 0, none⟩), .pointer (some ⟨zb, 1, none⟩)].getD i undef)
    (base := [(0, .pointer (some ⟨b0, 0, none⟩)), (1, .pointer (some ⟨b1, 0, none⟩)), (2, .pointer (some ⟨b2, 0, none⟩))]) (by kernel_rfl) (wellB_spec (by kernel_rfl)) (by simp) (by simp) (waitB_spec (by kernel_rfl)) ?_ (by decide) (by decide) (fun i hi q hq => by
      have hq1 : q.1 < 3 := by simp at hq; rcases hq with rfl | rfl | rfl <;> simp
      have hi3 : ∀ i ∈ [0, 1, 2, 3, 4, 5, 6, 7, 8, 9, 10, 15, 16], 3 ≤ [3, 4, 5, 6, 7, 8, 9, 10, 11, 12, 13, 0, 0, 0, 0, 18, 19].getD i 0 := by decide
      have := hi3 i hi
      omega) ?_ ?_ (by simp [Act.eval]) (by simp)
  · intro i hi
    simp only [List.mem_cons, List.not_mem_nil, or_false] at hi
    rcases hi with rfl | rfl | rfl | rfl | rfl | rfl | rfl | rfl | rfl | rfl | rfl | rfl | rfl <;> exact ⟨_, rfl, rfl⟩
  · intro i hi o ho a hb hdep
    have b0' := hb (0, .pointer (some ⟨b0, 0, none⟩)) (by simp)
    have b1' := hb (1, .pointer (some ⟨b1, 0, none⟩)) (by simp)
    have b2' := hb (2, .pointer (some ⟨b2, 0, none⟩)) (by simp)
    simp [Act.eval] at b0' b1' b2'
    simp only [List.mem_cons, List.not_mem_nil, or_false] at hi
    rcases hi with rfl | rfl | rfl | rfl | rfl | rfl | rfl | rfl | rfl | rfl | rfl | rfl | rfl
    all_goals cases ho
    all_goals
      try simp [Act.eval, Region.binds] at hdep
      refine .inl ⟨by simp [Region.wanted], fun w' hw' => ?_⟩
      subst hw'
      simp [Oper.quietAt, Oper.quietUpon, execOp, go_sem, b0', b1', b2', h0, h1, h2, z0, z1, hdep]
  · intro o ho a hdf hb hdep K
    cases ho
    have b0' := hb (0, .pointer (some ⟨b0, 0, none⟩)) (by simp)
    simp [Act.eval] at b0'
    simp [Act.eval, Region.binds] at hdep
    simp only [wpOp]
    simp [Region.wanted]
    refine .inl ?_
    simp [Oper.wp, go_sem, hdep]
    refine hc.mono ?_
    rintro e w2 ⟨rfl, hp⟩
    exact ⟨hdf, rfl, hp⟩
end Go.Proofs.YtnbolgdccdnjeaaGreatDoor
/- The parser: what stands while the entries of a zone are read. No condition. -/
namespace Go.Proofs.YtnbolgdccdnjeaaGreatDoor
open Go.RowKit
/-- Old memory stays, but the parser's cells 1 and 6, and the blocks S. -/
structure Fr (S : Nat → Prop) (pb : Nat) (W w : World) : Prop where
  os : w.os = W.os
  tape : w.tape = W.tape
  output : w.output = W.output
  size : W.heap.size ≤ w.heap.size
  block : ∀ k, k < W.heap.size → k ≠ pb → ¬ S k → w.heap[k]? = W.heap[k]?
  mine : ∀ o, o ≠ 1 → o ≠ 6 → w.cell? ⟨pb, o, none⟩ = W.cell? ⟨pb, o, none⟩
  froz : ∀ o, w.frozen? ⟨pb, o, none⟩ = W.frozen? ⟨pb, o, none⟩
section
variable {S S' : Nat → Prop} {pb : Nat} {W w w' : World}
theorem Fr.refl (S : Nat → Prop) (pb : Nat) (W : World) : Fr S pb W W := ⟨rfl, rfl, rfl, Nat.le_refl _, fun _ _ _ _ => rfl, fun _ _ _ => rfl, fun _ => rfl⟩
theorem Fr.trans (h : Fr S pb W w) (h' : Fr S' pb w w') (hS : ∀ k, S' k → k < W.heap.size → S k) : Fr S pb W w' :=
  ⟨h'.os.trans h.os, h'.tape.trans h.tape, h'.output.trans h.output, Nat.le_trans h.size h'.size, fun k hk hp hs => (h'.block k (Nat.lt_of_lt_of_le hk h.size) hp (fun e => hs (hS k e hk))).trans (h.block k hk hp hs),
    fun o h1 h6 => (h'.mine o h1 h6).trans (h.mine o h1 h6), fun o => (h'.froz o).trans (h.froz o)⟩
theorem Fr.wider (h : Fr S pb W w) (hS : ∀ k, S k → S' k) : Fr S' pb W w := ⟨h.os, h.tape, h.output, h.size, fun k hk hp hs => h.block k hk hp (fun e => hs (hS k e)), h.mine, h.froz⟩
theorem Fr.of_below (h : Below w.heap.size w w') (hp : pb < w.heap.size) : Fr S pb w w' :=
  ⟨h.os, h.tape, h.output, h.size, fun k hk _ _ => h.block k hk, fun o _ _ => h.cell (p := ⟨pb, o, none⟩) hp, fun o => h.frozen (p := ⟨pb, o, none⟩) hp⟩
theorem Fr.of_mv {i : Nat} (h : Mv S pb i w w') (hp : pb < w.heap.size) (hS : ¬ S pb) : Fr S pb w w' :=
  ⟨h.1, h.2.1, h.2.2.1, h.os, fun _ hk hkp hs => h.block hk hs hkp, fun _ h1 _ => h.mine hp hS h1, fun o => h.frozen (p := ⟨pb, o, none⟩) hp hS⟩
theorem Fr.of_grown {row : Option Nat} (h : w.grownBy w' row) (hp : pb < w.heap.size) (hr : some pb ≠ row) : Fr (fun k => row = some k) pb w w' :=
  ⟨h.os, h.tape, h.output, h.size, fun k hk _ hs => h.block k hk (fun e => hs e.symm), fun o _ _ => h.cell_far ⟨pb, o, none⟩ hp hr, fun o => h.frozen_far ⟨pb, o, none⟩ hp hr⟩
theorem Fr.of_set {p : Addr} (v : Value) (hp : p.block ≠ pb) : Fr (fun k => k = p.block) pb w (w.setCell p v) :=
  ⟨rfl, rfl, rfl, by simp [World.setCell], fun _ _ _ hs => Below.heap_setCell _ _ _ _ hs, fun _ _ _ => by rw [World.cell?_setCell_other]; intro e; rw [e] at hp; exact hp rfl, fun _ => World.frozen?_setCell _ _ _ _⟩
theorem Fr.of_mine {o : Nat} (v : Value) (ho : o = 1 ∨ o = 6) : Fr S pb w (w.setCell ⟨pb, o, none⟩ v) :=
  ⟨rfl, rfl, rfl, by simp [World.setCell], fun _ _ hk _ => Below.heap_setCell _ _ _ _ hk, fun j h1 h6 => by rw [World.cell?_setCell_other]; intro e; cases e; omega, fun _ => World.frozen?_setCell _ _ _ _⟩
theorem Fr.cell (h : Fr S pb W w) {p : Addr} (hk : p.block < W.heap.size) (hp : p.block ≠ pb) (hs : ¬ S p.block) : w.cell? p = W.cell? p := World.cell?_of_block (w := W) (h.block _ hk hp hs)
theorem Fr.frozen (h : Fr S pb W w) {p : Addr} (hk : p.block < W.heap.size) (hp : p.block ≠ pb) (hs : ¬ S p.block) : w.frozen? p = W.frozen? p := World.frozen?_of_block (w := W) (h.block _ hk hp hs)
theorem Fr.below (h : Fr S pb W w) (hS : ∀ k, S k → pb ≤ k + 1 ∧ k ≠ pb) (hp : pb < W.heap.size) : Below (pb - 1) W w :=
  ⟨h.os, h.tape, h.output, h.size, fun k hk => h.block k (by omega) (by omega) (fun e => by have := hS k e; omega)⟩
theorem Fr.pin {tv : Value} {toks : List Np.Tok} {size : Int} {i j : Nat} (h : Fr S pb W w) (hP : PIn W pb tv toks size i) (hS : ∀ k, S k → pb ≤ k + 1 ∧ k ≠ pb) (hj : j ≤ toks.length) (hc : w.cell? ⟨pb, 1, none⟩ = some (.int .i64 j)) : PIn w pb tv toks size j :=
  ⟨(h.mine 0 (by omega) (by omega)).trans hP.c0, hc, (h.mine 2 (by omega) (by omega)).trans hP.c2, hP.tk.keep rtok_kept (h.below hS hP.lt), hj, (h.froz 1).trans hP.fz, hP.few, hP.ok, hP.ru.keep (h.below hS hP.lt)⟩
theorem Fr.data {dm bx b4 b6 b7 : Nat} (h : Fr S pb W w) (hD : DataAt pb dm bx b4 b6 b7 W) (hS : ∀ k, (k = dm ∨ k = bx ∨ k = b4 ∨ k = b4 + 1 ∨ k = b6 ∨ k = b6 + 1 ∨ k = b7 ∨ k = b7 + 1) → ¬ S k) : DataAt pb dm bx b4 b6 b7 w :=
  hD.keep (fun k hk hs => h.block k hk (by have := hD.far; omega) (hS k hs))
end
/-! ### The diagnostics -/
def encG (d : Np.Diag) : List Value := [.int .i64 d.err, .int .i64 d.pos]
structure DgM (base pb : Nat) (dv : Value) (ds : List Np.Diag) (w : World) : Prop where
  c6 : w.cell? ⟨pb, 6, none⟩ = some dv
  f6 : w.frozen? ⟨pb, 6, none⟩ = false
  row : w.ownsRow base 55 2 dv ds.length (ds.flatMap encG)
theorem DgM.keep {base pb : Nat} {dv : Value} {ds : List Np.Diag} {w w' : World} (h : DgM base pb dv ds w) (h6 : w'.cell? ⟨pb, 6, none⟩ = w.cell? ⟨pb, 6, none⟩) (hf : w'.frozen? ⟨pb, 6, none⟩ = w.frozen? ⟨pb, 6, none⟩) (hg : ∀ g, dv.ownBlock = some g → w'.heap[g]? = w.heap[g]?) : DgM base pb dv ds w' :=
  ⟨h6.trans h.c6, hf.trans h.f6, ownsRow_keep h.row hg⟩
theorem DgM.far {base pb : Nat} {dv : Value} {ds : List Np.Diag} {w : World} (h : DgM base pb dv ds w) (hpb : pb < base) : some pb ≠ dv.ownBlock := fun e => by have := (ownsRow_base h.row pb e.symm).1; omega
theorem DgM.caught {base pb : Nat} {dv : Value} {ds : List Np.Diag} {w w' : World} {er pos : Int} (h : DgM base pb dv ds w) (hpb : pb < base) (hpw : pb < w.heap.size) (hc : Caught pb base dv ds.length (ds.flatMap encG) er pos w w') :
    ∃ dv', DgM base pb dv' (ds ++ [⟨er, pos⟩]) w' ∧ Fr (fun k => dv.ownBlock = some k) pb w w' ∧ w'.cell? ⟨pb, 1, none⟩ = w.cell? ⟨pb, 1, none⟩ ∧ (dv'.ownBlock = dv.ownBlock ∨ ∃ g, dv'.ownBlock = some g ∧ w.heap.size ≤ g) := by
  obtain ⟨g, cap, w1, rfl, hown, hg, hat⟩ := hc
  have hne := h.far hpb
  have h6 : w1.cell? ⟨pb, 6, none⟩ = some dv := (hg.cell_far ⟨pb, 6, none⟩ hpw hne).trans h.c6
  have hgl := ownsRow_base hown g rfl
  have hgp : g ≠ pb := by omega
  refine ⟨_, ⟨World.cell?_setCell_same (w := w1) (a := ⟨pb, 6, none⟩) (v := _) h6, ?_, ?_⟩, ?_, ?_, ?_⟩
  · rw [World.frozen?_setCell]
    exact (hg.frozen_far ⟨pb, 6, none⟩ hpw hne).trans h.f6
  · have e : (ds ++ [(⟨er, pos⟩ : Np.Diag)]).flatMap encG = ds.flatMap encG ++ [.int .i64 er, .int .i64 pos] := by simp [encG]
    rw [e, List.length_append, List.length_singleton]
    exact ownsRow_keep hown (fun k hk => by cases hk; exact Below.heap_setCell _ _ _ _ hgp)
  · exact (Fr.of_grown hg hpw hne).trans (Fr.of_mine (S := fun k => dv.ownBlock = some k) _ (.inr rfl)) (fun k hk _ => hk)
  · rw [World.cell?_setCell_other _ _ _ _ (by intro e; cases e)]
    exact hg.cell_far ⟨pb, 1, none⟩ hpw hne
  · rcases hat with e | e
    · exact .inl e.symm
    · exact .inr ⟨g, rfl, e⟩
/-! ### The entries of a zone -/
/-- What may be written while entries are read. -/
def Mb (B : Nat) (dv v : Value) : Nat → Prop := fun k => k < B ∨ dv.ownBlock = some k ∨ v.ownBlock = some k
structure BodyS (pb zb sb b0 b1 b2 dm bx b4 b6 b7 base B : Nat) (tv : Value) (toks : List Np.Tok) (size : Int) (apex : List UInt8) (W : World) (d0 : Value) (i : Nat) (sets : List (List UInt8 × Int)) (acc : List Np.Signed) (ds : List Np.Diag) (dv v : Value) (w : World) : Prop where
  pin : PIn w pb tv toks size i
  c3 : w.cell? ⟨pb, 3, none⟩ = some (.map (some dm))
  data : DataAt pb dm bx b4 b6 b7 w
  mq : MapQ sb sets w
  dg : DgM base pb dv ds w
  z0 : w.cell? ⟨zb, 0, none⟩ = some (.string (bytesOf apex))
  z1 : w.cell? ⟨zb, 1, none⟩ = some v
  zf : w.frozen? ⟨zb, 1, none⟩ = false
  own : OwnM RSigned 5 41 B (Mb B dv v) w v acc
  x0 : w.cell? ⟨b0, 0, none⟩ = some (.pointer (some ⟨zb, 0, none⟩))
  x1 : w.cell? ⟨b1, 0, none⟩ = some (.pointer (some ⟨pb, 0, none⟩))
  x2 : w.cell? ⟨b2, 0, none⟩ = some (.map (some sb))
  fr : Fr (fun k => k = zb ∨ d0.ownBlock = some k) pb W w
  dd : dv.ownBlock = d0.ownBlock ∨ ∃ g, dv.ownBlock = some g ∧ B ≤ g
  bw : B ≤ w.heap.size
/-- What stays the same from the first entry on. -/
structure BodyK (pb zb sb b0 b1 b2 dm bx b4 b6 b7 base B : Nat) (W : World) (d0 : Value) : Prop where
  pz : pb < zb
  pbase : pb < base
  low : dm < base ∧ bx < base ∧ b4 + 1 < base ∧ b6 + 1 < base ∧ b7 + 1 < base
  zlow : base ≤ zb
  zW : zb < W.heap.size
  bW : base ≤ W.heap.size
  WB : W.heap.size ≤ B
  sB : W.heap.size ≤ sb ∧ sb < B
  xB : W.heap.size ≤ b0 ∧ b0 < B ∧ W.heap.size ≤ b1 ∧ b1 < B ∧ W.heap.size ≤ b2 ∧ b2 < B
  xs : b0 ≠ sb ∧ b1 ≠ sb ∧ b2 ≠ sb
  dW : ∀ g, d0.ownBlock = some g → base ≤ g ∧ g < W.heap.size ∧ g ≠ zb
section
variable {pb zb sb b0 b1 b2 dm bx b4 b6 b7 base B : Nat} {tv : Value} {toks : List Np.Tok} {size : Int} {apex : List UInt8} {W : World} {d0 : Value} {i : Nat} {sets : List (List UInt8 × Int)} {acc : List Np.Signed} {ds : List Np.Diag} {dv v : Value} {w w' : World}
theorem own_kinds {base B : Nat} {dv v : Value} {n m : Nat} {xs ys : List Value} (h : w.ownsRow base 55 2 dv n xs) (h' : w.ownsRow B 41 5 v m ys) : ∀ g, v.ownBlock = some g → dv.ownBlock ≠ some g := fun g hg hd => by
  obtain ⟨c, z, e1⟩ := Lib.ownsRow_kind h g hd
  obtain ⟨c', z', e2⟩ := Lib.ownsRow_kind h' g hg
  rw [e1] at e2
  simp only [Option.some.injEq, Obj.cells.injEq] at e2
  exact absurd e2.2.1 (by decide)
theorem BodyS.vown (h : BodyS pb zb sb b0 b1 b2 dm bx b4 b6 b7 base B tv toks size apex W d0 i sets acc ds dv v w) : ∀ g, v.ownBlock = some g → B ≤ g ∧ g < w.heap.size ∧ dv.ownBlock ≠ some g := fun g hg => by
  obtain ⟨rows, _, h2, _, _⟩ := h.own
  have := ownsRow_base h2 g hg
  exact ⟨this.1, this.2, own_kinds h.dg.row h2 g hg⟩
/-- Steps that leave the zone as it is. -/
theorem BodyS.to {S' : Nat → Prop} {i' : Nat} {sets' : List (List UInt8 × Int)} {ds' : List Np.Diag} {dv' : Value} (h : BodyS pb zb sb b0 b1 b2 dm bx b4 b6 b7 base B tv toks size apex W d0 i sets acc ds dv v w) (hK : BodyK pb zb sb b0 b1 b2 dm bx b4 b6 b7 base B W d0)
    (hf : Fr S' pb w w') (hS : ∀ k, S' k → k = sb ∨ dv.ownBlock = some k ∨ w.heap.size ≤ k) (hc : w'.cell? ⟨pb, 1, none⟩ = some (.int .i64 i')) (hi : i' ≤ toks.length) (hQ : MapQ sb sets' w') (hD : DgM base pb dv' ds' w')
    (hdv : dv'.ownBlock = dv.ownBlock ∨ ∃ g, dv'.ownBlock = some g ∧ w.heap.size ≤ g) : BodyS pb zb sb b0 b1 b2 dm bx b4 b6 b7 base B tv toks size apex W d0 i' sets' acc ds' dv' v w' := by
  have hWw := h.fr.size
  have hmq := h.mq.lt
  have hpz := hK.pz
  have hzW := hK.zW
  have hWB := hK.WB
  have hsB := hK.sB
  have hxB := hK.xB
  have hxs := hK.xs
  have hlow := hK.low
  have hzl := hK.zlow
  have hbW := hK.bW
  have hpbase := hK.pbase
  have hpw : pb < w.heap.size := by omega
  have hdv0 : ∀ g, dv.ownBlock = some g → base ≤ g ∧ g < w.heap.size := ownsRow_base h.dg.row
  have hdz : ∀ g, dv.ownBlock = some g → (base ≤ g ∧ g < W.heap.size ∧ g ≠ zb) ∨ B ≤ g := fun g hg => by
    rcases h.dd with e | ⟨g', e, hge⟩
    · exact .inl (hK.dW g (e ▸ hg))
    · rw [hg] at e; cases e; exact .inr hge
  have hnS : ∀ k, k < w.heap.size → k ≠ sb → dv.ownBlock ≠ some k → ¬ S' k := fun k hk h1 h2 e => by
    rcases hS k e with e | e | e
    · exact h1 e
    · exact h2 e
    · omega
  have hBw := h.bw
  have hbox : ∀ (p : Addr), p.block < w.heap.size → p.block ≠ pb → p.block ≠ sb → dv.ownBlock ≠ some p.block → w'.cell? p = w.cell? p := fun p h1 h2 h3 h4 => hf.cell h1 h2 (hnS _ h1 h3 h4)
  have hnx : ∀ k, W.heap.size ≤ k → k < B → dv.ownBlock ≠ some k := fun k h1 h2 e => by
    rcases hdz k e with e | e <;> omega
  have hnz : dv.ownBlock ≠ some zb := fun e => by
    rcases hdz zb e with e | e
    · exact e.2.2 rfl
    · omega
  refine ⟨hf.pin h.pin (fun k hk => ?_) hi hc, (hf.mine 3 (by omega) (by omega)).trans h.c3, hf.data h.data (fun k hk e => ?_), hQ, hD, ?_, ?_, ?_, ?_, ?_, ?_, ?_, ?_, ?_, Nat.le_trans hBw hf.size⟩
  · rcases hS k hk with e | e | e
    · omega
    · have := hdv0 k e; omega
    · omega
  · rcases hS k e with e | e | e
    · omega
    · have := hdv0 k e; omega
    · omega
  · exact (hbox ⟨zb, 0, none⟩ (by dsimp only; omega) (by dsimp only; omega) (by dsimp only; omega) hnz).trans h.z0
  · exact (hbox ⟨zb, 1, none⟩ (by dsimp only; omega) (by dsimp only; omega) (by dsimp only; omega) hnz).trans h.z1
  · exact (hf.frozen (p := ⟨zb, 1, none⟩) (by dsimp only; omega) (by dsimp only; omega) (hnS _ (by dsimp only; omega) (by dsimp only; omega) hnz)).trans h.zf
  · refine h.own.leaves rsigned_kept rsigned_sans rsigned_more ⟨hf.os, hf.tape, hf.output, hf.size, fun k hk hM => ?_⟩ (fun g hg => ?_)
    · simp only [Mb, not_or] at hM
      refine ⟨?_, hf.block k hk (by omega) (hnS k hk (by omega) hM.2.1)⟩
      simp only [Mb, not_or]
      refine ⟨hM.1, ?_, hM.2.2⟩
      rcases hdv with e | ⟨g, e, hg⟩
      · rw [e]; exact hM.2.1
      · rw [e]; intro e2; cases e2; omega
    · obtain ⟨g1, g2, g3⟩ := h.vown g hg
      exact ⟨hf.block g g2 (by omega) (hnS g g2 (by omega) g3), .inr (.inr hg)⟩
  · exact (hbox ⟨b0, 0, none⟩ (by dsimp only; omega) (by dsimp only; omega) hxs.1 (hnx b0 hxB.1 hxB.2.1)).trans h.x0
  · exact (hbox ⟨b1, 0, none⟩ (by dsimp only; omega) (by dsimp only; omega) hxs.2.1 (hnx b1 hxB.2.2.1 hxB.2.2.2.1)).trans h.x1
  · exact (hbox ⟨b2, 0, none⟩ (by dsimp only; omega) (by dsimp only; omega) hxs.2.2 (hnx b2 hxB.2.2.2.2.1 hxB.2.2.2.2.2)).trans h.x2
  · refine h.fr.trans hf (fun k hk hkW => ?_)
    rcases hS k hk with e | e | e
    · omega
    · rcases h.dd with e2 | ⟨g, e2, hg⟩
      · right; rw [← e2]; exact e
      · rw [e] at e2; cases e2; omega
    · omega
  · rcases hdv with e | ⟨g, e, hg⟩
    · rw [e]; exact h.dd
    · exact .inr ⟨g, e, by omega⟩
theorem BodyS.grow (h : BodyS pb zb sb b0 b1 b2 dm bx b4 b6 b7 base B tv toks size apex W d0 i sets acc ds dv v w) (hK : BodyK pb zb sb b0 b1 b2 dm bx b4 b6 b7 base B W d0) (hb : Below w.heap.size w w') :
    BodyS pb zb sb b0 b1 b2 dm bx b4 b6 b7 base B tv toks size apex W d0 i sets acc ds dv v w' :=
  have hp := h.pin.lt
  h.to hK (Fr.of_below (S := fun _ => False) hb hp) (fun _ e => e.elim) ((hb.cell (p := ⟨pb, 1, none⟩) hp).trans h.pin.c1) h.pin.le (h.mq.keep (hb.block sb h.mq.lt))
    (h.dg.keep (hb.cell (p := ⟨pb, 6, none⟩) hp) (hb.frozen (p := ⟨pb, 6, none⟩) hp) (fun g hg => hb.block g (ownsRow_base h.dg.row g hg).2)) (.inl rfl)
theorem BodyS.next {j : Nat} {n : Int} (h : BodyS pb zb sb b0 b1 b2 dm bx b4 b6 b7 base B tv toks size apex W d0 i sets acc ds dv v w) (hK : BodyK pb zb sb b0 b1 b2 dm bx b4 b6 b7 base B W d0) (hj : j ≤ toks.length) (hn : n = j) :
    BodyS pb zb sb b0 b1 b2 dm bx b4 b6 b7 base B tv toks size apex W d0 j sets acc ds dv v (w.setCell ⟨pb, 1, none⟩ (.int .i64 n)) := by
  subst hn
  have hp := h.pin.lt
  have hfar := h.dg.far hK.pbase
  have hsb := hK.sB
  have hW := hK.zW
  have hpz := hK.pz
  exact h.to hK (Fr.of_mine (S := fun _ => False) _ (.inl rfl)) (fun _ e => e.elim) (World.cell?_setCell_same (w := w) (a := ⟨pb, 1, none⟩) (v := .int .i64 j) h.pin.c1) hj (h.mq.keep (Below.heap_setCell _ _ _ _ (by dsimp only; omega)))
    (h.dg.keep (World.cell?_setCell_other _ _ _ _ (by intro e; cases e)) (World.frozen?_setCell _ _ _ _) (fun g hg => Below.heap_setCell _ _ _ _ (fun e => hfar (by rw [hg, e])))) (.inl rfl)
/-- An entry was read, or was wrong. -/
theorem BodyS.moved {sets' : List (List UInt8 × Int)} {r' : List Np.Tok} (h : BodyS pb zb sb b0 b1 b2 dm bx b4 b6 b7 base B tv toks size apex W d0 i sets acc ds dv v w) (hK : BodyK pb zb sb b0 b1 b2 dm bx b4 b6 b7 base B W d0) (hm : MovedTo (fun k => k = sb) pb toks w r' w') (hQ : MapQ sb sets' w') :
    ∃ i', toks.drop i' = r' ∧ BodyS pb zb sb b0 b1 b2 dm bx b4 b6 b7 base B tv toks size apex W d0 i' sets' acc ds dv v w' := by
  obtain ⟨i', hi', hr, hmv⟩ := hm
  have hp := h.pin.lt
  have hsb := hK.sB
  have hW := hK.zW
  have hpz := hK.pz
  have hzl := hK.zlow
  have hbW := hK.bW
  have hps : ¬ pb = sb := by omega
  have hds : ∀ g, dv.ownBlock = some g → ¬ g = sb := fun g hg e => by
    subst e
    rcases h.dd with e2 | ⟨g', e2, hg'⟩
    · have := hK.dW g (e2 ▸ hg); omega
    · rw [hg] at e2; cases e2; omega
  have hpd : ∀ g, dv.ownBlock = some g → ¬ g = pb := fun g hg e => h.dg.far hK.pbase (by rw [hg, e])
  exact ⟨i', hr, h.to hK (Fr.of_mv hmv hp hps) (fun k e => .inl e) (hmv.next hps h.pin.c1) hi' hQ
    (h.dg.keep (hmv.mine hp hps (by omega)) (hmv.frozen (p := ⟨pb, 6, none⟩) hp hps) (fun g hg => hmv.block (ownsRow_base h.dg.row g hg).2 (hds g hg) (hpd g hg))) (.inl rfl)⟩
/-- What was wrong is told. -/
theorem BodyS.caught {er pos : Int} (h : BodyS pb zb sb b0 b1 b2 dm bx b4 b6 b7 base B tv toks size apex W d0 i sets acc ds dv v w) (hK : BodyK pb zb sb b0 b1 b2 dm bx b4 b6 b7 base B W d0) (hc : Caught pb base dv ds.length (ds.flatMap encG) er pos w w') :
    ∃ dv', BodyS pb zb sb b0 b1 b2 dm bx b4 b6 b7 base B tv toks size apex W d0 i sets acc (ds ++ [⟨er, pos⟩]) dv' v w' := by
  have hp := h.pin.lt
  obtain ⟨dv', h1, h2, h3, h4⟩ := h.dg.caught hK.pbase hp hc
  have hsb := hK.sB
  have hW := hK.zW
  have hpz := hK.pz
  have hds : ¬ dv.ownBlock = some sb := fun hg => by
    rcases h.dd with e2 | ⟨g', e2, hg'⟩
    · have := hK.dW sb (e2 ▸ hg); omega
    · rw [hg] at e2; cases e2; omega
  exact ⟨dv', h.to hK h2 (fun k e => .inr (.inl e)) (h3.trans h.pin.c1) h.pin.le (h.mq.keep (h2.block sb h.mq.lt (by omega) hds)) h1 h4⟩
/-- One more set. -/
theorem BodyS.add {w4 : World} {v' : Value} {x : Np.Signed} (h : BodyS pb zb sb b0 b1 b2 dm bx b4 b6 b7 base B tv toks size apex W d0 i sets acc ds dv v w) (hK : BodyK pb zb sb b0 b1 b2 dm bx b4 b6 b7 base B W d0)
    (ho : OwnM RSigned 5 41 B (fun k => Mb B dv v k ∨ v'.ownBlock = some k) w4 v' (acc ++ [x])) (hg : w.grownBy w4 v.ownBlock) :
    BodyS pb zb sb b0 b1 b2 dm bx b4 b6 b7 base B tv toks size apex W d0 i sets (acc ++ [x]) ds dv v' (w4.setCell ⟨zb, 1, none⟩ v') := by
  have hWw := h.fr.size
  have hpz := hK.pz
  have hzW := hK.zW
  have hWB := hK.WB
  have hsB := hK.sB
  have hxB := hK.xB
  have hlow := hK.low
  have hzl := hK.zlow
  have hbW := hK.bW
  have hpbase := hK.pbase
  have hBw := h.bw
  have hp := h.pin.lt
  have hvB : ∀ g, v.ownBlock = some g → B ≤ g := fun g hg => (h.vown g hg).1
  have hlt : ∀ k, k < B → some k ≠ v.ownBlock := fun k hk e => by have := hvB k e.symm; omega
  have hf1 : Fr (fun k => v.ownBlock = some k) pb w w4 := Fr.of_grown hg hp (hlt pb (by omega))
  have hf2 : Fr (fun k => k = zb) pb w4 (w4.setCell ⟨zb, 1, none⟩ v') := Fr.of_set (p := ⟨zb, 1, none⟩) v' (by dsimp only; omega)
  have hf : Fr (fun k => k = zb ∨ v.ownBlock = some k) pb w (w4.setCell ⟨zb, 1, none⟩ v') := (hf1.wider (fun k e => .inr e)).trans hf2 (fun k e _ => .inl e)
  have hdv0 : ∀ g, dv.ownBlock = some g → base ≤ g ∧ g < w.heap.size := ownsRow_base h.dg.row
  have hdz : ∀ g, dv.ownBlock = some g → g ≠ zb := fun g hg => by
    rcases h.dd with e | ⟨g', e, hge⟩
    · exact (hK.dW g (e ▸ hg)).2.2
    · rw [hg] at e; cases e; omega
  have hnb : ∀ k, k < w.heap.size → k < B → k ≠ pb → k ≠ zb → (w4.setCell ⟨zb, 1, none⟩ v').heap[k]? = w.heap[k]? := fun k h1 h2 h3 h4 => hf.block k h1 h3 (by rintro (e | e); exact h4 e; exact hlt k h2 e.symm)
  have hcb : ∀ (p : Addr), p.block < w.heap.size → p.block < B → p.block ≠ pb → p.block ≠ zb → (w4.setCell ⟨zb, 1, none⟩ v').cell? p = w.cell? p := fun p h1 h2 h3 h4 => World.cell?_of_block (w := w) (hnb _ h1 h2 h3 h4)
  have hz1 : w4.cell? ⟨zb, 1, none⟩ = some v := (hg.cell_far ⟨zb, 1, none⟩ (by dsimp only; omega) (hlt zb (by omega))).trans h.z1
  refine ⟨hf.pin h.pin (fun k hk => ?_) h.pin.le ?_, (hf.mine 3 (by omega) (by omega)).trans h.c3, hf.data h.data (fun k hk e => ?_), h.mq.keep (hnb sb h.mq.lt hsB.2 (by omega) (by omega)), h.dg.keep ?_ (hf.froz 6) (fun g hg => ?_), ?_, World.cell?_setCell_same (w := w4) (a := ⟨zb, 1, none⟩) (v := v') hz1, ?_, ?_, ?_, ?_, ?_, ?_, h.dd, Nat.le_trans hBw hf.size⟩
  · rcases hk with e | e
    · omega
    · have := hvB k e; omega
  · rw [World.cell?_setCell_other _ _ _ _ (by intro e; have := congrArg Addr.block e; dsimp only at this; omega)]
    exact (hg.cell_far ⟨pb, 1, none⟩ hp (hlt pb (by omega))).trans h.pin.c1
  · rcases e with e | e
    · omega
    · have := hvB k e; omega
  · rw [World.cell?_setCell_other _ _ _ _ (by intro e; have := congrArg Addr.block e; dsimp only at this; omega)]
    exact hg.cell_far ⟨pb, 6, none⟩ hp (hlt pb (by omega))
  · refine hf.block g (hdv0 g hg).2 (fun e => h.dg.far hK.pbase (by rw [hg, e])) ?_
    rintro (e | e)
    · exact hdz g hg e
    · exact (h.vown g e).2.2 hg
  · rw [World.cell?_setCell_other _ _ _ _ (by intro e; cases e)]
    exact (hg.cell_far ⟨zb, 0, none⟩ (by dsimp only; omega) (hlt zb (by omega))).trans h.z0
  · rw [World.frozen?_setCell]
    exact (hg.frozen_far ⟨zb, 1, none⟩ (by dsimp only; omega) (hlt zb (by omega))).trans h.zf
  · have ho' := ho
    obtain ⟨rows, _, hrow, _, _⟩ := ho'
    have hvb := ownsRow_base hrow
    refine ho.leaves rsigned_kept rsigned_sans rsigned_more ⟨rfl, rfl, rfl, by simp [World.setCell], fun k hk hM => ?_⟩ (fun g hg => ⟨Below.heap_setCell _ _ _ _ (by have := (hvb g hg).1; dsimp only; omega), .inr (.inr hg)⟩)
    simp only [Mb, not_or] at hM ⊢
    exact ⟨⟨hM.1.1, hM.1.2.1, hM.2⟩, Below.heap_setCell _ _ _ _ (by dsimp only; omega)⟩
  · exact (hcb ⟨b0, 0, none⟩ (by dsimp only; omega) hxB.2.1 (by dsimp only; omega) (by dsimp only; omega)).trans h.x0
  · exact (hcb ⟨b1, 0, none⟩ (by dsimp only; omega) hxB.2.2.2.1 (by dsimp only; omega) (by dsimp only; omega)).trans h.x1
  · exact (hcb ⟨b2, 0, none⟩ (by dsimp only; omega) hxB.2.2.2.2.2 (by dsimp only; omega) (by dsimp only; omega)).trans h.x2
  · refine h.fr.trans hf (fun k hk hkW => ?_)
    rcases hk with e | e
    · exact .inl e
    · have := hvB k e; omega
end
end Go.Proofs.YtnbolgdccdnjeaaGreatDoor
/- The parser: the closure that reads an entry, where nothing is wrong: contract. -/
namespace Go.Proofs.YtnbolgdccdnjeaaGreatDoor
open Go.RowKit
theorem Tryz.infoSignedQ : (Tryz.prog.info? 41).map (fun i => (i.zero, i.size, i.bytes)) = some (some (.agg #[.string ⟨#[]⟩, .int .i64 0, .int .i64 0, .slice none 0 0, .slice none 0 0]), 5, 80) := by kernel_rfl
theorem prsigned_one {w : World} {B : Nat} {r : List Value} {y : Np.Signed} (h : RSigned w B r y) : ∀ u ∈ r, u.oneCell' = true := by
  obtain ⟨s, v, u, _, _, h1, h2, rfl⟩ := h
  obtain ⟨A1, c1, rfl, _⟩ := h1
  obtain ⟨A2, c2, rfl, _⟩ := h2
  intro u hu
  simp only [List.mem_cons, List.not_mem_nil, or_false] at hu
  rcases hu with rfl | rfl | rfl | rfl | rfl <;> rfl
/-- What the slots of the region hold. -/
def b1val (zb pb sb : Nat) (v a e14 e15 e16 e17 : Value) (i : Nat) : Value :=
  [Value.pointer (some ⟨zb, 0, none⟩), .pointer (some ⟨zb, 0, none⟩), .pointer (some ⟨zb, 0, none⟩), .pointer (some ⟨zb, 1, none⟩), v, .pointer (some ⟨pb, 0, none⟩), .pointer (some ⟨zb, 0, none⟩), .pointer (some ⟨zb, 0, none⟩), .pointer (some ⟨zb, 0, none⟩), a, .map (some sb), e14, e15, e16, e17, .pointer (some ⟨zb, 0, none⟩), .pointer (some ⟨zb, 1, none⟩)].getD i undef
def b1dst (i : Nat) : Nat := [3, 4, 5, 6, 7, 8, 9, 10, 11, 12, 13, 14, 15, 16, 17, 18, 19].getD i 0
theorem b1dst_lt : ∀ i ∈ [0, 1, 2, 3, 4, 5, 6, 7, 8, 9, 10, 15, 16, 11, 12, 13, 14], b1dst i < 20 ∧ 3 ≤ b1dst i := by decide
theorem b1dst_inj : ∀ i ∈ [0, 1, 2, 3, 4, 5, 6, 7, 8, 9, 10, 15, 16, 11, 12, 13, 14], ∀ j ∈ [0, 1, 2, 3, 4, 5, 6, 7, 8, 9, 10, 15, 16, 11, 12, 13, 14], j ≠ i → b1dst i ≠ b1dst j := by decide
set_option maxRecDepth 100000 in
set_option maxHeartbeats 4000000 in
theorem body1_ok (pb zb sb b0 b1 b2 dm bx b4 b6 b7 base B : Nat) (tv : Value) (toks : List Np.Tok) (size : Int) (apex : List UInt8) (W : World) (d0 : Value) (i : Nat) (sets : List (List UInt8 × Int)) (acc : List Np.Signed) (ds : List Np.Diag) (dv v : Value) (w : World)
    (h : BodyS pb zb sb b0 b1 b2 dm bx b4 b6 b7 base B tv toks size apex W d0 i sets acc ds dv v w) (hK : BodyK pb zb sb b0 b1 b2 dm bx b4 b6 b7 base B W d0) (hacc : acc.length ≤ 2000) (s : Np.DSet) (r' : List Np.Tok) (hsn : s.name.length ≤ 140737488355328)
    (hc : Calls Tryz.prog 140 #[.pointer (some ⟨pb, 0, none⟩), .string (bytesOf apex), .map (some sb)] w.drew (EntryOut pb sb toks size sets w.drew (.ok s r'))) :
    Calls Tryz.prog 139 #[.pointer (some ⟨b0, 0, none⟩), .pointer (some ⟨b1, 0, none⟩), .pointer (some ⟨b2, 0, none⟩)] w
      fun e w' => e = .returned (.tuple #[]) ∧ ∃ i' v', toks.drop i' = r' ∧ BodyS pb zb sb b0 b1 b2 dm bx b4 b6 b7 base B tv toks size apex W d0 i' ((s.name, s.type) :: sets) (acc ++ [⟨s, []⟩]) ds dv v' w' := by
  have HK := Lib.hid hK
  have HS := Lib.hid (h.grow hK ((Below.refl w.heap.size w).drew))
  clear h hK
  go_enter Tryz.func139, Tryz.ntmps139
  go_wp2_with fail
  have x0 := HS.out.x0
  have x1 := HS.out.x1
  have x2 := HS.out.x2
  have z0 := HS.out.z0
  have z1 := HS.out.z1
  have HC := Lib.hid hc
  clear hc
  refine wp_region_any (by kernel_rfl) ?_
  refine wpAny_act (w := w.drew) (D := [0, 1, 2, 3, 4, 5, 6, 7, 8, 9, 10, 15, 16]) (A := []) (p := 11) (dst := b1dst) (val := b1val zb pb sb v (.string (bytesOf apex)) undef undef undef undef) (m := 20)
    (base := [(0, .pointer (some ⟨b0, 0, none⟩)), (1, .pointer (some ⟨b1, 0, none⟩)), (2, .pointer (some ⟨b2, 0, none⟩))]) (wellB_spec (by kernel_rfl)) (by simp) (by simp) (waitB_spec (by kernel_rfl)) ?_
    (fun i hi => (b1dst_lt i (by simp at hi ⊢; omega)).1) (fun i hi j hj => b1dst_inj i (by simp at hi ⊢; omega) j (by simp at hj ⊢; omega)) (fun i hi q hq => by
      have hq1 : q.1 < 3 := by simp at hq; rcases hq with rfl | rfl | rfl <;> simp
      have := (b1dst_lt i (by simp at hi ⊢; omega)).2
      omega) ?_ ?_ _ _ _ (Held.start (by simp [Act.eval]) (by simp))
  · intro i hi hiA
    simp only [List.mem_cons, List.not_mem_nil, or_false] at hi
    rcases hi with rfl | rfl | rfl | rfl | rfl | rfl | rfl | rfl | rfl | rfl | rfl | rfl | rfl
    all_goals first | (exfalso; simp at hiA; done) | exact ⟨_, rfl, rfl⟩
  · intro i hi hiA o ho a hb hdep
    have k0' := hb (0, .pointer (some ⟨b0, 0, none⟩)) (by simp)
    have k1' := hb (1, .pointer (some ⟨b1, 0, none⟩)) (by simp)
    have k2' := hb (2, .pointer (some ⟨b2, 0, none⟩)) (by simp)
    simp [Act.eval] at k0' k1' k2'
    simp only [List.mem_cons, List.not_mem_nil, or_false] at hi
    rcases hi with rfl | rfl | rfl | rfl | rfl | rfl | rfl | rfl | rfl | rfl | rfl | rfl | rfl
    all_goals first
      | (exfalso; simp at hiA; done)
      | (cases ho
         try simp [Act.eval, Region.binds, b1val, b1dst] at hdep
         refine .inl ⟨by simp [Region.wanted], fun w' hw' => ?_⟩
         subst hw'
         simp [Oper.quietAt, Oper.quietUpon, execOp, go_sem, b1val, k0', k1', k2', x0, x1, x2, z0, z1, hdep])
  · intro f listed a hH hr
    obtain ⟨_, o, ho, hall⟩ := mem_ready.1 hr
    cases ho
    have hG := hH.good
    have hval := fun i hi hl => hG.val i hi hl
    have hlst : ∀ k, ({ on := k, ground := .data } : Edge) ∈ _ → listed.getD k false = true := fun k hk => hall _ hk rfl
    have a5 := hval 5 (by simp) (hlst 5 (by simp))
    have a9 := hval 9 (by simp) (hlst 9 (by simp))
    have a10 := hval 10 (by simp) (hlst 10 (by simp))
    simp [Act.eval, b1val, b1dst] at a5 a9 a10
    simp only [wpOp]
    simp [Region.wanted]
    refine .inl ?_
    simp [Oper.wp, go_sem, a5, a9, a10]
    refine HC.out.mono ?_
    rintro e w2 ⟨hQ2, ⟨vd, rfl, hvd⟩, hm2⟩
    obtain ⟨i2, hr2, hS2⟩ := HS.out.moved HK.out hm2 hQ2
    obtain ⟨Ad, cd, rfl, -, -⟩ := slr_form hvd
    have HVD := Lib.hid hvd
    have HS2 := Lib.hid hS2
    have HM2 := Lib.hid hm2
    clear hvd x0 x1 x2 z0 z1 hm2 hQ2
    have x0 := hS2.x0
    have x1 := hS2.x1
    have x2 := hS2.x2
    have z0 := hS2.z0
    have z1 := hS2.z1
    clear hS2
    refine wpAny_act (w := w2) (D := [0, 1, 2, 3, 4, 5, 6, 7, 8, 9, 10, 15, 16, 11, 12]) (A := [11]) (p := 13) (dst := b1dst) (val := b1val zb pb sb v (.string (bytesOf apex)) (.agg #[.string (bytesOf s.name), .int .i64 s.type, .int .i64 s.life, .slice Ad s.data.length cd]) (.agg #[.string (bytesOf s.name), .int .i64 s.type, .int .i64 s.life, .slice Ad s.data.length cd, .slice none 0 0]) undef undef) (m := 20)
      (base := [(0, .pointer (some ⟨b0, 0, none⟩)), (1, .pointer (some ⟨b1, 0, none⟩)), (2, .pointer (some ⟨b2, 0, none⟩))]) (wellB_spec (by kernel_rfl)) (by simp) (by simp) (waitB_spec (by kernel_rfl)) ?_
      (fun i hi => (b1dst_lt i (by simp at hi ⊢; omega)).1) (fun i hi j hj => b1dst_inj i (by simp at hi ⊢; omega) j (by simp at hj ⊢; omega)) (fun i hi q hq => by
        have hq1 : q.1 < 3 := by simp at hq; rcases hq with rfl | rfl | rfl <;> simp
        have := (b1dst_lt i (by simp at hi ⊢; omega)).2
        omega) ?_ ?_ _ _ _ (hH.act (D' := [0, 1, 2, 3, 4, 5, 6, 7, 8, 9, 10, 15, 16, 11, 12]) (val' := b1val zb pb sb v (.string (bytesOf apex)) (.agg #[.string (bytesOf s.name), .int .i64 s.type, .int .i64 s.life, .slice Ad s.data.length cd]) (.agg #[.string (bytesOf s.name), .int .i64 s.type, .int .i64 s.life, .slice Ad s.data.length cd, .slice none 0 0]) undef undef) hr (by simp) (fun i hi => by simp at hi ⊢; omega) (fun i hi => by simp at hi; rcases hi with rfl | rfl | rfl | rfl | rfl | rfl | rfl | rfl | rfl | rfl | rfl | rfl | rfl <;> rfl) rfl (by simp [b1dst]) (fun j hj => b1dst_inj 11 (by simp) j (by simp at hj ⊢; omega) (by rintro rfl; simp at hj)) (fun q hq => by simp at hq; rcases hq with rfl | rfl | rfl <;> simp [b1dst]) (by simp))
    · intro i hi hiA
      simp only [List.mem_cons, List.not_mem_nil, or_false] at hi
      rcases hi with rfl | rfl | rfl | rfl | rfl | rfl | rfl | rfl | rfl | rfl | rfl | rfl | rfl | rfl | rfl
      all_goals first | (exfalso; simp at hiA; done) | exact ⟨_, rfl, rfl⟩
    · intro i hi hiA o ho a hb hdep
      have k0' := hb (0, .pointer (some ⟨b0, 0, none⟩)) (by simp)
      have k1' := hb (1, .pointer (some ⟨b1, 0, none⟩)) (by simp)
      have k2' := hb (2, .pointer (some ⟨b2, 0, none⟩)) (by simp)
      simp [Act.eval] at k0' k1' k2'
      simp only [List.mem_cons, List.not_mem_nil, or_false] at hi
      rcases hi with rfl | rfl | rfl | rfl | rfl | rfl | rfl | rfl | rfl | rfl | rfl | rfl | rfl | rfl | rfl
      all_goals first
        | (exfalso; simp at hiA; done)
        | (cases ho
           try simp [Act.eval, Region.binds, b1val, b1dst] at hdep
           refine .inl ⟨by simp [Region.wanted], fun w' hw' => ?_⟩
           subst hw'
           simp [Oper.quietAt, Oper.quietUpon, execOp, go_sem, b1val, k0', k1', k2', x0, x1, x2, z0, z1, hdep])
    · intro f listed a hH hr
      obtain ⟨_, o, ho, hall⟩ := mem_ready.1 hr
      cases ho
      have hG := hH.good
      have hval := fun i hi hl => hG.val i hi hl
      have hlst : ∀ k, ({ on := k, ground := .data } : Edge) ∈ _ → listed.getD k false = true := fun k hk => hall _ hk rfl
      have a12 := hval 12 (by simp) (hlst 12 (by simp))
      simp [Act.eval, b1val, b1dst] at a12
      simp only [wpOp]
      simp [Region.wanted]
      refine .inl ?_
      simp [Oper.wp, execOp, go_sem, a12]
      obtain ⟨W3, hW3⟩ : ∃ W3, W3 = w2.alloc (.cells #[.string (bytesOf s.name), .int .i64 s.type, .int .i64 s.life, .slice Ad s.data.length cd, .slice none 0 0] 41) := ⟨_, rfl⟩
      have hb3 : Below w2.heap.size w2 W3 := by rw [hW3]; exact (Below.refl _ _).alloc (Nat.le_refl _) _
      have hc3 : CellsAt W3 w2.heap.size 0 [.string (bytesOf s.name), .int .i64 s.type, .int .i64 s.life, .slice Ad s.data.length cd, .slice none 0 0] := by rw [hW3]; exact pcellsAt_new _ _ _
      rw [← hW3]
      have HB3 := Lib.hid hb3
      have HC3 := Lib.hid hc3
      have hS3 := HS2.out.grow HK.out hb3
      clear hW3 x0 x1 x2 z0 z1 hb3 hc3
      have x0 := hS3.x0
      have x1 := hS3.x1
      have x2 := hS3.x2
      have z0 := hS3.z0
      have z1 := hS3.z1
      have HS3 := Lib.hid hS3
      clear hS3
      refine wpAny_act (w := W3) (D := [0, 1, 2, 3, 4, 5, 6, 7, 8, 9, 10, 15, 16, 11, 12, 13]) (A := [13, 11]) (p := 14) (dst := b1dst) (val := b1val zb pb sb v (.string (bytesOf apex)) (.agg #[.string (bytesOf s.name), .int .i64 s.type, .int .i64 s.life, .slice Ad s.data.length cd]) (.agg #[.string (bytesOf s.name), .int .i64 s.type, .int .i64 s.life, .slice Ad s.data.length cd, .slice none 0 0]) (.slice (some ⟨w2.heap.size, 0, none⟩) 1 1) undef) (m := 20)
        (base := [(0, .pointer (some ⟨b0, 0, none⟩)), (1, .pointer (some ⟨b1, 0, none⟩)), (2, .pointer (some ⟨b2, 0, none⟩))]) (wellB_spec (by kernel_rfl)) (by simp) (by simp) (waitB_spec (by kernel_rfl)) ?_
        (fun i hi => (b1dst_lt i (by simp at hi ⊢; omega)).1) (fun i hi j hj => b1dst_inj i (by simp at hi ⊢; omega) j (by simp at hj ⊢; omega)) (fun i hi q hq => by
          have hq1 : q.1 < 3 := by simp at hq; rcases hq with rfl | rfl | rfl <;> simp
          have := (b1dst_lt i (by simp at hi ⊢; omega)).2
          omega) ?_ ?_ _ _ _ (hH.act (D' := [0, 1, 2, 3, 4, 5, 6, 7, 8, 9, 10, 15, 16, 11, 12, 13]) (val' := b1val zb pb sb v (.string (bytesOf apex)) (.agg #[.string (bytesOf s.name), .int .i64 s.type, .int .i64 s.life, .slice Ad s.data.length cd]) (.agg #[.string (bytesOf s.name), .int .i64 s.type, .int .i64 s.life, .slice Ad s.data.length cd, .slice none 0 0]) (.slice (some ⟨w2.heap.size, 0, none⟩) 1 1) undef) hr (by simp) (fun i hi => by simp at hi ⊢; omega) (fun i hi => by simp at hi; rcases hi with rfl | rfl | rfl | rfl | rfl | rfl | rfl | rfl | rfl | rfl | rfl | rfl | rfl | rfl | rfl <;> rfl) rfl (by simp [b1dst]) (fun j hj => b1dst_inj 13 (by simp) j (by simp at hj ⊢; omega) (by rintro rfl; simp at hj)) (fun q hq => by simp at hq; rcases hq with rfl | rfl | rfl <;> simp [b1dst]) (by simp))
      · intro i hi hiA
        simp only [List.mem_cons, List.not_mem_nil, or_false] at hi
        rcases hi with rfl | rfl | rfl | rfl | rfl | rfl | rfl | rfl | rfl | rfl | rfl | rfl | rfl | rfl | rfl | rfl
        all_goals first | (exfalso; simp at hiA; done) | exact ⟨_, rfl, rfl⟩
      · intro i hi hiA o ho a hb hdep
        have k0' := hb (0, .pointer (some ⟨b0, 0, none⟩)) (by simp)
        have k1' := hb (1, .pointer (some ⟨b1, 0, none⟩)) (by simp)
        have k2' := hb (2, .pointer (some ⟨b2, 0, none⟩)) (by simp)
        simp [Act.eval] at k0' k1' k2'
        simp only [List.mem_cons, List.not_mem_nil, or_false] at hi
        rcases hi with rfl | rfl | rfl | rfl | rfl | rfl | rfl | rfl | rfl | rfl | rfl | rfl | rfl | rfl | rfl | rfl
        all_goals first
          | (exfalso; simp at hiA; done)
          | (cases ho
             try simp [Act.eval, Region.binds, b1val, b1dst] at hdep
             refine .inl ⟨by simp [Region.wanted], fun w' hw' => ?_⟩
             subst hw'
             simp [Oper.quietAt, Oper.quietUpon, execOp, go_sem, b1val, k0', k1', k2', x0, x1, x2, z0, z1, hdep])
      · intro f listed a hH hr
        obtain ⟨_, o, ho, hall⟩ := mem_ready.1 hr
        cases ho
        have hG := hH.good
        have hval := fun i hi hl => hG.val i hi hl
        have hlst : ∀ k, ({ on := k, ground := .data } : Edge) ∈ _ → listed.getD k false = true := fun k hk => hall _ hk rfl
        have a4 := hval 4 (by simp) (hlst 4 (by simp))
        have a13 := hval 13 (by simp) (hlst 13 (by simp))
        simp [b1val, b1dst] at a4 a13
        obtain ⟨An, cn, hform⟩ := HS3.out.own.form
        have hMlt : ∀ k, Mb B dv v k → k < w.heap.size := fun k hk => by
          rcases hk with e | e | e
          · exact Nat.lt_of_lt_of_le e HS.out.bw
          · exact (ownsRow_base HS.out.dg.row k e).2
          · exact (HS.out.vown k e).2.1
        have hrow2 : RSigned (sansP w2 (Mb B dv v)) w2.heap.size [.string (bytesOf s.name), .int .i64 s.type, .int .i64 s.life, .slice Ad s.data.length cd, .slice none 0 0] ⟨s, []⟩ :=
          ⟨bytesOf s.name, _, _, by simp [bytesOf], by rw [← size_list]; simpa [bytesOf] using hsn, HVD.out.sans rdatum_sans (fun k hk => hMlt k hk), ⟨none, 0, rfl, by simp, by simp, fun i x h => by simp at h⟩, rfl⟩
        have hrow3 : RSigned (sansP W3 (Mb B dv v)) W3.heap.size [.string (bytesOf s.name), .int .i64 s.type, .int .i64 s.life, .slice Ad s.data.length cd, .slice none 0 0] ⟨s, []⟩ :=
          (Leaves'.of_below (M := Mb B dv v) HB3.out).read rsigned_kept rsigned_sans rsigned_more hrow2
        obtain ⟨i0, hi0, hz0, hz1, hz2⟩ := info_parts Tryz.infoSignedQ
        simp only [wpOp]
        simp [Region.wanted]
        refine .inl ?_
        refine wp_append_M (M := Mb B dv v) W3 (.tmp 7) (.tmp 16) 30 rfl B 41 i0 (.agg #[.string ⟨#[]⟩, .int .i64 0, .int .i64 0, .slice none 0 0, .slice none 0 0]) 80 Tryz.underlying30 hi0 hz0 hz1 hz2 rfl (by decide) v acc a4 HS3.out.own (some ⟨w2.heap.size, 0, none⟩) 1 [⟨s, []⟩] a13 (rowsM_one rfl hrow3 HC3.out) (fun _ _ _ _ h => prsigned_one h) (by unfold maxLen; simp; omega) (by simp; omega) HS3.out.bw rsigned_kept rsigned_sans rsigned_more ?_
        intro v' w4 ho4 hg4 hat4
        have hfin := HS3.out.add HK.out ho4 hg4
        have hlt3 : ∀ k, k < B → k < W3.heap.size := fun k hk => Nat.lt_of_lt_of_le hk HS3.out.bw
        have hne3 : ∀ k, k < B → some k ≠ v.ownBlock := fun k hk e => by have := (HS3.out.vown k e.symm).1; omega
        have hKx := HK.out.xB
        have hKz := HK.out.zW
        have hKW := HK.out.WB
        replace x0 := (hg4.cell_far ⟨b0, 0, none⟩ (hlt3 b0 hKx.2.1) (hne3 b0 hKx.2.1)).trans x0
        replace x1 := (hg4.cell_far ⟨b1, 0, none⟩ (hlt3 b1 hKx.2.2.2.1) (hne3 b1 hKx.2.2.2.1)).trans x1
        replace x2 := (hg4.cell_far ⟨b2, 0, none⟩ (hlt3 b2 hKx.2.2.2.2.2) (hne3 b2 hKx.2.2.2.2.2)).trans x2
        replace z0 := (hg4.cell_far ⟨zb, 0, none⟩ (hlt3 zb (by omega)) (hne3 zb (by omega))).trans z0
        replace z1 := (hg4.cell_far ⟨zb, 1, none⟩ (hlt3 zb (by omega)) (hne3 zb (by omega))).trans z1
        have zf4 := (hg4.frozen_far ⟨zb, 1, none⟩ (hlt3 zb (by omega)) (hne3 zb (by omega))).trans HS3.out.zf
        obtain ⟨rows4, _, hrw4, _, _⟩ := ho4
        obtain ⟨A4, c4, rfl⟩ := ownsRow_form hrw4
        have HFIN := Lib.hid hfin
        clear hg4 hat4 hrw4 hfin hlt3 hne3 hrow2 hrow3
        refine wpAny_act (w := w4) (D := [0, 1, 2, 3, 4, 5, 6, 7, 8, 9, 10, 15, 16, 11, 12, 13, 14]) (A := [14, 13, 11]) (p := 17) (dst := b1dst) (val := b1val zb pb sb v (.string (bytesOf apex)) (.agg #[.string (bytesOf s.name), .int .i64 s.type, .int .i64 s.life, .slice Ad s.data.length cd]) (.agg #[.string (bytesOf s.name), .int .i64 s.type, .int .i64 s.life, .slice Ad s.data.length cd, .slice none 0 0]) (.slice (some ⟨w2.heap.size, 0, none⟩) 1 1) (.slice A4 (acc ++ [(⟨s, []⟩ : Np.Signed)]).length c4)) (m := 20)
          (base := [(0, .pointer (some ⟨b0, 0, none⟩)), (1, .pointer (some ⟨b1, 0, none⟩)), (2, .pointer (some ⟨b2, 0, none⟩))]) (wellB_spec (by kernel_rfl)) (by simp) (by simp) (waitB_spec (by kernel_rfl)) ?_
          (fun i hi => (b1dst_lt i (by simp at hi ⊢; omega)).1) (fun i hi j hj => b1dst_inj i (by simp at hi ⊢; omega) j (by simp at hj ⊢; omega)) (fun i hi q hq => by
            have hq1 : q.1 < 3 := by simp at hq; rcases hq with rfl | rfl | rfl <;> simp
            have := (b1dst_lt i (by simp at hi ⊢; omega)).2
            omega) ?_ ?_ _ _ _ (hH.act (D' := [0, 1, 2, 3, 4, 5, 6, 7, 8, 9, 10, 15, 16, 11, 12, 13, 14]) (val' := b1val zb pb sb v (.string (bytesOf apex)) (.agg #[.string (bytesOf s.name), .int .i64 s.type, .int .i64 s.life, .slice Ad s.data.length cd]) (.agg #[.string (bytesOf s.name), .int .i64 s.type, .int .i64 s.life, .slice Ad s.data.length cd, .slice none 0 0]) (.slice (some ⟨w2.heap.size, 0, none⟩) 1 1) (.slice A4 (acc ++ [(⟨s, []⟩ : Np.Signed)]).length c4)) hr (by simp) (fun i hi => by simp at hi ⊢; omega) (fun i hi => by simp at hi; rcases hi with rfl | rfl | rfl | rfl | rfl | rfl | rfl | rfl | rfl | rfl | rfl | rfl | rfl | rfl | rfl | rfl <;> rfl) rfl (by simp [b1dst]) (fun j hj => b1dst_inj 14 (by simp) j (by simp at hj ⊢; omega) (by rintro rfl; simp at hj)) (fun q hq => by simp at hq; rcases hq with rfl | rfl | rfl <;> simp [b1dst]) (by simp))
        · intro i hi hiA
          simp only [List.mem_cons, List.not_mem_nil, or_false] at hi
          rcases hi with rfl | rfl | rfl | rfl | rfl | rfl | rfl | rfl | rfl | rfl | rfl | rfl | rfl | rfl | rfl | rfl | rfl
          all_goals first | (exfalso; simp at hiA; done) | exact ⟨_, rfl, rfl⟩
        · intro i hi hiA o ho a hb hdep
          have k0' := hb (0, .pointer (some ⟨b0, 0, none⟩)) (by simp)
          have k1' := hb (1, .pointer (some ⟨b1, 0, none⟩)) (by simp)
          have k2' := hb (2, .pointer (some ⟨b2, 0, none⟩)) (by simp)
          simp [Act.eval] at k0' k1' k2'
          simp only [List.mem_cons, List.not_mem_nil, or_false] at hi
          rcases hi with rfl | rfl | rfl | rfl | rfl | rfl | rfl | rfl | rfl | rfl | rfl | rfl | rfl | rfl | rfl | rfl | rfl
          all_goals first
            | (exfalso; simp at hiA; done)
            | (cases ho
               try simp [Act.eval, Region.binds, b1val, b1dst] at hdep
               refine .inl ⟨by simp [Region.wanted], fun w' hw' => ?_⟩
               subst hw'
               simp [Oper.quietAt, Oper.quietUpon, execOp, go_sem, b1val, k0', k1', k2', x0, x1, x2, z0, z1, hdep])
        · intro f listed a hH hr
          obtain ⟨_, o, ho, hall⟩ := mem_ready.1 hr
          cases ho
          have hG := hH.good
          have hval := fun i hi hl => hG.val i hi hl
          have hlst : ∀ k, ({ on := k, ground := .data } : Edge) ∈ _ → listed.getD k false = true := fun k hk => hall _ hk rfl
          obtain ⟨rfl, hlast⟩ := hH.all hr (by kernel_rfl)
          have a14 := hval 14 (by simp) (hlast 14 (by simp) (by simp))
          have a16 := hval 16 (by simp) (hlast 16 (by simp) (by simp))
          simp [Act.eval, b1val, b1dst] at a14 a16
          simp only [wpOp]
          simp [Region.wanted]
          refine .inl ?_
          simp [Oper.wp, execOp, go_sem, a14, a16, z1, zf4]
          refine ⟨ready_nil (fun i hi => ?_) (by rw [Array.size_setIfInBounds]; exact hG.size), ?_⟩
          · by_cases h17 : i = 17
            · subst h17
              have hs : 17 < listed.size := by rw [hG.size]; exact hi
              simp [Array.getD, hs]
            · exact listed_set (hlast i hi h17)
          · have hfin := HFIN.out
            simp only [List.length_append, List.length_singleton] at hfin
            refine bodyPost_end (results_none rfl _ _ _) hG.defs ?_
            exact ⟨rfl, i2, _, hr2, hfin⟩
end Go.Proofs.YtnbolgdccdnjeaaGreatDoor
/- The parser: an attempt to read an entry: contract. -/
namespace Go.Proofs.YtnbolgdccdnjeaaGreatDoor
open Go.RowKit
section
variable {pb zb sb b0 b1 b2 dm bx b4 b6 b7 base B : Nat} {tv : Value} {toks : List Np.Tok} {size : Int} {apex : List UInt8} {W : World} {d0 : Value} {i : Nat} {sets : List (List UInt8 × Int)} {acc : List Np.Signed} {ds : List Np.Diag} {dv v : Value} {w w' : World}
/-- What an attempt to read an entry comes to. -/
def TryOut (pb zb sb b0 b1 b2 dm bx b4 b6 b7 base B : Nat) (tv : Value) (toks : List Np.Tok) (size : Int) (apex : List UInt8) (W : World) (d0 : Value) (sets : List (List UInt8 × Int)) (acc : List Np.Signed) (ds : List Np.Diag) (dv v : Value) (x : Np.Res Np.DSet) (e : Ending) (w' : World) : Prop :=
  match x with
  | .ok s r' => e = .returned (.bool true) ∧ ∃ i' v', toks.drop i' = r' ∧ BodyS pb zb sb b0 b1 b2 dm bx b4 b6 b7 base B tv toks size apex W d0 i' ((s.name, s.type) :: sets) (acc ++ [⟨s, []⟩]) ds dv v' w'
  | .err er r' => e = .returned (.bool false) ∧ ∃ i' dv', toks.drop i' = r' ∧ BodyS pb zb sb b0 b1 b2 dm bx b4 b6 b7 base B tv toks size apex W d0 i' sets acc (ds ++ [⟨er, Np.posT size r'⟩]) dv' v w'
theorem bodyTry_any (h : BodyS pb zb sb b0 b1 b2 dm bx b4 b6 b7 base B tv toks size apex W d0 i sets acc ds dv v w) (hK : BodyK pb zb sb b0 b1 b2 dm bx b4 b6 b7 base B W d0) (hav : Np.validName apex = true) (ha6 : apex.length ≤ 60) (had : apex.all Np.isDig = false) (hT : ∀ t ∈ toks, Np.TokR t)
    (hacc : acc.length ≤ 2000) (hds : ds.length ≤ 100) (x : Np.Res Np.DSet) (hx : Np.entryR apex sets (toks.drop i) = x) :
    Calls Tryz.prog 97 #[.pointer (some ⟨pb, 0, none⟩), .func (.func 139) #[] #[.pointer (some ⟨b0, 0, none⟩), .pointer (some ⟨b1, 0, none⟩), .pointer (some ⟨b2, 0, none⟩)]] w
      (TryOut pb zb sb b0 b1 b2 dm bx b4 b6 b7 base B tv toks size apex W d0 sets acc ds dv v x) := by
  have eg : ∀ args w, (callFunc 139 args).run Tryz.prog w = .ok (.enter 139 args) w := fun args w => by simp [go_sem]
  have hsB := hK.sB
  have hpz := hK.pz
  have hzW := hK.zW
  have hWB := hK.WB
  have hlow := hK.low
  have hzl := hK.zlow
  have hbW := hK.bW
  have hpb := hK.pbase
  have hWw := h.fr.size
  have hBw := h.bw
  refine (attempt_any pb base 139 _ w dv ds.length (ds.flatMap encG)
    (fun w2 => match x with | .ok s r' => ∃ i' v', toks.drop i' = r' ∧ BodyS pb zb sb b0 b1 b2 dm bx b4 b6 b7 base B tv toks size apex W d0 i' ((s.name, s.type) :: sets) (acc ++ [⟨s, []⟩]) ds dv v' w2 | .err _ _ => False)
    (fun er pos w2 => match x with | .ok _ _ => False | .err er' r' => er = er' ∧ pos = Np.posT size r' ∧ ∃ i', toks.drop i' = r' ∧ BodyS pb zb sb b0 b1 b2 dm bx b4 b6 b7 base B tv toks size apex W d0 i' sets acc ds dv v w2)
    eg hpb hds (by omega) h.dg.row ?_).mono ?_
  · intro w1 hb1 hs1
    have h1 := h.grow hK hb1
    have h1d := h1.grow hK ((Below.refl w1.heap.size w1).drew)
    have hc := pentry_any pb sb dm bx b4 b6 b7 tv toks size i apex hav ha6 sets w1.drew h1d.pin h1d.c3 h1d.data h1d.mq (by omega) ⟨by omega, by omega, by omega, by omega, by omega, by omega, by omega, by omega⟩
    rw [hx] at hc
    cases x with
    | ok s r' =>
      have hsr := (Np.entryR_ok (fun t ht => hT t ((List.drop_suffix i toks).subset ht)) hav had hx).1
      refine (body1_ok pb zb sb b0 b1 b2 dm bx b4 b6 b7 base B tv toks size apex W d0 i sets acc ds dv v w1 h1 hK hacc s r' ?_ hc).mono ?_
      · have := (Np.name_form hsr.1).1
        omega
      · rintro e w2 ⟨he, hok⟩
        exact .inl ⟨he, hok⟩
    | err er r' =>
      refine (body1_bad pb sb b0 b1 b2 zb apex w1 er (Np.posT size r') v (fun w2 => MapQ sb sets w2 ∧ MovedTo (fun k => k = sb) pb toks w1.drew r' w2) h1.x0 h1.x1 h1.x2 h1.z0 h1.z1 (hc.mono fun e w2 ⟨a1, a2, a3⟩ => ⟨a2, a1, a3⟩)).mono ?_
      rintro e w2 ⟨he, hq, hm⟩
      obtain ⟨i', hr, h2⟩ := h1d.moved hK hm hq
      obtain ⟨j, _, _, hmv⟩ := hm
      refine .inr ⟨er, _, he, ⟨rfl, rfl, i', hr, h2⟩, ?_, ?_, h2.dg.c6, h2.dg.f6, fun g hg => ?_⟩
      · exact hmv.block (k := w.heap.size) (by exact hs1) (by omega) (by omega)
      · exact hmv.os
      · have hgl := ownsRow_base h1d.dg.row g hg
        refine hmv.block (k := g) hgl.2 (fun e => ?_) (by omega)
        subst e
        rcases h.dd with e2 | ⟨g', e2, hg'⟩
        · have := hK.dW g (e2 ▸ hg); omega
        · rw [hg] at e2; cases e2; omega
  · rintro e w' (⟨rfl, w2, hok, hb⟩ | ⟨rfl, er, pos, w2, hbad, hcg⟩)
    · cases x with
      | ok s r' =>
        obtain ⟨i', v', hr, h2⟩ := hok
        exact ⟨rfl, i', v', hr, h2.grow hK hb⟩
      | err er r' => exact hok.elim
    · cases x with
      | ok s r' => exact hbad.elim
      | err er' r' =>
        obtain ⟨rfl, rfl, i', hr, h2⟩ := hbad
        obtain ⟨dv', h3⟩ := h2.caught hK hcg
        exact ⟨rfl, i', dv', hr, h3⟩
end
end Go.Proofs.YtnbolgdccdnjeaaGreatDoor
