/- Joined by program from: Par1, Mv, Par2, Par3, MapQ. No condition. -/
import Derived.Test.YtnbolgdccdnjeaaGreatDoorPB
import Derived.Test.YtnbolgdccdnjeaaGreatDoorLA
import Derived.Test.YtnbolgdccdnjeaaGreatDoorCA
import Derived.Test.YtnbolgdccdnjeaaGreatDoorNB
import Derived.IntWalk
import Derived.Outline
import Derived.Test.YtnbolgdccdnjeaaGreatDoorNA
import Derived.Laws.StructEq
/- The parser's small methods: contracts. -/
namespace Go.Proofs.YtnbolgdccdnjeaaGreatDoor
open Go.RowKit
/-- What the lexer says of its tokens. -/
def TokW (t : Np.Tok) : Prop := (t.kind = 1 → t.text ≠ []) ∧ t.text.length ≤ 60 ∧ 0 ≤ t.n ∧ t.n ≤ 1000000000 ∧ (t.text.head? = some 34 → 2 ≤ t.text.length)
theorem tokW_zero : TokW Np.Tok.zero := ⟨fun h => by simp [Np.Tok.zero] at h, by simp [Np.Tok.zero], by simp [Np.Tok.zero], by simp [Np.Tok.zero], by simp [Np.Tok.zero]⟩
/-- The parser in memory: its tokens, the next one, the size of the source. -/
structure PIn (w : World) (pb : Nat) (tv : Value) (toks : List Np.Tok) (size : Int) (i : Nat) : Prop where
  c0 : w.cell? ⟨pb, 0, none⟩ = some tv
  c1 : w.cell? ⟨pb, 1, none⟩ = some (.int .i64 i)
  c2 : w.cell? ⟨pb, 2, none⟩ = some (.int .i64 size)
  tk : SlR RTok 4 w (pb - 1) tv toks
  le : i ≤ toks.length
  fz : w.frozen? ⟨pb, 1, none⟩ = false
  few : toks.length ≤ 2000
  ok : ∀ t ∈ toks, TokW t
  ru : RulesIn w (pb - 1)
theorem PIn.tok {w : World} {pb : Nat} {tv : Value} {toks : List Np.Tok} {size : Int} {i : Nat} (h : PIn w pb tv toks size i) (j : Nat) : TokW (Np.peekT (toks.drop j)) := by
  cases hd : toks.drop j with
  | nil => exact tokW_zero
  | cons a r => exact h.ok a ((List.drop_suffix j toks).subset (by rw [hd]; simp))
theorem PIn.lt {w : World} {pb : Nat} {tv : Value} {toks : List Np.Tok} {size : Int} {i : Nat} (h : PIn w pb tv toks size i) : pb < w.heap.size := by
  have := h.c0
  exact World.block_lt_of_cell? w ⟨pb, 0, none⟩ this
theorem PIn.keep {w w' : World} {pb : Nat} {tv : Value} {toks : List Np.Tok} {size : Int} {i B : Nat} (h : PIn w pb tv toks size i) (hb : Below B w w') (hB : pb < B) : PIn w' pb tv toks size i :=
  ⟨(hb.cell hB).trans h.c0, (hb.cell hB).trans h.c1, (hb.cell hB).trans h.c2, h.tk.keep rtok_kept (hb.mono (by omega)), h.le, (hb.frozen hB).trans h.fz, h.few, h.ok, h.ru.keep (hb.mono (by omega))⟩
theorem tokP_at {w : World} {B : Nat} {v : Value} {xs : List Np.Tok} (h : SlR RTok 4 w B v xs) {k : Nat} {t : Np.Tok} (ht : xs[k]? = some t) : ∃ b o c, v = .slice (some ⟨b, o, none⟩) xs.length c ∧ b < B ∧ xs.length ≤ c ∧ w.cell? ⟨b, o + k * 4, none⟩ = some (.int .i64 t.kind) ∧ w.cell? ⟨b, o + k * 4 + 1, none⟩ = some (.string (bytesOf t.text)) ∧ w.cell? ⟨b, o + k * 4 + 2, none⟩ = some (.int .i64 t.n) ∧ w.cell? ⟨b, o + k * 4 + 3, none⟩ = some (.int .i64 t.pos) := by
  obtain ⟨A, c, rfl, hc, _, he⟩ := h
  obtain ⟨b, o, e, rfl, hb, _, hce, rfl⟩ := he k t ht
  exact ⟨b, o, c, rfl, hb, hc, by have := hce 0 _ rfl; simpa using this, hce 1 _ rfl, hce 2 _ rfl, hce 3 _ rfl⟩
/-- What the parser's panic bears. -/
def failV (err pos : Int) : List PanicEntry := [{ v := .iface 154 (.agg #[.int .i64 err, .int .i64 pos]), recovered := false }]
theorem drop_none {toks : List Np.Tok} {i : Nat} (h : toks.length ≤ i) : toks.drop i = [] := List.drop_eq_nil_of_le h
theorem drop_some {toks : List Np.Tok} {i : Nat} (h : i < toks.length) : toks.drop i = toks[i] :: toks.drop (i + 1) := List.drop_eq_getElem_cons h
set_option maxHeartbeats 1000000 in
theorem fail_any (pb : Nat) (tv : Value) (toks : List Np.Tok) (size : Int) (i : Nat) (err : Int) (w : World) (hP : PIn w pb tv toks size i) :
    Calls Tryz.prog 135 #[.pointer (some ⟨pb, 0, none⟩), .int .i64 err] w fun e w' => e = .panicked (failV err (Np.posT size (toks.drop i))) ∧ Below w.heap.size w w' := by
  have c0 := hP.c0
  have c1 := hP.c1
  have c2 := hP.c2
  have hfew := hP.few
  have hpb := hP.lt
  by_cases hlt : i < toks.length
  · obtain ⟨b, o, c, rfl, hb, hc, e0, e1, e2, e3⟩ := tokP_at hP.tk (List.getElem?_eq_getElem hlt)
    replace hb : b < pb := by omega
    have HR := Lib.hid (show Np.posT size (toks.drop i) = toks[i].pos by rw [drop_some hlt]; rfl)
    have h0 : (0 : Int) ≤ (i : Int) := by omega
    have h1 : (i : Int) < (toks.length : Int) := by omega
    generalize toks[i] = t at *
    clear hP
    go_enter Tryz.func135, Tryz.ntmps135
    go_wp2_with fail
    go_quiet (fail)
    go_wp2_with fail
    generalize hw2 : World.drewN _ nq = w2
    have HB2 := Lib.hid (show Below w.heap.size w w2 from hw2 ▸ below_drewN (Below.refl _ _) _)
    clear hw2
    have hbk := HB2.out
    replace c0 := (hbk.cell (p := ⟨pb, 0, none⟩) hpb).trans c0
    replace c1 := (hbk.cell (p := ⟨pb, 1, none⟩) hpb).trans c1
    replace e3 := (hbk.cell (p := ⟨b, o + i * 4 + 3, none⟩) (Nat.lt_trans hb hpb)).trans e3
    clear hbk e0 e1 e2 c2
    go_quiet (fail)
    go_wp2_with fail
    exact ⟨rfl, by rw [HR.out]; rfl, below_drewN HB2.out _⟩
  · have hpos := drop_none (toks := toks) (i := i) (by omega)
    have HR := Lib.hid (show Np.posT size (toks.drop i) = size by rw [hpos]; rfl)
    have h1 : ¬ (i : Int) < (toks.length : Int) := by omega
    obtain ⟨A, c, rfl, hc, hl⟩ := slr_form hP.tk
    clear hP hpos
    go_enter Tryz.func135, Tryz.ntmps135
    go_wp2_with fail
    go_quiet (fail)
    go_wp2_with fail
    exact ⟨rfl, by rw [HR.out]; rfl, below_drewN (Below.refl _ _) _⟩
/-- check: nothing is wrong. -/
theorem check_no (p : Value) (err : Int) (w : World) : Calls Tryz.prog 88 #[p, .bool false, .int .i64 err] w fun e w' => e = .returned (.tuple #[]) ∧ w = w' := by
  go_enter Tryz.func88, Tryz.ntmps88
  go_wp2_with fail
  go_end0
  exact ⟨rfl, rfl⟩
theorem check_yes (pb : Nat) (tv : Value) (toks : List Np.Tok) (size : Int) (i : Nat) (err : Int) (w : World) (hP : PIn w pb tv toks size i) :
    Calls Tryz.prog 88 #[.pointer (some ⟨pb, 0, none⟩), .bool true, .int .i64 err] w fun e w' => e = .panicked (failV err (Np.posT size (toks.drop i))) ∧ Below w.heap.size w w' := by
  have HP := Lib.hid hP
  clear hP
  go_enter Tryz.func88, Tryz.ntmps88
  go_wp2_with fail
  refine (fail_any pb tv toks size i err _ HP.out).mono ?_
  rintro e w1 ⟨rfl, hb⟩
  have HB := Lib.hid hb
  clear hb
  go_wp2_with fail
  exact ⟨rfl, rfl, HB.out⟩
/-- The next token but k; the zero token if there is none. -/
def peekAt (toks : List Np.Tok) (j : Nat) : Np.Tok := (toks[j]?).getD Np.Tok.zero
theorem peekT_drop (toks : List Np.Tok) (i : Nat) : Np.peekT (toks.drop i) = peekAt toks i := by
  unfold Np.peekT peekAt
  rw [List.headD_eq_head?_getD, List.head?_drop]
set_option maxRecDepth 100000 in
set_option maxHeartbeats 1000000 in
theorem peek_any (pb : Nat) (tv : Value) (toks : List Np.Tok) (size : Int) (i k : Nat) (hk : k ≤ 1) (w : World) (hP : PIn w pb tv toks size i) :
    Calls Tryz.prog 91 #[.pointer (some ⟨pb, 0, none⟩), .int .i64 k] w fun e w' => e = .returned (.agg (tokVal (peekAt toks (i + k)))) ∧ Below w.heap.size w w' := by
  have c0 := hP.c0
  have c1 := hP.c1
  have hfew := hP.few
  have hpb := hP.lt
  have hle := hP.le
  by_cases hlt : i + k < toks.length
  · obtain ⟨b, o, c, rfl, hb, hc, e0, e1, e2, e3⟩ := tokP_at hP.tk (List.getElem?_eq_getElem hlt)
    replace hb : b < pb := by omega
    have HR := Lib.hid (show peekAt toks (i + k) = toks[i + k] by unfold peekAt; rw [List.getElem?_eq_getElem hlt]; rfl)
    have h0 : (0 : Int) ≤ (i : Int) + (k : Int) := by omega
    have h1 : (i : Int) + (k : Int) < (toks.length : Int) := by omega
    have h2 : ((i : Int) + (k : Int)).toNat = i + k := by omega
    generalize toks[i + k] = t at *
    clear hP
    have hwr : IntKind.i64.wrap ((i : Int) + (k : Int)) = (i : Int) + (k : Int) := IntWalk.i64_in _ (by omega)
    go_enter Tryz.func91, Tryz.ntmps91
    go_wp2_with fail
    go_quiet (fail)
    go_wp2_with fail
    generalize hw2 : World.drewN _ nq = w2
    have hb0 : Below w.heap.size w (w.alloc (.cells #[.int .i64 0, .string ⟨#[]⟩, .int .i64 0, .int .i64 0] 66)) := (Below.refl _ _).alloc (Nat.le_refl _) _
    have hb1 : Below (w.alloc (.cells #[.int .i64 0, .string ⟨#[]⟩, .int .i64 0, .int .i64 0] 66)).heap.size (w.alloc (.cells #[.int .i64 0, .string ⟨#[]⟩, .int .i64 0, .int .i64 0] 66)) w2 := hw2 ▸ below_drewN (Below.refl _ _) _
    have hbk := hb0.trans (hb1.mono (by simp))
    have HB2 := Lib.hid hbk
    have hz : w.heap.size < w2.heap.size := by have := hb1.size; simp at this; omega
    clear hw2
    replace c0 := (hbk.cell (p := ⟨pb, 0, none⟩) hpb).trans c0
    replace c1 := (hbk.cell (p := ⟨pb, 1, none⟩) hpb).trans c1
    replace e0 := (hbk.cell (p := ⟨b, o + (i + k) * 4, none⟩) (Nat.lt_trans hb hpb)).trans e0
    replace e1 := (hbk.cell (p := ⟨b, o + (i + k) * 4 + 1, none⟩) (Nat.lt_trans hb hpb)).trans e1
    replace e2 := (hbk.cell (p := ⟨b, o + (i + k) * 4 + 2, none⟩) (Nat.lt_trans hb hpb)).trans e2
    replace e3 := (hbk.cell (p := ⟨b, o + (i + k) * 4 + 3, none⟩) (Nat.lt_trans hb hpb)).trans e3
    have q0 := (hb1.cell (p := ⟨w.heap.size, 0, none⟩) (by simp)).trans (World.cell?_alloc_new w _ _ _)
    have q1 := (hb1.cell (p := ⟨w.heap.size, 1, none⟩) (by simp)).trans (World.cell?_alloc_new w _ _ _)
    have q2 := (hb1.cell (p := ⟨w.heap.size, 2, none⟩) (by simp)).trans (World.cell?_alloc_new w _ _ _)
    have q3 := (hb1.cell (p := ⟨w.heap.size, 3, none⟩) (by simp)).trans (World.cell?_alloc_new w _ _ _)
    simp only [List.getElem?_toArray, List.getElem?_cons_zero, List.getElem?_cons_succ] at q0 q1 q2 q3
    have f0 : ∀ j, w2.frozen? ⟨w.heap.size, j, none⟩ = false := fun j => (hb1.frozen (p := ⟨w.heap.size, j, none⟩) (by simp)).trans (by simp [go_sem])
    clear hb0 hb1 hbk
    go_still_tail 12, (by kernel_rfl)
    change wpList Tryz.prog _ _ _ _ w2.drew
    go_wp2_with fail
    refine bodyPost_ret (v := .agg (tokVal t)) ?_ rfl ⟨by rw [HR.out], ((((HB2.out.setCell (Nat.le_refl _) _).setCell (Nat.le_refl _) _).setCell (Nat.le_refl _) _).setCell (Nat.le_refl _) _).drew⟩
    simp [results, Tryz.results91, go_sem, tokVal, q0, q1, q2, q3]
  · have HR := Lib.hid (show peekAt toks (i + k) = Np.Tok.zero by unfold peekAt; rw [List.getElem?_eq_none (by omega)]; rfl)
    have h1 : ¬ (i : Int) + (k : Int) < (toks.length : Int) := by omega
    have hwr : IntKind.i64.wrap ((i : Int) + (k : Int)) = (i : Int) + (k : Int) := IntWalk.i64_in _ (by omega)
    obtain ⟨A, c, rfl, hc, hl⟩ := slr_form hP.tk
    clear hP
    go_enter Tryz.func91, Tryz.ntmps91
    go_wp2_with fail
    go_quiet (fail)
    go_wp2_with fail
    refine bodyPost_ret (v := .agg (tokVal Np.Tok.zero)) ?_ rfl ⟨by rw [HR.out], (((((below_drewN ((Below.refl _ w).alloc (Nat.le_refl _) _) _).setCell (Nat.le_refl _) _).setCell (Nat.le_refl _) _).setCell (Nat.le_refl _) _).setCell (Nat.le_refl _) _)⟩
    simp [results, Tryz.results91, go_sem, tokVal, Np.Tok.zero, bytesOf]
theorem peek0 (pb : Nat) (tv : Value) (toks : List Np.Tok) (size : Int) (i : Nat) (w : World) (hP : PIn w pb tv toks size i) :
    Calls Tryz.prog 91 #[.pointer (some ⟨pb, 0, none⟩), .int .i64 0] w fun e w' => e = .returned (.agg (tokVal (Np.peekT (toks.drop i)))) ∧ Below w.heap.size w w' := by
  have := peek_any pb tv toks size i 0 (by omega) w hP
  rw [peekT_drop]
  exact this
theorem peek1 (pb : Nat) (tv : Value) (toks : List Np.Tok) (size : Int) (i : Nat) (w : World) (hP : PIn w pb tv toks size i) :
    Calls Tryz.prog 91 #[.pointer (some ⟨pb, 0, none⟩), .int .i64 1] w fun e w' => e = .returned (.agg (tokVal (Np.peekT (toks.drop i).tail))) ∧ Below w.heap.size w w' := by
  have := peek_any pb tv toks size i 1 (by omega) w hP
  rw [List.tail_drop, peekT_drop]
  exact this
end Go.Proofs.YtnbolgdccdnjeaaGreatDoor
/- What a reader of the parser leaves: the next token's place, new memory, and some blocks X that may be written. No condition. -/
namespace Go.Proofs.YtnbolgdccdnjeaaGreatDoor
open Go.RowKit
def Mv (X : Nat → Prop) (pb i : Nat) (w w' : World) : Prop :=
  w'.os = w.os ∧ w'.tape = w.tape ∧ w'.output = w.output ∧ w.heap.size ≤ w'.heap.size ∧ ∀ k, k < w.heap.size → ¬ X k → w'.heap[k]? = (w.setCell ⟨pb, 1, none⟩ (.int .i64 i)).heap[k]?
def noX : Nat → Prop := fun _ => False
theorem noX_not (k : Nat) : ¬ noX k := fun h => h
theorem set_pb (w : World) (p : Addr) (v : Value) (k : Nat) : (w.setCell p v).heap[k]? = if p.block = k then (w.heap[k]?).map (fun | .cells c elem frozen => .cells (if p.spot.isSome then c else c.setIfInBounds p.off v) elem frozen | o => o) else w.heap[k]? := by
  simp only [World.setCell, Array.getElem?_modify]
  rfl
theorem set_set (w w1 : World) (p : Addr) (u v : Value) (k : Nat) (h : w1.heap[k]? = (w.setCell p u).heap[k]?) : (w1.setCell p v).heap[k]? = (w.setCell p v).heap[k]? := by
  rw [set_pb] at h
  rw [set_pb, set_pb]
  by_cases hk : p.block = k
  · rw [if_pos hk] at h ⊢
    rw [if_pos hk, h]
    cases w.heap[k]? with
    | none => rfl
    | some o =>
      cases o with
      | cells c e f => simp only [Option.map_some]; split <;> simp
      | _ => rfl
  · rw [if_neg hk] at h ⊢
    rw [if_neg hk, h]
theorem set_same {w : World} {p : Addr} {v : Value} (hp : p.spot = none) (h : w.cell? p = some v) (k : Nat) : (w.setCell p v).heap[k]? = w.heap[k]? := by
  rw [set_pb]
  split
  · rename_i hk
    subst hk
    unfold World.cell? at h
    cases hh : w.heap[p.block]? with
    | none => rfl
    | some o =>
      rw [hh] at h
      cases o with
      | cells c e f =>
        simp only [hp, Option.isSome_none, Bool.false_eq_true, if_false] at h ⊢
        simp only [Option.map_some]
        congr 2
        apply Array.ext_getElem?
        intro j
        rw [Array.getElem?_setIfInBounds]
        split
        · rename_i hj
          subst hj
          split
          · rw [h]
          · rename_i hlt
            rw [Array.getElem?_eq_none (by omega)] at h; cases h
        · rfl
      | _ => rfl
  · rfl
theorem Mv.os {X : Nat → Prop} {pb i : Nat} {w w' : World} (h : Mv X pb i w w') : w.heap.size ≤ w'.heap.size := h.2.2.2.1
theorem Mv.of_below {X : Nat → Prop} {pb i : Nat} {w w' : World} (h : Below w.heap.size w w') (hc : w.cell? ⟨pb, 1, none⟩ = some (.int .i64 i)) : Mv X pb i w w' :=
  ⟨h.os, h.tape, h.output, h.size, fun k hk _ => by rw [set_same rfl hc]; exact h.block k hk⟩
theorem Mv.set {X : Nat → Prop} {pb j : Nat} {w w1 : World} (h : Below w.heap.size w w1) : Mv X pb j w (w1.setCell ⟨pb, 1, none⟩ (.int .i64 j)) :=
  ⟨h.os, h.tape, h.output, by simp [World.setCell]; exact h.size, fun k hk _ => by rw [set_pb, set_pb, h.block k hk]⟩
theorem Mv.trans {X : Nat → Prop} {pb i j : Nat} {w w1 w2 : World} (h : Mv X pb i w w1) (h' : Mv X pb j w1 w2) : Mv X pb j w w2 :=
  ⟨h'.1.trans h.1, h'.2.1.trans h.2.1, h'.2.2.1.trans h.2.2.1, Nat.le_trans h.os h'.os, fun k hk hx => by
    rw [h'.2.2.2.2 k (Nat.lt_of_lt_of_le hk h.os) hx]
    exact set_set _ _ _ _ _ _ (h.2.2.2.2 k hk hx)⟩
theorem Mv.then {X : Nat → Prop} {pb i : Nat} {w w1 w2 : World} (h : Mv X pb i w w1) (h' : Below w1.heap.size w1 w2) : Mv X pb i w w2 :=
  ⟨h'.os.trans h.1, h'.tape.trans h.2.1, h'.output.trans h.2.2.1, Nat.le_trans h.os h'.size, fun k hk hx => by
    rw [h'.block k (Nat.lt_of_lt_of_le hk h.os)]
    exact h.2.2.2.2 k hk hx⟩
theorem Mv.after {X : Nat → Prop} {pb i : Nat} {w w1 w2 : World} (h : Below w.heap.size w w1) (h' : Mv X pb i w1 w2) : Mv X pb i w w2 :=
  ⟨h'.1.trans h.os, h'.2.1.trans h.tape, h'.2.2.1.trans h.output, Nat.le_trans h.size h'.os, fun k hk hx => by
    rw [h'.2.2.2.2 k (Nat.lt_of_lt_of_le hk h.size) hx, set_pb, set_pb, h.block k hk]⟩
theorem Mv.wider {X Y : Nat → Prop} {pb i : Nat} {w w' : World} (h : Mv X pb i w w') (hXY : ∀ k, X k → Y k) : Mv Y pb i w w' :=
  ⟨h.1, h.2.1, h.2.2.1, h.os, fun k hk hx => h.2.2.2.2 k hk (fun e => hx (hXY k e))⟩
theorem Mv.block {X : Nat → Prop} {pb i : Nat} {w w' : World} (h : Mv X pb i w w') {k : Nat} (hk : k < w.heap.size) (hx : ¬ X k) (hp : k ≠ pb) : w'.heap[k]? = w.heap[k]? := by
  rw [h.2.2.2.2 k hk hx, set_pb, if_neg (fun e => hp e.symm)]
theorem Mv.cell {X : Nat → Prop} {pb i : Nat} {w w' : World} (h : Mv X pb i w w') {p : Addr} (hk : p.block < w.heap.size) (hx : ¬ X p.block) (hp : p.block ≠ pb) : w'.cell? p = w.cell? p := World.cell?_of_block (w := w) (h.block hk hx hp)
theorem Mv.frozen {X : Nat → Prop} {pb i : Nat} {w w' : World} (h : Mv X pb i w w') {p : Addr} (hk : p.block < w.heap.size) (hx : ¬ X p.block) : w'.frozen? p = w.frozen? p := by
  have h1 := World.frozen?_of_block (w := w.setCell ⟨pb, 1, none⟩ (.int .i64 i)) (a := p) (h.2.2.2.2 p.block hk hx)
  rw [h1, World.frozen?_setCell]
theorem Mv.mine {X : Nat → Prop} {pb i o : Nat} {w w' : World} (h : Mv X pb i w w') (hk : pb < w.heap.size) (hx : ¬ X pb) (ho : o ≠ 1) : w'.cell? ⟨pb, o, none⟩ = w.cell? ⟨pb, o, none⟩ := by
  have h1 := World.cell?_of_block (w := w.setCell ⟨pb, 1, none⟩ (.int .i64 i)) (a := ⟨pb, o, none⟩) (h.2.2.2.2 pb hk hx)
  rw [h1, World.cell?_setCell_other]
  intro e; cases e; exact ho rfl
theorem Mv.next {X : Nat → Prop} {pb i : Nat} {w w' : World} {v : Value} (h : Mv X pb i w w') (hx : ¬ X pb) (hc : w.cell? ⟨pb, 1, none⟩ = some v) : w'.cell? ⟨pb, 1, none⟩ = some (.int .i64 i) := by
  have hk : pb < w.heap.size := World.block_lt_of_cell? w ⟨pb, 1, none⟩ hc
  have h1 := World.cell?_of_block (w := w.setCell ⟨pb, 1, none⟩ (.int .i64 i)) (a := ⟨pb, 1, none⟩) (h.2.2.2.2 pb hk hx)
  rw [h1]
  exact World.cell?_setCell_same (w := w) (a := ⟨pb, 1, none⟩) (v := .int .i64 i) hc
/-- All below the parser's own block stays, and all below any block of X. -/
theorem Mv.below {X : Nat → Prop} {pb i B : Nat} {w w' : World} (h : Mv X pb i w w') (hB : B ≤ pb) (hp : pb ≤ w.heap.size) (hX : ∀ k, X k → B ≤ k) : Below B w w' :=
  ⟨h.1, h.2.1, h.2.2.1, h.os, fun k hk => h.block (by omega) (fun e => by have := hX k e; omega) (by omega)⟩
theorem Mv.pin {X : Nat → Prop} {pb i j : Nat} {w w' : World} {tv : Value} {toks : List Np.Tok} {size : Int} (h : Mv X pb j w w') (hP : PIn w pb tv toks size i) (hX : ∀ k, X k → pb ≤ k + 1 ∧ k ≠ pb) (hj : j ≤ toks.length) : PIn w' pb tv toks size j := by
  have hpb := hP.lt
  have hx : ¬ X pb := fun e => (hX pb e).2 rfl
  have hbl : Below (pb - 1) w w' := h.below (by omega) (by omega) (fun k e => by have := hX k e; omega)
  refine ⟨(h.mine hpb hx (by omega)).trans hP.c0, h.next hx hP.c1, (h.mine hpb hx (by omega)).trans hP.c2, hP.tk.keep rtok_kept hbl, hj, (h.frozen hpb hx).trans hP.fz, hP.few, hP.ok, hP.ru.keep hbl⟩
theorem Mv.setNew {X : Nat → Prop} {pb i : Nat} {w w1 : World} (h : Mv X pb i w w1) {p : Addr} (hp : w.heap.size ≤ p.block) (v : Value) : Mv X pb i w (w1.setCell p v) :=
  ⟨h.1, h.2.1, h.2.2.1, by simp [World.setCell]; exact h.os, fun k hk hx => by
    rw [Below.heap_setCell _ _ _ _ (by omega)]
    exact h.2.2.2.2 k hk hx⟩
theorem noX_lt (pb : Nat) : ∀ k, noX k → pb ≤ k + 1 ∧ k ≠ pb := fun _ h => h.elim
end Go.Proofs.YtnbolgdccdnjeaaGreatDoor
/- The parser's looks at the next token: contracts. -/
namespace Go.Proofs.YtnbolgdccdnjeaaGreatDoor
open Go.RowKit
set_option maxHeartbeats 1000000 in
theorem isWord_any (pb : Nat) (tv : Value) (toks : List Np.Tok) (size : Int) (i : Nat) (s : ByteArray) (w : World) (hP : PIn w pb tv toks size i) :
    Calls Tryz.prog 102 #[.pointer (some ⟨pb, 0, none⟩), .string s] w fun e w' => e = .returned (.bool (Np.isW s.data.toList (toks.drop i))) ∧ Below w.heap.size w w' := by
  have HR := Lib.hid (show Np.isW s.data.toList (toks.drop i) = ((Np.peekT (toks.drop i)).kind == 1 && (Np.peekT (toks.drop i)).text == s.data.toList) from rfl)
  have hq := peek0 pb tv toks size i w hP
  obtain ⟨t, ht⟩ : ∃ t, t = Np.peekT (toks.drop i) := ⟨_, rfl⟩
  rw [← ht] at hq HR
  clear ht hP
  simp only [tokVal] at hq
  by_cases hk : t.kind = 1
  · have hk1 : (t.kind == 1) = true := by simpa using hk
    have HK := Lib.hid hk1
    go_enter Tryz.func102, Tryz.ntmps102
    go_wp2_with fail
    refine hq.mono ?_
    rintro e w1 ⟨rfl, hb⟩
    have HB := Lib.hid hb
    clear hb hq hk
    go_wp2_with fail
    go_ret
    exact ⟨ret_bool (by rw [HR.out, HK.out, ByteArray.toList_eq, ByteArray.toList_eq]; simp [bytesOf]), HB.out.alloc HB.out.size _⟩
  · have hk1 : (t.kind == 1) = false := by simpa using hk
    have HK := Lib.hid hk1
    go_enter Tryz.func102, Tryz.ntmps102
    go_wp2_with fail
    refine hq.mono ?_
    rintro e w1 ⟨rfl, hb⟩
    have HB := Lib.hid hb
    clear hb hq hk
    go_wp2_with fail
    go_ret
    exact ⟨ret_bool (by rw [HR.out, HK.out]; rfl), HB.out.alloc HB.out.size _⟩
set_option maxHeartbeats 1000000 in
theorem isSign_any (pb : Nat) (tv : Value) (toks : List Np.Tok) (size : Int) (i : Nat) (s : ByteArray) (w : World) (hP : PIn w pb tv toks size i) :
    Calls Tryz.prog 138 #[.pointer (some ⟨pb, 0, none⟩), .string s] w fun e w' => e = .returned (.bool (Np.isS s.data.toList (toks.drop i))) ∧ Below w.heap.size w w' := by
  have HR := Lib.hid (show Np.isS s.data.toList (toks.drop i) = ((Np.peekT (toks.drop i)).kind == 3 && (Np.peekT (toks.drop i)).text == s.data.toList) from rfl)
  have hq := peek0 pb tv toks size i w hP
  obtain ⟨t, ht⟩ : ∃ t, t = Np.peekT (toks.drop i) := ⟨_, rfl⟩
  rw [← ht] at hq HR
  clear ht hP
  simp only [tokVal] at hq
  by_cases hk : t.kind = 3
  · have hk1 : (t.kind == 3) = true := by simpa using hk
    have HK := Lib.hid hk1
    go_enter Tryz.func138, Tryz.ntmps138
    go_wp2_with fail
    refine hq.mono ?_
    rintro e w1 ⟨rfl, hb⟩
    have HB := Lib.hid hb
    clear hb hq hk
    go_wp2_with fail
    go_ret
    exact ⟨ret_bool (by rw [HR.out, HK.out, ByteArray.toList_eq, ByteArray.toList_eq]; simp [bytesOf]), HB.out.alloc HB.out.size _⟩
  · have hk1 : (t.kind == 3) = false := by simpa using hk
    have HK := Lib.hid hk1
    go_enter Tryz.func138, Tryz.ntmps138
    go_wp2_with fail
    refine hq.mono ?_
    rintro e w1 ⟨rfl, hb⟩
    have HB := Lib.hid hb
    clear hb hq hk
    go_wp2_with fail
    go_ret
    exact ⟨ret_bool (by rw [HR.out, HK.out]; rfl), HB.out.alloc HB.out.size _⟩
theorem head_bytes {l : List UInt8} {s : ByteArray} (hs : s = bytesOf l) (h : l ≠ []) : ∃ h0 : 0 < s.size, l.head? = some s[0] := by
  subst hs
  cases l with
  | nil => exact absurd rfl h
  | cons c r => exact ⟨by rw [← size_list]; simp [bytesOf], rfl⟩
/-- The next token is a word: its text. -/
theorem anyWord_yes (pb : Nat) (tv : Value) (toks : List Np.Tok) (size : Int) (i : Nat) (w : World) (hP : PIn w pb tv toks size i) (hy : Np.isAny (toks.drop i) = true) :
    Calls Tryz.prog 87 #[.pointer (some ⟨pb, 0, none⟩)] w fun e w' => e = .returned (.string (bytesOf (Np.peekT (toks.drop i)).text)) ∧ Below w.heap.size w w' := by
  have hq := peek0 pb tv toks size i w hP
  have hok := hP.tok i
  unfold Np.isAny at hy
  obtain ⟨t, ht⟩ : ∃ t, t = Np.peekT (toks.drop i) := ⟨_, rfl⟩
  rw [← ht] at hq hy hok ⊢
  clear ht hP
  rw [Bool.and_eq_true, Bool.not_eq_true'] at hy
  obtain ⟨hk, h34⟩ := hy
  simp only [tokVal] at hq
  obtain ⟨s, hs⟩ : ∃ s, s = bytesOf t.text := ⟨_, rfl⟩
  obtain ⟨h0, hh⟩ := head_bytes hs (hok.1 (by simpa using hk))
  rw [← hs] at hq ⊢
  have hk1 : (t.kind != 1) = false := by simpa using hk
  have h1 : ((s[0].toNat : Int) == 34) = false := by
    rw [hh] at h34
    have h2 := u8_eq s[0] 34 (by omega)
    rw [beq_eq_false_iff_ne] at h34 ⊢
    intro e
    apply h34
    have h3 : (s[0] == UInt8.ofNat 34) = true := by rw [h2]; simpa using e
    rw [show s[0] = 34 from by simpa using h3]
  clear hs hk h34 hok hh
  go_enter Tryz.func87, Tryz.ntmps87
  go_wp2_with fail
  refine hq.mono ?_
  rintro e w1 ⟨rfl, hb⟩
  have HB := Lib.hid hb
  clear hb hq
  go_wp2_with fail
  refine (check_no _ _ _).mono ?_
  rintro e w2 ⟨rfl, rfl⟩
  go_wp2_with fail
  go_ret
  exact ⟨rfl, HB.out.alloc HB.out.size _⟩
/-- The next token is no word: a panic. -/
theorem anyWord_no (pb : Nat) (tv : Value) (toks : List Np.Tok) (size : Int) (i : Nat) (w : World) (hP : PIn w pb tv toks size i) (hy : Np.isAny (toks.drop i) = false) :
    Calls Tryz.prog 87 #[.pointer (some ⟨pb, 0, none⟩)] w fun e w' => e = .panicked (failV 10 (Np.posT size (toks.drop i))) ∧ Below w.heap.size w w' := by
  have hq := peek0 pb tv toks size i w hP
  have hok := hP.tok i
  have hpb := hP.lt
  have HP := Lib.hid hP
  unfold Np.isAny at hy
  obtain ⟨t, ht⟩ : ∃ t, t = Np.peekT (toks.drop i) := ⟨_, rfl⟩
  rw [← ht] at hq hy hok
  clear ht hP
  simp only [tokVal] at hq
  by_cases hk : t.kind = 1
  · have hk0 : (t.kind == 1) = true := by simpa using hk
    rw [hk0, Bool.true_and, Bool.not_eq_false'] at hy
    obtain ⟨s, hs⟩ : ∃ s, s = bytesOf t.text := ⟨_, rfl⟩
    obtain ⟨h0, hh⟩ := head_bytes hs (hok.1 hk)
    rw [← hs] at hq
    have hk1 : (t.kind != 1) = false := by simpa using hk
    have h1 : ((s[0].toNat : Int) == 34) = true := by
      rw [hh] at hy
      have : s[0] = 34 := by simpa using hy
      rw [this]; rfl
    clear hs hk hok hh hk0
    go_enter Tryz.func87, Tryz.ntmps87
    go_wp2_with fail
    refine hq.mono ?_
    rintro e w1 ⟨rfl, hb⟩
    have HB := Lib.hid hb
    clear hb hq
    go_wp2_with fail
    refine (check_yes pb tv toks size i 10 _ (HP.out.keep (HB.out.alloc HB.out.size _) hpb)).mono ?_
    rintro e w2 ⟨rfl, hb2⟩
    have HB2 := Lib.hid hb2
    clear hb2
    go_wp2_with fail
    exact ⟨rfl, rfl, (HB.out.alloc HB.out.size _).trans (HB2.out.mono (by have := HB.out.size; simp; omega))⟩
  · have hk1 : (t.kind != 1) = true := by simpa using hk
    clear hk hok hy
    go_enter Tryz.func87, Tryz.ntmps87
    go_wp2_with fail
    refine hq.mono ?_
    rintro e w1 ⟨rfl, hb⟩
    have HB := Lib.hid hb
    clear hb hq
    go_wp2_with fail
    refine (check_yes pb tv toks size i 10 _ (HP.out.keep (HB.out.alloc HB.out.size _) hpb)).mono ?_
    rintro e w2 ⟨rfl, hb2⟩
    have HB2 := Lib.hid hb2
    clear hb2
    go_wp2_with fail
    exact ⟨rfl, rfl, (HB.out.alloc HB.out.size _).trans (HB2.out.mono (by have := HB.out.size; simp; omega))⟩
theorem number_yes (pb : Nat) (tv : Value) (toks : List Np.Tok) (size : Int) (i : Nat) (w : World) (hP : PIn w pb tv toks size i) (hy : Np.isNum (toks.drop i) = true) :
    Calls Tryz.prog 134 #[.pointer (some ⟨pb, 0, none⟩)] w fun e w' => e = .returned (.int .i64 (Np.peekT (toks.drop i)).n) ∧ Below w.heap.size w w' := by
  have hq := peek0 pb tv toks size i w hP
  unfold Np.isNum at hy
  obtain ⟨t, ht⟩ : ∃ t, t = Np.peekT (toks.drop i) := ⟨_, rfl⟩
  rw [← ht] at hq hy ⊢
  clear ht hP
  simp only [tokVal] at hq
  have hk1 : (t.kind != 2) = false := by simpa using hy
  clear hy
  go_enter Tryz.func134, Tryz.ntmps134
  go_wp2_with fail
  refine hq.mono ?_
  rintro e w1 ⟨rfl, hb⟩
  have HB := Lib.hid hb
  clear hb hq
  go_wp2_with fail
  refine (check_no _ _ _).mono ?_
  rintro e w2 ⟨rfl, rfl⟩
  go_wp2_with fail
  go_ret
  exact ⟨rfl, HB.out.alloc HB.out.size _⟩
theorem number_no (pb : Nat) (tv : Value) (toks : List Np.Tok) (size : Int) (i : Nat) (w : World) (hP : PIn w pb tv toks size i) (hy : Np.isNum (toks.drop i) = false) :
    Calls Tryz.prog 134 #[.pointer (some ⟨pb, 0, none⟩)] w fun e w' => e = .panicked (failV 10 (Np.posT size (toks.drop i))) ∧ Below w.heap.size w w' := by
  have hq := peek0 pb tv toks size i w hP
  have hpb := hP.lt
  have HP := Lib.hid hP
  unfold Np.isNum at hy
  obtain ⟨t, ht⟩ : ∃ t, t = Np.peekT (toks.drop i) := ⟨_, rfl⟩
  rw [← ht] at hq hy
  clear ht hP
  simp only [tokVal] at hq
  have hk1 : (t.kind != 2) = true := by simpa using hy
  clear hy
  go_enter Tryz.func134, Tryz.ntmps134
  go_wp2_with fail
  refine hq.mono ?_
  rintro e w1 ⟨rfl, hb⟩
  have HB := Lib.hid hb
  clear hb hq
  go_wp2_with fail
  refine (check_yes pb tv toks size i 10 _ (HP.out.keep (HB.out.alloc HB.out.size _) hpb)).mono ?_
  rintro e w2 ⟨rfl, hb2⟩
  have HB2 := Lib.hid hb2
  clear hb2
  go_wp2_with fail
  exact ⟨rfl, rfl, (HB.out.alloc HB.out.size _).trans (HB2.out.mono (by have := HB.out.size; simp; omega))⟩
theorem step_w {i n : Nat} (h : i ≤ n) (hn : n ≤ 2000) : IntKind.i64.wrap ((i : Int) + 1) = (i : Int) + 1 := IntWalk.i64_in _ (by omega)
theorem sign_yes (pb : Nat) (tv : Value) (toks : List Np.Tok) (size : Int) (i : Nat) (s : ByteArray) (w : World) (hP : PIn w pb tv toks size i) (hy : Np.isS s.data.toList (toks.drop i) = true) :
    Calls Tryz.prog 137 #[.pointer (some ⟨pb, 0, none⟩), .string s] w fun e w' => e = .returned (.tuple #[]) ∧ Mv noX pb (i + 1) w w' := by
  have hq := isSign_any pb tv toks size i s w hP
  rw [hy] at hq
  have hpb := hP.lt
  have c1 := hP.c1
  have fz := hP.fz
  have h1 := hP.le
  have h2 := hP.few
  clear hP hy
  go_enter Tryz.func137, Tryz.ntmps137
  go_wp2_with fail
  refine hq.mono ?_
  rintro e w1 ⟨rfl, hb⟩
  have HB := Lib.hid hb
  replace c1 := (hb.cell (p := ⟨pb, 1, none⟩) hpb).trans c1
  replace fz := (hb.frozen (p := ⟨pb, 1, none⟩) hpb).trans fz
  clear hb hq
  go_wp2_with fail
  refine (check_no _ _ _).mono ?_
  rintro e w2 ⟨rfl, rfl⟩
  go_wp2_with fail
  go_end0
  exact ⟨rfl, Mv.set HB.out⟩
theorem sign_no (pb : Nat) (tv : Value) (toks : List Np.Tok) (size : Int) (i : Nat) (s : ByteArray) (w : World) (hP : PIn w pb tv toks size i) (hy : Np.isS s.data.toList (toks.drop i) = false) :
    Calls Tryz.prog 137 #[.pointer (some ⟨pb, 0, none⟩), .string s] w fun e w' => e = .panicked (failV 10 (Np.posT size (toks.drop i))) ∧ Below w.heap.size w w' := by
  have hq := isSign_any pb tv toks size i s w hP
  rw [hy] at hq
  have hpb := hP.lt
  have HP := Lib.hid hP
  clear hP hy
  go_enter Tryz.func137, Tryz.ntmps137
  go_wp2_with fail
  refine hq.mono ?_
  rintro e w1 ⟨rfl, hb⟩
  have HB := Lib.hid hb
  clear hb hq
  go_wp2_with fail
  refine (check_yes pb tv toks size i 10 _ (HP.out.keep HB.out hpb)).mono ?_
  rintro e w2 ⟨rfl, hb2⟩
  have HB2 := Lib.hid hb2
  clear hb2
  go_wp2_with fail
  exact ⟨rfl, rfl, HB.out.trans (HB2.out.mono HB.out.size)⟩
end Go.Proofs.YtnbolgdccdnjeaaGreatDoor
/- The parser's header: contract. -/
namespace Go.Proofs.YtnbolgdccdnjeaaGreatDoor
open Go.RowKit
theorem isWildcardP_any (s : ByteArray) (hs : s.size ≤ 140737488355328) (w : World) :
    Calls Tryz.prog 89 #[.string s] w fun e w' => e = .returned (.bool (Np.isWild s.data.toList)) ∧ w = w' := by
  go_enter Tryz.func89, Tryz.ntmps89
  go_wp2_with fail
  refine (hasPrefixStar s hs _).mono ?_
  rintro e w' ⟨rfl, rfl⟩
  go_wp2_with fail
  go_ret
  exact ⟨rfl, rfl⟩
theorem full_any (pb : Nat) (A : Option Addr) (n c : Nat) (hn : n ≤ 100) (w : World) (hc : w.cell? ⟨pb, 6, none⟩ = some (.slice A n c)) :
    Calls Tryz.prog 101 #[.pointer (some ⟨pb, 0, none⟩)] w fun e w' => e = .returned (.bool (decide (20 ≤ n))) ∧ w = w' := by
  by_cases h : 20 ≤ n
  · have h1 : decide ((20 : Int) ≤ (n : Int)) = true := by simpa using (by omega : (20 : Int) ≤ (n : Int))
    have h2 : decide (20 ≤ n) = true := by simpa using h
    have H2 := Lib.hid h2
    clear h2 h
    go_enter Tryz.func101, Tryz.ntmps101
    go_wp2_with fail
    go_ret
    exact ⟨ret_bool (by rw [H2.out]), rfl⟩
  · have h1 : decide ((20 : Int) ≤ (n : Int)) = false := by simpa using (by omega : ¬ (20 : Int) ≤ (n : Int))
    have h2 : decide (20 ≤ n) = false := by simpa using h
    have H2 := Lib.hid h2
    clear h2 h
    go_enter Tryz.func101, Tryz.ntmps101
    go_wp2_with fail
    go_ret
    exact ⟨ret_bool (by rw [H2.out]), rfl⟩
theorem isWord_is (pb : Nat) (tv : Value) (toks : List Np.Tok) (size : Int) (i : Nat) (s : ByteArray) (w : World) (b : Bool) (hP : PIn w pb tv toks size i) (hb : Np.isW s.data.toList (toks.drop i) = b) :
    Calls Tryz.prog 102 #[.pointer (some ⟨pb, 0, none⟩), .string s] w fun e w' => e = .returned (.bool b) ∧ Below w.heap.size w w' := by
  have := isWord_any pb tv toks size i s w hP
  rw [hb] at this
  exact this
theorem isSign_is (pb : Nat) (tv : Value) (toks : List Np.Tok) (size : Int) (i : Nat) (s : ByteArray) (w : World) (b : Bool) (hP : PIn w pb tv toks size i) (hb : Np.isS s.data.toList (toks.drop i) = b) :
    Calls Tryz.prog 138 #[.pointer (some ⟨pb, 0, none⟩), .string s] w fun e w' => e = .returned (.bool b) ∧ Below w.heap.size w w' := by
  have := isSign_any pb tv toks size i s w hP
  rw [hb] at this
  exact this
theorem nameValid_is (x : List UInt8) (hx : x.length ≤ 60) (b : Bool) (hb : Np.validName x = b) (w : World) :
    Calls Tryz.prog 24 #[.string (bytesOf x)] w fun e w' => e = .returned (.bool b) ∧ Below w.heap.size w w' := by
  have := nameValid_any (bytesOf x) (by rw [← size_list]; simp [bytesOf]; omega) w
  rw [show (bytesOf x).data.toList = x by simp [bytesOf], hb] at this
  exact this
theorem isWildcardP_is (x : List UInt8) (hx : x.length ≤ 60) (b : Bool) (hb : Np.isWild x = b) (w : World) :
    Calls Tryz.prog 89 #[.string (bytesOf x)] w fun e w' => e = .returned (.bool b) ∧ w = w' := by
  have := isWildcardP_any (bytesOf x) (by rw [← size_list]; simp [bytesOf]; omega) w
  rw [show (bytesOf x).data.toList = x by simp [bytesOf], hb] at this
  exact this
theorem Mv.turned {X : Nat → Prop} {pb i r : Nat} {w w1 w2 : World} (h : Mv X pb i w w1) (h' : Turned r w1 w2) (hX : X r) : Mv X pb i w w2 :=
  ⟨h'.os.trans h.1, h'.tape.trans h.2.1, h'.output.trans h.2.2.1, by rw [h'.size]; exact h.os, fun k hk hx => by
    rw [h'.block k (fun e => hx (e ▸ hX))]
    exact h.2.2.2.2 k hk hx⟩
/-- The map of the names that are known. -/
def KnownM (mb : Nat) (known : List (List UInt8)) (w : World) : Prop := ∃ kvs, MapS mb kvs w ∧ ∀ x, kvs.lookup x = if x ∈ known then some (.bool true) else none
theorem KnownM.made (w : World) : KnownM w.heap.size [] (w.alloc (.map #[] 0)) := ⟨[], MapS.made w, fun x => by simp⟩
theorem KnownM.lt {mb : Nat} {known : List (List UInt8)} {w : World} (h : KnownM mb known w) : mb < w.heap.size := by
  obtain ⟨kvs, h, _⟩ := h
  exact h.lt
theorem KnownM.keep {mb : Nat} {known : List (List UInt8)} {w w' : World} (h : KnownM mb known w) (hb : w'.heap[mb]? = w.heap[mb]?) : KnownM mb known w' := by
  obtain ⟨kvs, ⟨es, c, h, h2⟩, h3⟩ := h
  exact ⟨kvs, ⟨es, c, hb.trans h, h2⟩, h3⟩
theorem lookup_snoc {kvs : List (List UInt8 × Value)} {k : List UInt8} {v : Value} (h : kvs.lookup k = none) (x : List UInt8) : (kvs ++ [(k, v)]).lookup x = if x = k then some v else kvs.lookup x := by
  induction kvs with
  | nil =>
    by_cases hx : x = k
    · subst hx; simp
    · have : (x == k) = false := by simpa using hx
      simp [hx, List.lookup, this]
  | cons p kvs ih =>
    obtain ⟨a, u⟩ := p
    rw [List.cons_append, List.lookup_cons, List.lookup_cons]
    rw [List.lookup_cons] at h
    by_cases hk : k = a
    · subst hk; simp at h
    · have hk' : (k == a) = false := by simpa using hk
      rw [hk'] at h
      by_cases hx : x = a
      · subst hx
        have : ¬ x = k := fun e => hk e.symm
        simp [this]
      · have hx' : (x == a) = false := by simpa using hx
        rw [hx']
        exact ih h
/-- What the header leaves. -/
def MovedTo (X : Nat → Prop) (pb : Nat) (toks : List Np.Tok) (w : World) (r' : List Np.Tok) (w' : World) : Prop := ∃ i', i' ≤ toks.length ∧ toks.drop i' = r' ∧ Mv X pb i' w w'
def HeadOut (pb mb : Nat) (toks : List Np.Tok) (size : Int) (w : World) (x : List (List UInt8) × Np.Res (List UInt8)) (e : Ending) (w' : World) : Prop :=
  KnownM mb x.1 w' ∧ match x.2 with
    | .ok a r' => e = .returned (.string (bytesOf a)) ∧ MovedTo (fun k => k = mb) pb toks w r' w'
    | .err er r' => e = .panicked (failV er (Np.posT size r')) ∧ MovedTo (fun k => k = mb) pb toks w r' w'
theorem head_err {pb mb : Nat} {toks : List Np.Tok} {size : Int} {w w' : World} {x : List (List UInt8) × Np.Res (List UInt8)} {K : List (List UInt8)} {er : Int} {i : Nat} (h : x = (K, .err er (toks.drop i))) (hK : KnownM mb K w') (hi : i ≤ toks.length) (hM : Mv (fun k => k = mb) pb i w w') : HeadOut pb mb toks size w x (.panicked (failV er (Np.posT size (toks.drop i)))) w' := by
  subst h; exact ⟨hK, rfl, i, hi, rfl, hM⟩
set_option maxHeartbeats 4000000 in
theorem header_any (pb mb : Nat) (tv : Value) (toks : List Np.Tok) (size : Int) (i : Nat) (known : List (List UInt8)) (w : World) (hP : PIn w pb tv toks size i) (c4 : w.cell? ⟨pb, 4, none⟩ = some (.map (some mb))) (hK : KnownM mb known w) (hmb : pb ≤ mb + 1 ∧ mb ≠ pb) :
    Calls Tryz.prog 99 #[.pointer (some ⟨pb, 0, none⟩)] w (HeadOut pb mb toks size w (Np.headerR known (toks.drop i))) := by
  have hpb := hP.lt
  have HX : Hid (∀ k, k = mb → pb ≤ k + 1 ∧ k ≠ pb) := Lib.hid (fun k e => by rw [e]; exact hmb)
  have HP := Lib.hid hP
  have HK := Lib.hid hK
  have HI := Lib.hid hP.le
  clear hP hK
  have HR := Lib.hid (show Np.headerR known (toks.drop i) = _ from rfl)
  go_enter Tryz.func99, Tryz.ntmps99
  go_wp2_with fail
  by_cases hz : Np.isW Np.wZone (toks.drop i) = true
  case neg =>
    have hz : Np.isW Np.wZone (toks.drop i) = false := by simpa using hz
    have HZ := Lib.hid hz
    clear hz
    refine (isWord_is pb tv toks size i ⟨#[122, 111, 110, 101]⟩ w false HP.out HZ.out).mono ?_
    rintro e w1 ⟨rfl, hb⟩
    have HB := Lib.hid hb
    clear hb
    go_wp2_with fail
    refine (check_yes pb tv toks size i 10 _ (HP.out.keep HB.out hpb)).mono ?_
    rintro e w2 ⟨rfl, hb2⟩
    have HB2 := Lib.hid (HB.out.trans (hb2.mono HB.out.size))
    clear hb2
    go_wp2_with fail
    refine ⟨rfl, head_err (K := known) (by unfold Np.headerR; rw [HZ.out]; rfl) (HK.out.keep (HB2.out.block mb HK.out.lt)) HI.out (Mv.of_below HB2.out HP.out.c1)⟩
  case pos =>
    have hlt : i + 1 ≤ toks.length := by have := Np.isW_ne hz; simp at this; omega
    have HZ := Lib.hid hz
    clear hz
    refine (isWord_is pb tv toks size i ⟨#[122, 111, 110, 101]⟩ w true HP.out HZ.out).mono ?_
    rintro e w1 ⟨rfl, hb⟩
    have HB := Lib.hid hb
    have c1 := (hb.cell (p := ⟨pb, 1, none⟩) hpb).trans HP.out.c1
    have fz := (hb.frozen (p := ⟨pb, 1, none⟩) hpb).trans HP.out.fz
    have hfew := HP.out.few
    clear hb
    go_wp2_with fail
    refine (check_no _ _ _).mono ?_
    rintro e w2 ⟨rfl, rfl⟩
    go_wp2_with fail
    have hM : Mv noX pb (i + 1) w (w1.setCell ⟨pb, 1, none⟩ (.int .i64 ((i : Int) + 1))) := Mv.set HB.out
    generalize hw2 : World.setCell _ _ _ = w2 at hM ⊢
    clear hw2 c1 fz
    have HM := Lib.hid (hM.wider (Y := fun k => k = mb) (fun k e => e.elim))
    have HP2 := Lib.hid (hM.pin HP.out (noX_lt pb) hlt)
    have HK2 := Lib.hid (HK.out.keep (hM.block HK.out.lt (noX_not mb) (by omega)))
    have hpb2 := HP2.out.lt
    clear hM
    by_cases ha : Np.isAny (toks.drop (i + 1)) = true
    case neg =>
      have ha : Np.isAny (toks.drop (i + 1)) = false := by simpa using ha
      have HA := Lib.hid ha
      clear ha
      refine (anyWord_no pb tv toks size (i + 1) _ HP2.out HA.out).mono ?_
      rintro e w3 ⟨rfl, hb3⟩
      have HB3 := Lib.hid hb3
      clear hb3
      go_wp2_with fail
      refine ⟨rfl, head_err (K := known) (i := i + 1) (by unfold Np.headerR; rw [HZ.out, List.tail_drop, HA.out]; rfl) (HK2.out.keep (HB3.out.block mb HK2.out.lt)) hlt (HM.out.then HB3.out)⟩
    case pos =>
      have hlt2 : i + 1 + 1 ≤ toks.length := by have := Np.isAny_ne ha; simp at this; omega
      have HA := Lib.hid ha
      clear ha
      refine (anyWord_yes pb tv toks size (i + 1) _ HP2.out HA.out).mono ?_
      rintro e w3 ⟨rfl, hb3⟩
      have HB3 := Lib.hid hb3
      clear hb3
      have HPX := Lib.hid (show Np.peekT (toks.drop i).tail = Np.peekT (toks.drop (i + 1)) by rw [List.tail_drop])
      have hx6 := (HP2.out.tok (i + 1)).2.1
      obtain ⟨x, hx⟩ : ∃ x, x = (Np.peekT (toks.drop (i + 1))).text := ⟨_, rfl⟩
      rw [← hx] at hx6 ⊢
      have HXX := Lib.hid hx
      clear hx
      go_wp2_with fail
      by_cases hv : Np.validName x = true
      case neg =>
        have hv : Np.validName x = false := by simpa using hv
        have HV := Lib.hid hv
        clear hv
        refine (nameValid_is x hx6 false HV.out _).mono ?_
        rintro e w4 ⟨rfl, hb4⟩
        have HB4 := Lib.hid (HB3.out.trans (hb4.mono HB3.out.size))
        clear hb4
        go_wp2_with fail
        refine (check_yes pb tv toks size (i + 1) 11 _ (HP2.out.keep HB4.out hpb2)).mono ?_
        rintro e w5 ⟨rfl, hb5⟩
        have HB5 := Lib.hid (HB4.out.trans (hb5.mono HB4.out.size))
        clear hb5
        go_wp2_with fail
        refine ⟨rfl, head_err (K := known) (i := i + 1) (by unfold Np.headerR; rw [HZ.out, List.tail_drop, HA.out, ← HXX.out, HV.out]; rfl) (HK2.out.keep (HB5.out.block mb HK2.out.lt)) hlt (HM.out.then HB5.out)⟩
      case pos =>
        have HV := Lib.hid hv
        clear hv
        refine (nameValid_is x hx6 true HV.out _).mono ?_
        rintro e w4 ⟨rfl, hb4⟩
        have HB4 := Lib.hid (HB3.out.trans (hb4.mono HB3.out.size))
        clear hb4
        go_wp2_with fail
        by_cases hw : Np.isWild x = true
        case pos =>
          have HW := Lib.hid hw
          clear hw
          refine (isWildcardP_is x hx6 true HW.out _).mono ?_
          rintro e w5 ⟨rfl, rfl⟩
          go_wp2_with fail
          refine (check_yes pb tv toks size (i + 1) 11 _ (HP2.out.keep HB4.out hpb2)).mono ?_
          rintro e w5 ⟨rfl, hb5⟩
          have HB5 := Lib.hid (HB4.out.trans (hb5.mono HB4.out.size))
          clear hb5
          go_wp2_with fail
          refine ⟨rfl, head_err (K := known) (i := i + 1) (by unfold Np.headerR; rw [HZ.out, List.tail_drop, HA.out, ← HXX.out, HV.out, HW.out]; rfl) (HK2.out.keep (HB5.out.block mb HK2.out.lt)) hlt (HM.out.then HB5.out)⟩
        case neg =>
          have hw : Np.isWild x = false := by simpa using hw
          have HW := Lib.hid hw
          clear hw
          refine (isWildcardP_is x hx6 false HW.out _).mono ?_
          rintro e w5 ⟨rfl, rfl⟩
          go_wp2_with fail
          refine (check_no _ _ _).mono ?_
          rintro e w5 ⟨rfl, rfl⟩
          have c4' := (HB4.out.cell (p := ⟨pb, 4, none⟩) hpb2).trans ((HM.out.mine (o := 4) hpb (fun e => by have := HX.out _ e; omega) (by omega)).trans c4)
          have HK4 := Lib.hid (HK2.out.keep (HB4.out.block mb HK2.out.lt))
          have HP4 := Lib.hid (HP2.out.keep HB4.out hpb2)
          have hpb4 := HP4.out.lt
          obtain ⟨kvs, hMS, hlk⟩ := HK4.out
          have HMS := Lib.hid hMS
          have HLK := Lib.hid (hlk x)
          have HLKA := Lib.hid hlk
          clear hMS hlk
          by_cases hk : x ∈ known
          case pos =>
            have HG := Lib.hid (show (kvs.lookup x).getD (.bool false) = .bool true by rw [HLK.out, if_pos hk]; rfl)
            have HKN := Lib.hid hk
            clear hk
            go_wp2_with (at_lookup; refine wpList_lookup_str _ rfl _ _ 79 rfl 9 4 Tryz.underlying79 Tryz.underlying9 mb kvs rfl HMS.out x rfl (.bool false) (by kernel_rfl) ?_; rw [HG.out])
            refine (check_yes pb tv toks size (i + 1) 5 _ HP4.out).mono ?_
            rintro e w5 ⟨rfl, hb5⟩
            have HB5 := Lib.hid (HB4.out.trans (hb5.mono HB4.out.size))
            clear hb5
            go_wp2_with fail
            refine ⟨rfl, head_err (K := known) (i := i + 1) (by unfold Np.headerR; rw [HZ.out, List.tail_drop, HA.out, ← HXX.out, HV.out, HW.out, if_neg (by simp), if_neg (by simp), if_neg (by simp), if_pos HKN.out]) (HK2.out.keep (HB5.out.block mb HK2.out.lt)) hlt (HM.out.then HB5.out)⟩
          case neg =>
            have HG := Lib.hid (show (kvs.lookup x).getD (.bool false) = .bool false by rw [HLK.out, if_neg hk]; rfl)
            have HNO := Lib.hid (show kvs.lookup x = none by rw [HLK.out, if_neg hk])
            have HKN := Lib.hid hk
            clear hk
            go_wp2_with (at_lookup; refine wpList_lookup_str _ rfl _ _ 79 rfl 9 4 Tryz.underlying79 Tryz.underlying9 mb kvs rfl HMS.out x rfl (.bool false) (by kernel_rfl) ?_; rw [HG.out])
            refine (check_no _ _ _).mono ?_
            rintro e w5 ⟨rfl, rfl⟩
            have fz4 := HP4.out.fz
            have c14 := HP4.out.c1
            have hmp : ¬ mb = pb := by omega
            have hmp' : ¬ pb = mb := by omega
            go_wp2_with (at_mapUpdate; refine wpList_update_str _ rfl _ _ _ 79 rfl 9 4 Tryz.underlying79 Tryz.underlying9 mb kvs rfl HMS.out x rfl (.bool true) rfl HNO.out ?_; intro w5 hm5 ht5; have H5 := Lib.hid (And.intro hm5 ht5); replace c14 := (ht5.cell (p := ⟨pb, 1, none⟩) hmp').trans c14; replace fz4 := (World.frozen?_of_block (a := ⟨pb, 1, none⟩) (ht5.block pb hmp')).trans fz4; clear hm5 ht5)
            have hM6 : Mv (fun k => k = mb) pb (i + 1 + 1) w (w5.setCell ⟨pb, 1, none⟩ (.int .i64 ((i : Int) + 1 + 1))) := ((HM.out.then HB4.out).turned H5.out.2 rfl).trans (Mv.set (Below.refl _ _))
            have hK6 : KnownM mb (x :: known) (w5.setCell ⟨pb, 1, none⟩ (.int .i64 ((i : Int) + 1 + 1))) := KnownM.keep ⟨_, H5.out.1, fun y => by
              rw [lookup_snoc HNO.out, HLKA.out y]
              by_cases hy : y = x
              · simp [hy]
              · by_cases hm : y ∈ known <;> simp [hy, hm]⟩ (Below.heap_setCell _ _ _ _ hmp)
            generalize hw6 : World.setCell _ _ _ = w6 at hM6 hK6 ⊢
            clear hw6 c14 fz4
            have HM6 := Lib.hid hM6
            have HK6 := Lib.hid hK6
            have HP6 := Lib.hid (hM6.pin HP.out HX.out hlt2)
            clear hM6 hK6
            by_cases hs : Np.isS [123] (toks.drop (i + 1 + 1)) = true
            case neg =>
              have hs : Np.isS [123] (toks.drop (i + 1 + 1)) = false := by simpa using hs
              have HS := Lib.hid hs
              clear hs
              refine (sign_no pb tv toks size (i + 1 + 1) ⟨#[123]⟩ _ HP6.out HS.out).mono ?_
              rintro e w7 ⟨rfl, hb7⟩
              have HB7 := Lib.hid hb7
              clear hb7
              go_wp2_with fail
              refine ⟨rfl, head_err (K := x :: known) (i := i + 1 + 1) (by unfold Np.headerR; rw [HZ.out, List.tail_drop, HA.out, ← HXX.out, HV.out, HW.out, List.tail_drop, HS.out, if_neg (by simp), if_neg (by simp), if_neg (by simp), if_neg HKN.out]; rfl) (HK6.out.keep (HB7.out.block mb HK6.out.lt)) hlt2 (HM6.out.then HB7.out)⟩
            case pos =>
              have hlt3 : i + 1 + 1 + 1 ≤ toks.length := by have := Np.isS_ne hs; simp at this; omega
              have HS := Lib.hid hs
              clear hs
              refine (sign_yes pb tv toks size (i + 1 + 1) ⟨#[123]⟩ _ HP6.out HS.out).mono ?_
              rintro e w7 ⟨rfl, hm7⟩
              have HM7 := Lib.hid hm7
              clear hm7
              go_wp2_with fail
              go_ret
              have hr : Np.headerR known (toks.drop i) = (x :: known, .ok x (toks.drop (i + 1 + 1 + 1))) := by
                unfold Np.headerR; rw [HZ.out, List.tail_drop, HA.out, ← HXX.out, HV.out, HW.out, List.tail_drop, HS.out, if_neg (by simp), if_neg (by simp), if_neg (by simp), if_neg HKN.out, List.tail_drop]; rfl
              rw [hr]
              exact ⟨HK6.out.keep (HM7.out.block HK6.out.lt (noX_not mb) hmp), rfl, i + 1 + 1 + 1, hlt3, rfl, HM6.out.trans (HM7.out.wider (fun k e => e.elim))⟩
end Go.Proofs.YtnbolgdccdnjeaaGreatDoor
/- A map with questions as keys that the call has made. -/
namespace Go.Proofs.YtnbolgdccdnjeaaGreatDoor
open Go.RowKit Go.MapKept
def qV (p : List UInt8 × Int) : Value := .agg #[.string (bytesOf p.1), .int .i64 p.2]
/-- The map in block r has these keys (the last one first), each with true. -/
def MapQ (r : Nat) (ks : List (List UInt8 × Int)) (w : World) : Prop := ∃ es c, w.heap[r]? = some (.map es c) ∧ es.toList.map (fun e => (e.key, e.val)) = ks.reverse.map fun p => (qV p, Value.bool true)
theorem MapQ.lt {r : Nat} {ks : List (List UInt8 × Int)} {w : World} (h : MapQ r ks w) : r < w.heap.size := by
  obtain ⟨es, c, h, _⟩ := h
  exact (Array.getElem?_eq_some_iff.1 h).1
theorem MapQ.keep {r : Nat} {ks : List (List UInt8 × Int)} {w w' : World} (h : MapQ r ks w) (hb : w'.heap[r]? = w.heap[r]?) : MapQ r ks w' := by
  obtain ⟨es, c, h, h2⟩ := h
  exact ⟨es, c, hb.trans h, h2⟩
theorem MapQ.made (w : World) : MapQ w.heap.size [] (w.alloc (.map #[] 0)) := ⟨#[], 0, heap_alloc_new _ _, rfl⟩
theorem equalQ (p q : List UInt8 × Int) (w : World) : (Op.equal 180 (qV p) (qV q)).run Tryz.prog w = .ok (decide (p = q)) w := by
  obtain ⟨a, n⟩ := p
  obtain ⟨b, m⟩ := q
  have u3 := Tryz.underlying3
  have a3 := Tryz.isAgg3
  have z3 := Tryz.sizeOf3
  have u9 := Tryz.underlying9
  have a9 := Tryz.isAgg9
  have z9 := Tryz.sizeOf9
  have hS : Tryz.prog.underlying 180 = some (.struct (Tryz.prog.fieldsOf 180)) := by kernel_rfl
  have hp : Tryz.prog.stoodInHeld 180 = false := by kernel_rfl
  show (Op.equalIn 10000 180 (.agg #[.string (bytesOf a), .int .i64 n]) (.agg #[.string (bytesOf b), .int .i64 m])).run Tryz.prog w = _
  rw [show (10000 : Nat) = 9999 + 1 from rfl, run_equalIn_agg w 9999 180 _ _ hS hp]
  simp only [Program.fieldsOf, Tryz.underlying180]
  go_simp
  have hab : ((bytesOf a).toList = (bytesOf b).toList) = (a = b) := by rw [ByteArray.toList_eq, ByteArray.toList_eq]; simp [bytesOf]
  by_cases h0 : a = b <;> by_cases h1 : n = m <;> simp [hab, h0, h1]
theorem checkQ (b : Bool) (p : List UInt8 × Int) (w : World) : (Instr.checkKey b 10000 180 (qV p)).run Tryz.prog w = .ok () w := by
  have hS := Tryz.underlying180
  have hs : ∀ s w, (Instr.checkKey b 9999 9 (.string s)).run Tryz.prog w = .ok () w := fun s w => MapKept.run_checkKey (k := .string s) Tryz.underlying9 (by simp [MapKept.IsKey]) b 9998
  have hi : ∀ n w, (Instr.checkKey b 9999 3 (.int .i64 n)).run Tryz.prog w = .ok () w := fun n w => MapKept.run_checkKey (k := .int .i64 n) Tryz.underlying3 (by simp [MapKept.IsKey]) b 9998
  have a3 := Tryz.isAgg3
  have z3 := Tryz.sizeOf3
  have a9 := Tryz.isAgg9
  have z9 := Tryz.sizeOf9
  rw [show (10000 : Nat) = 9999 + 1 from rfl, Instr.checkKey]
  simp only [qV]
  simp [run_underlying hS, go_sem, Result.andThen, hs, hi]
theorem askQ (p : List UInt8 × Int) (w : World) : ∀ (es : List MapEntry) (ks : List (List UInt8 × Int)) (i : Nat), es.map (fun e => (e.key, e.val)) = ks.map (fun q => (qV q, Value.bool true)) →
    (p ∈ ks → ∃ j, (Instr.findAsking 180 (qV p) es i).run Tryz.prog w = .ok (some (j, .bool true)) w) ∧ (p ∉ ks → (Instr.findAsking 180 (qV p) es i).run Tryz.prog w = .ok none w)
  | [], ks, i, h => by
    cases ks with
    | nil => exact ⟨fun h => by simp at h, fun _ => by rw [Instr.findAsking]; rfl⟩
    | cons => simp at h
  | e :: es, ks, i, h => by
    cases ks with
    | nil => simp at h
    | cons q ks =>
      simp only [List.map_cons, List.cons.injEq, Prod.mk.injEq] at h
      obtain ⟨⟨h1, h2⟩, h3⟩ := h
      obtain ⟨i1, i2⟩ := askQ p w es ks (i + 1) h3
      have hq := equalQ p q w
      rw [← h1] at hq
      by_cases hpq : p = q
      · have hd : decide (p = q) = true := by simpa using hpq
        rw [hd] at hq
        have hr : (Instr.findAsking 180 (qV p) (e :: es) i).run Tryz.prog w = .ok (some (i, .bool true)) w := by
          rw [Instr.findAsking]
          simp [hq, h2]
        exact ⟨fun _ => ⟨i, hr⟩, fun hn => absurd (by rw [hpq]; simp) hn⟩
      · have hd : decide (p = q) = false := by simpa using hpq
        rw [hd] at hq
        have hr : (Instr.findAsking 180 (qV p) (e :: es) i).run Tryz.prog w = (Instr.findAsking 180 (qV p) es (i + 1)).run Tryz.prog w := by
          rw [Instr.findAsking]
          simp [hq]
        rw [hr]
        exact ⟨fun hm => i1 (by simpa [hpq] using hm), fun hm => i2 (fun h => hm (List.mem_cons_of_mem _ h))⟩
theorem findNow_struct {fs : Array Field} {k : Value} {e : MapEntry} {es : List MapEntry} (i : Nat) : Instr.findNow (.struct fs) k (e :: es) i = none := by
  simp only [Instr.findNow]
  rfl
theorem findQ (p : List UInt8 × Int) (w : World) (es : List MapEntry) (ks : List (List UInt8 × Int)) (h : es.map (fun e => (e.key, e.val)) = ks.map (fun q => (qV q, Value.bool true))) :
    (p ∈ ks → ∃ j, (Instr.findKey 180 (qV p) es).run Tryz.prog w = .ok (some (j, .bool true)) w) ∧ (p ∉ ks → (Instr.findKey 180 (qV p) es).run Tryz.prog w = .ok none w) := by
  have hS := Tryz.underlying180
  cases es with
  | nil =>
    cases ks with
    | nil => exact ⟨fun h => by simp at h, fun _ => by simp [Instr.findKey, run_underlying hS, Instr.findNow]⟩
    | cons => simp at h
  | cons e es =>
    obtain ⟨i1, i2⟩ := askQ p w (e :: es) ks 0 h
    have hr : (Instr.findKey 180 (qV p) (e :: es)).run Tryz.prog w = (Instr.findAsking 180 (qV p) (e :: es) 0).run Tryz.prog w := by
      simp [Instr.findKey, run_underlying hS, findNow_struct]
    rw [hr]
    exact ⟨i1, i2⟩
section
variable {ops : Array Oper} {rest : List Oper} {o : Oper} {a : Act} {Q : Exit → Act → World → Prop}
/-- Is a question there? -/
theorem wpList_lookup_q (w : World) (hg : o.guard = none) (m x : Operand) (hop : o.op = Op.lookup 157 m x false) (r : Nat) (ks : List (List UInt8 × Int)) (hm : a.eval m = .map (some r)) (hr : MapQ r ks w) (p : List UInt8 × Int) (hx : a.eval x = qV p) (b : Bool) (hb : decide (p ∈ ks) = b)
    (hK : wpList Tryz.prog ops Q rest (a.put o.dst (.bool b)) w) : wpList Tryz.prog ops Q (o :: rest) a w := by
  obtain ⟨es, c, hr, he⟩ := hr
  have hf := findQ p w es.toList ks.reverse he
  have ht := Tryz.underlying157
  refine wpList_plain hg fun K' hK' => ?_
  have hz : (zeroValue 4).run Tryz.prog w = .ok (.bool false) w := by kernel_rfl
  have hc : ∀ b, (Instr.checkKey b 10000 180 (qV p)).run Tryz.prog w = .ok () w := fun b => checkQ b p w
  have hrun : (Instr.lookup 157 (.map (some r)) (qV p) false).run Tryz.prog w = .ok (.bool b) w := by
    by_cases hp : p ∈ ks
    · obtain ⟨j, hj⟩ := hf.1 (by simpa using hp)
      have hbt : b = true := by rw [← hb]; simpa using hp
      simp [Instr.lookup, run_underlying ht, MapKept.run_getObj_map hr, hc, hj, Result.andThen, hbt]
    · have hn := hf.2 (by simpa using hp)
      have hbf : b = false := by rw [← hb]; simpa using hp
      simp [Instr.lookup, run_underlying ht, MapKept.run_getObj_map hr, hc, hn, Result.andThen, hz, hbf]
  unfold Oper.wp
  simp [execOp, hop, hm, hx, hrun, Result.andThen]
  exact hK' _ _ hK
/-- A new question. -/
theorem wpList_update_q (w : World) (hg : o.guard = none) (m x v : Operand) (hop : o.op = Op.mapUpdate 157 m x v) (r : Nat) (ks : List (List UInt8 × Int)) (hm : a.eval m = .map (some r)) (hr : MapQ r ks w) (p : List UInt8 × Int) (hx : a.eval x = qV p) (hv : a.eval v = .bool true) (hno : p ∉ ks)
    (hK : ∀ w', MapQ r (p :: ks) w' → Turned r w w' → wpList Tryz.prog ops Q rest (a.put o.dst undef) w') : wpList Tryz.prog ops Q (o :: rest) a w := by
  obtain ⟨es, c, hr, he⟩ := hr
  have hf := (findQ p w es.toList ks.reverse he).2 (by simpa using hno)
  have ht := Tryz.underlying157
  refine wpList_plain hg fun K' hK' => ?_
  have hc : (Instr.checkKey false 10000 180 (qV p)).run Tryz.prog w = .ok () w := checkQ false p w
  have hrun : (Instr.mapUpdate 157 (.map (some r)) (qV p) (.bool true)).run Tryz.prog w = .ok () { w with heap := w.heap.setIfInBounds r (.map (es.push { key := qV p, val := .bool true, born := c }) (c + 1)) } := by
    simp [Instr.mapUpdate, run_underlying ht, MapKept.run_getObj_map hr, hc, hf, MapKept.run_setObj_map _ hr, Result.andThen]
  unfold Oper.wp
  simp [execOp, hop, hm, hx, hv, hrun, Result.andThen]
  have hl : r < w.heap.size := (Array.getElem?_eq_some_iff.1 hr).1
  refine hK' _ _ (hK _ ⟨_, _, by simp [hl]; exact ⟨rfl, rfl⟩, by simp [he]⟩ ⟨rfl, rfl, rfl, by simp, fun i hi => by simp [Ne.symm hi]⟩)
end
end Go.Proofs.YtnbolgdccdnjeaaGreatDoor
