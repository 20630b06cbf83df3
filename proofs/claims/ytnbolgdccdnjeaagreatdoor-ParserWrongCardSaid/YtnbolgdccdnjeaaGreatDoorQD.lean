/- Joined by program from: Par12, Catch, Par14, Par15. No condition. -/
import Derived.Test.YtnbolgdccdnjeaaGreatDoorPar11
import Derived.Defers
import Derived.Recover
import Derived.Deep.AppendLies
import Derived.Deep.RegionLaw
import Derived.Test.YtnbolgdccdnjeaaGreatDoorKA
/- The parser: attempts. -/
namespace Go.Proofs.YtnbolgdccdnjeaaGreatDoor
open Go.RowKit
theorem assert_none (w : World) : (Instr.typeAssert .nilIface 20 154 true).run Tryz.prog w = .ok (.tuple #[.agg #[.int .i64 0, .int .i64 0], .bool false]) w := by kernel_rfl
theorem assert_some (er pos : Int) (w : World) : (Instr.typeAssert (.iface 154 (.agg #[.int .i64 er, .int .i64 pos])) 20 154 true).run Tryz.prog w = .ok (.tuple #[.agg #[.int .i64 er, .int .i64 pos], .bool true]) w := by kernel_rfl
theorem frame_caught (p r n t g f : Value) : #[p] ++ (((((((Array.replicate 22 undef).setIfInBounds 3 n).setIfInBounds 4 t).setIfInBounds 2 t).setIfInBounds 5 g).setIfInBounds 6 f).setIfInBounds 0 r).setIfInBounds 1 f =
    #[p, r, f, t, n, t, g, f, undef, undef, undef, undef, undef, undef, undef, undef, undef, undef, undef, undef, undef, undef, undef] := by kernel_rfl
set_option maxRecDepth 100000 in
/-- The deferred closure where nothing was wrong. -/
theorem catch_idle (xb : Nat) (w : World) :
    CallsD Tryz.prog 136 #[.pointer (some ⟨xb, 0, none⟩)] .returning w fun e u' w' => e = .returned (.tuple #[]) ∧ u' = .returning ∧ Below w.heap.size w w' := by
  refine callsD_of_wpS Tryz.func136 rfl fun c₀ cs hu => ?_
  apply wpS_seq
  apply wpS_region
  simp [wpOpsS, go_sem, recoverD, hu, Tryz.ntmps136, Exit.thenS, assert_none]
  refine wpS_of_wp ?_
  generalize hQ : (fun (e : Exit) (a' : Act) (w' : World) => bodyPostS Tryz.prog _ c₀ cs _ e a' (c₀ :: cs) w') = Q
  rw [frame_caught]
  go_wp2_with fail
  rw [← hQ]
  exact ⟨rfl, .returning, by cases c₀; simp_all, .tuple #[], results_none rfl _ _ _, rfl, rfl, (Below.refl _ _).alloc (Nat.le_refl _) _⟩
theorem Tryz.infoDiagP : (Tryz.prog.info? 55).map (fun i => (i.zero, i.size, i.bytes)) = some (some (.agg #[.int .i64 0, .int .i64 0]), 2, 16) := by kernel_rfl
theorem grown_of_below {w w' : World} (h : Below w.heap.size w w') (row : Option Nat) : w.grownBy w' row := ⟨h.os, h.tape, h.output, h.size, fun k hk _ => h.block k hk⟩
def Caught (pb base : Nat) (v : Value) (n : Nat) (xs : List Value) (er pos : Int) (w w' : World) : Prop :=
  ∃ g cap w1, w' = w1.setCell ⟨pb, 6, none⟩ (.slice (some ⟨g, 0, none⟩) (n + 1) cap) ∧ w1.ownsRow base 55 2 (.slice (some ⟨g, 0, none⟩) (n + 1) cap) (n + 1) (xs ++ [.int .i64 er, .int .i64 pos]) ∧ w.grownBy w1 v.ownBlock ∧ (v.ownBlock = some g ∨ w.heap.size ≤ g)
end Go.Proofs.YtnbolgdccdnjeaaGreatDoor
/- The deferred closure of an attempt on a frame that panics. -/
namespace Go.Proofs.YtnbolgdccdnjeaaGreatDoor
open Go.RowKit
/-- What the slots of the region hold. -/
def cval (pb fb : Nat) (v : Value) (er pos : Int) (e19 e20 : Value) (i : Nat) : Value := [Value.pointer (some ⟨pb, 0, none⟩), .pointer (some ⟨pb, 0, none⟩), .pointer (some ⟨pb, 0, none⟩), .pointer (some ⟨pb, 6, none⟩), v, .pointer (some ⟨fb, 0, none⟩), .int .i64 er, .pointer (some ⟨fb, 1, none⟩), .int .i64 pos, .agg #[.int .i64 er, .int .i64 pos], e19, e20, .pointer (some ⟨pb, 0, none⟩), .pointer (some ⟨pb, 6, none⟩)].getD i undef
def cdst (i : Nat) : Nat := [9, 10, 11, 12, 13, 14, 15, 16, 17, 18, 19, 20, 21, 22].getD i 0
def cdsts : List Nat := [0, 1, 2, 3, 4, 5, 6, 7, 8, 9, 12, 13, 10, 11].map cdst
theorem cdst_in : ∀ i ∈ [0, 1, 2, 3, 4, 5, 6, 7, 8, 9, 12, 13, 10, 11], cdst i < 23 ∧ cdst i ∈ cdsts := by decide
theorem cdst_inj : ∀ i ∈ [0, 1, 2, 3, 4, 5, 6, 7, 8, 9, 12, 13, 10, 11], ∀ j ∈ [0, 1, 2, 3, 4, 5, 6, 7, 8, 9, 12, 13, 10, 11], j ≠ i → cdst i ≠ cdst j := by decide
set_option maxRecDepth 100000 in
set_option maxHeartbeats 20000000 in
/-- The deferred closure where something was wrong. -/
theorem catch_fail (xb pb base : Nat) (er pos : Int) (v : Value) (n : Nat) (xs : List Value) (w : World) (hx : w.cell? ⟨xb, 0, none⟩ = some (.pointer (some ⟨pb, 0, none⟩))) (h6 : w.cell? ⟨pb, 6, none⟩ = some v)
    (fz : w.frozen? ⟨pb, 6, none⟩ = false) (hown : w.ownsRow base 55 2 v n xs) (hn : n ≤ 100) (hb : base ≤ w.heap.size) (hpb : pb < base) (hxo : some xb ≠ v.ownBlock) (_ : pb ≠ xb) :
    CallsD Tryz.prog 136 #[.pointer (some ⟨xb, 0, none⟩)] (.panicking (failV er pos)) w fun e u' w' => e = .returned (.tuple #[]) ∧
      u' = .panicking [{ v := .iface 154 (.agg #[.int .i64 er, .int .i64 pos]), recovered := true }] ∧ Caught pb base v n xs er pos w w' := by
  refine callsD_of_wpS Tryz.func136 rfl fun c₀ cs hu => ?_
  unfold failV at hu
  apply wpS_seq
  apply wpS_region
  simp [wpOpsS, go_sem, recoverD, hu, Tryz.ntmps136, Exit.thenS, assert_some]
  refine wpS_of_wp ?_
  rw [frame_caught]
  have hxb : xb < w.heap.size := World.block_lt_of_cell? w ⟨xb, 0, none⟩ hx
  have hpbw : pb < w.heap.size := World.block_lt_of_cell? w ⟨pb, 6, none⟩ h6
  obtain ⟨A, c, rfl⟩ := ownsRow_form hown
  obtain ⟨i0, hi0, hz0, hz1, hz2⟩ := info_parts Tryz.infoDiagP
  have HU := Lib.hid hu
  have HOW := Lib.hid hown
  have hpx2 : ¬ pb = w.heap.size := by omega
  have hxb2 : ¬ xb = w.heap.size := by omega
  have hne : some pb ≠ (Value.slice A n c).ownBlock := fun e => by have := (ownsRow_base hown pb e.symm).1; omega
  have hnf : some w.heap.size ≠ (Value.slice A n c).ownBlock := fun e => by have := (ownsRow_base hown _ e.symm).2; omega
  have HBA := Lib.hid hb
  clear hu hb
  go_wp2_with fail
  obtain ⟨W1, hW1⟩ : ∃ W1, W1 = w.alloc (.cells #[.int .i64 er, .int .i64 pos] 154) := ⟨_, rfl⟩
  have hb1 : Below w.heap.size w W1 := by rw [hW1]; exact (Below.refl _ _).alloc (Nat.le_refl _) _
  have hs1 : W1.heap.size = w.heap.size + 1 := by rw [hW1]; simp
  have y0 : W1.cell? ⟨xb, 0, none⟩ = some (.pointer (some ⟨pb, 0, none⟩)) := (hb1.cell (p := ⟨xb, 0, none⟩) hxb).trans hx
  have y6 : W1.cell? ⟨pb, 6, none⟩ = some (.slice A n c) := (hb1.cell (p := ⟨pb, 6, none⟩) hpbw).trans h6
  have yf : W1.frozen? ⟨pb, 6, none⟩ = false := (hb1.frozen (p := ⟨pb, 6, none⟩) hpbw).trans fz
  have ye : W1.cell? ⟨w.heap.size, 0, none⟩ = some (.int .i64 er) := by rw [hW1, World.cell?_alloc_new]; rfl
  have yp : W1.cell? ⟨w.heap.size, 1, none⟩ = some (.int .i64 pos) := by rw [hW1, World.cell?_alloc_new]; rfl
  have ho1 : W1.ownsRow base 55 2 (.slice A n c) n xs := by rw [hW1]; exact HOW.out.alloc _
  rw [← hW1]
  have HB1 := Lib.hid hb1
  have HO1 := Lib.hid ho1
  have HS1 := Lib.hid hs1
  have HY := Lib.hid (And.intro y0 (And.intro y6 (And.intro ye (And.intro yp yf))))
  clear hW1 hb1 ho1 hs1 hx h6 fz hown
  refine wp_gen fun a0 ha0 => ?_
  have HA0 := Lib.hid ha0
  have HA1 := Lib.hid (show a0.eval (.tmp 0) = .pointer (some ⟨xb, 0, none⟩) by rw [ha0]; rfl)
  have HA2 := Lib.hid (show a0.eval (.tmp 1) = .pointer (some ⟨w.heap.size, 0, none⟩) by rw [ha0]; rfl)
  have HM := Lib.hid (show a0.tmps.size = 23 by rw [ha0]; rfl)
  clear ha0
  refine wp_region_any (by kernel_rfl) ?_
  refine wpAny_act (w := W1.drew) (D := [0, 1, 2, 3, 4, 5, 6, 7, 8, 9, 12, 13]) (A := []) (p := 10) (dst := cdst) (val := cval pb w.heap.size (.slice A n c) er pos undef undef) (m := 23)
    (base := restBase a0 23 cdsts) (wellB_spec (by kernel_rfl)) (by simp) (by simp) (waitB_spec (by kernel_rfl)) ?_
    (fun i hi => (cdst_in i (by simp at hi ⊢; omega)).1) (fun i hi j hj => cdst_inj i (by simp at hi ⊢; omega) j (by simp at hj ⊢; omega)) (fun i hi => restBase_ne (cdst_in i (by simp at hi ⊢; omega)).2) ?_ ?_ _ _ _ (Held.start (fun q hq => restBase_self q hq) HM.out)
  · intro i hi hiA
    simp only [List.mem_cons, List.not_mem_nil, or_false] at hi
    rcases hi with rfl | rfl | rfl | rfl | rfl | rfl | rfl | rfl | rfl | rfl | rfl | rfl
    all_goals first | (exfalso; simp at hiA; done) | exact ⟨_, rfl, rfl⟩
  · intro i hi hiA o ho a' hb hdep
    have k0' := (restBase_get hb (j := 0) (by decide) (by decide)).trans HA1.out
    have k1' := (restBase_get hb (j := 1) (by decide) (by decide)).trans HA2.out
    simp [Act.eval] at k0' k1'
    simp only [List.mem_cons, List.not_mem_nil, or_false] at hi
    rcases hi with rfl | rfl | rfl | rfl | rfl | rfl | rfl | rfl | rfl | rfl | rfl | rfl
    all_goals first
      | (exfalso; simp at hiA; done)
      | (cases ho
         try simp [Act.eval, Region.binds, cval, cdst] at hdep
         refine .inl ⟨by simp [Region.wanted], fun w' hw' => ?_⟩
         subst hw'
         simp [Oper.quietAt, Oper.quietUpon, execOp, go_sem, cval, k0', k1', y0, y6, ye, yp, hdep])
  · intro f listed a' hH hr
    obtain ⟨_, o, ho, hall⟩ := mem_ready.1 hr
    cases ho
    have hG := hH.good
    have hval := fun i hi hl => hG.val i hi hl
    have hlst : ∀ k, ({ on := k, ground := .data } : Edge) ∈ _ → listed.getD k false = true := fun k hk => hall _ hk rfl
    have a9 := hval 9 (by simp) (hlst 9 (by simp))
    simp [Act.eval, cval, cdst] at a9
    simp only [wpOp]
    simp [Region.wanted]
    refine .inl ?_
    simp [Oper.wp, execOp, go_sem, a9]
    obtain ⟨W5, hW5⟩ : ∃ W5, W5 = (W1.alloc (.cells #[.int .i64 er, .int .i64 pos] 55)).drew := ⟨_, rfl⟩
    have hb5 : Below W1.heap.size W1 W5 := by rw [hW5]; exact ((Below.refl _ _).alloc (Nat.le_refl _) _).drew
    have hh5 : W5.heap[W1.heap.size]? = some (.cells #[.int .i64 er, .int .i64 pos] 55 (0, 0)) := by rw [hW5]; exact heap_alloc_new _ _
    have ho5 : W5.ownsRow base 55 2 (.slice A n c) n xs := by rw [hW5]; exact (HO1.out.alloc _).drew
    rw [← hW5]
    have HB5 := Lib.hid hb5
    have HH5 := Lib.hid hh5
    have HO5 := Lib.hid ho5
    clear hW5 hh5 ho5 y0 y6 ye yp yf
    have hs1 := HS1.out
    have y0 := (HB5.out.cell (p := ⟨xb, 0, none⟩) (by dsimp only; omega)).trans HY.out.1
    have y6 := (HB5.out.cell (p := ⟨pb, 6, none⟩) (by dsimp only; omega)).trans HY.out.2.1
    have ye := (HB5.out.cell (p := ⟨w.heap.size, 0, none⟩) (by dsimp only; omega)).trans HY.out.2.2.1
    have yp := (HB5.out.cell (p := ⟨w.heap.size, 1, none⟩) (by dsimp only; omega)).trans HY.out.2.2.2.1
    have yf := (HB5.out.frozen (p := ⟨pb, 6, none⟩) (by dsimp only; omega)).trans HY.out.2.2.2.2
    clear hb5 hs1
    refine wpAny_act (w := W5) (D := [0, 1, 2, 3, 4, 5, 6, 7, 8, 9, 12, 13, 10]) (A := [10]) (p := 11) (dst := cdst) (val := cval pb w.heap.size (.slice A n c) er pos (.slice (some ⟨W1.heap.size, 0, none⟩) 1 1) undef) (m := 23)
      (base := restBase a0 23 cdsts) (wellB_spec (by kernel_rfl)) (by simp) (by simp) (waitB_spec (by kernel_rfl)) ?_
      (fun i hi => (cdst_in i (by simp at hi ⊢; omega)).1) (fun i hi j hj => cdst_inj i (by simp at hi ⊢; omega) j (by simp at hj ⊢; omega)) (fun i hi => restBase_ne (cdst_in i (by simp at hi ⊢; omega)).2) ?_ ?_ _ _ _ (hH.act (D' := [0, 1, 2, 3, 4, 5, 6, 7, 8, 9, 12, 13, 10]) (val' := cval pb w.heap.size (.slice A n c) er pos (.slice (some ⟨W1.heap.size, 0, none⟩) 1 1) undef) hr (by simp) (fun i hi => by simp at hi ⊢; omega) (fun i hi => by simp at hi; rcases hi with rfl | rfl | rfl | rfl | rfl | rfl | rfl | rfl | rfl | rfl | rfl | rfl <;> rfl) rfl (by simp [cdst]) (fun j hj => cdst_inj 10 (by simp) j (by simp at hj ⊢; omega) (by rintro rfl; simp at hj)) (restBase_ne (cdst_in 10 (by simp)).2) (by simp))
    · intro i hi hiA
      simp only [List.mem_cons, List.not_mem_nil, or_false] at hi
      rcases hi with rfl | rfl | rfl | rfl | rfl | rfl | rfl | rfl | rfl | rfl | rfl | rfl | rfl
      all_goals first | (exfalso; simp at hiA; done) | exact ⟨_, rfl, rfl⟩
    · intro i hi hiA o ho a' hb hdep
      have k0' := (restBase_get hb (j := 0) (by decide) (by decide)).trans HA1.out
      have k1' := (restBase_get hb (j := 1) (by decide) (by decide)).trans HA2.out
      simp [Act.eval] at k0' k1'
      simp only [List.mem_cons, List.not_mem_nil, or_false] at hi
      rcases hi with rfl | rfl | rfl | rfl | rfl | rfl | rfl | rfl | rfl | rfl | rfl | rfl | rfl
      all_goals first
        | (exfalso; simp at hiA; done)
        | (cases ho
           try simp [Act.eval, Region.binds, cval, cdst] at hdep
           refine .inl ⟨by simp [Region.wanted], fun w' hw' => ?_⟩
           subst hw'
           simp [Oper.quietAt, Oper.quietUpon, execOp, go_sem, cval, k0', k1', y0, y6, ye, yp, hdep])
    · intro f listed a' hH hr
      obtain ⟨_, o, ho, hall⟩ := mem_ready.1 hr
      cases ho
      have hG := hH.good
      have hval := fun i hi hl => hG.val i hi hl
      have hlst : ∀ k, ({ on := k, ground := .data } : Edge) ∈ _ → listed.getD k false = true := fun k hk => hall _ hk rfl
      have a4 := hval 4 (by simp) (hlst 4 (by simp))
      have a10 := hval 10 (by simp) (hlst 10 (by simp))
      simp [cval, cdst] at a4 a10
      simp only [wpOp]
      simp [Region.wanted]
      refine .inl ?_
      have hbw := HB5.out.size
      have hs1 := HS1.out
      refine wp_append_lies W5 (.tmp 13) (.tmp 19) 51 rfl base 55 i0 (.agg #[.int .i64 0, .int .i64 0]) 2 16 Tryz.underlying51 hi0 hz0 hz1 hz2 rfl (by decide) (.slice A n c) n xs a4 HO5.out ⟨W1.heap.size, 0, none⟩ 1 1 [.int .i64 er, .int .i64 pos] a10 rfl (World.news_of_block (cs := #[.int .i64 er, .int .i64 pos]) (t := 55) (fr := (0, 0)) HH5.out) (by simp [Value.oneCell']) (by omega) (by unfold maxLen; omega) (by omega) (by have := HBA.out; omega) _ rfl ?_
      intro g cap w6 hown6 hg6 hat6 hlt6
      have hgr : w.grownBy w6 (Value.slice A n c).ownBlock := (grown_of_below (HB1.out.trans (HB5.out.mono HB1.out.size)) _).trans hg6
      have hat : (Value.slice A n c).ownBlock = some g ∨ w.heap.size ≤ g := by
        rcases hat6 with h | h
        · exact .inl h
        · right; omega
      replace y0 := (hg6.cell_far ⟨xb, 0, none⟩ (by dsimp only; omega) hxo).trans y0
      replace y6 := (hg6.cell_far ⟨pb, 6, none⟩ (by dsimp only; omega) hne).trans y6
      replace ye := (hg6.cell_far ⟨w.heap.size, 0, none⟩ (by dsimp only; omega) hnf).trans ye
      replace yp := (hg6.cell_far ⟨w.heap.size, 1, none⟩ (by dsimp only; omega) hnf).trans yp
      replace yf := (hg6.frozen_far ⟨pb, 6, none⟩ (by dsimp only; omega) hne).trans yf
      have HGR := Lib.hid hgr
      have HAT := Lib.hid hat
      have HO6 := Lib.hid hown6
      clear hgr hat hown6 hg6 hat6 hlt6 hbw hs1
      refine wpAny_act (w := w6) (D := [0, 1, 2, 3, 4, 5, 6, 7, 8, 9, 12, 13, 10, 11]) (A := [11, 10]) (p := 14) (dst := cdst) (val := cval pb w.heap.size (.slice A n c) er pos (.slice (some ⟨W1.heap.size, 0, none⟩) 1 1) (.slice (some ⟨g, 0, none⟩) (n + 1) cap)) (m := 23)
        (base := restBase a0 23 cdsts) (wellB_spec (by kernel_rfl)) (by simp) (by simp) (waitB_spec (by kernel_rfl)) ?_
        (fun i hi => (cdst_in i (by simp at hi ⊢; omega)).1) (fun i hi j hj => cdst_inj i (by simp at hi ⊢; omega) j (by simp at hj ⊢; omega)) (fun i hi => restBase_ne (cdst_in i (by simp at hi ⊢; omega)).2) ?_ ?_ _ _ _ (hH.act (D' := [0, 1, 2, 3, 4, 5, 6, 7, 8, 9, 12, 13, 10, 11]) (val' := cval pb w.heap.size (.slice A n c) er pos (.slice (some ⟨W1.heap.size, 0, none⟩) 1 1) (.slice (some ⟨g, 0, none⟩) (n + 1) cap)) hr (by simp) (fun i hi => by simp at hi ⊢; omega) (fun i hi => by simp at hi; rcases hi with rfl | rfl | rfl | rfl | rfl | rfl | rfl | rfl | rfl | rfl | rfl | rfl | rfl <;> rfl) rfl (by simp [cdst]) (fun j hj => cdst_inj 11 (by simp) j (by simp at hj ⊢; omega) (by rintro rfl; simp at hj)) (restBase_ne (cdst_in 11 (by simp)).2) (by simp))
      · intro i hi hiA
        simp only [List.mem_cons, List.not_mem_nil, or_false] at hi
        rcases hi with rfl | rfl | rfl | rfl | rfl | rfl | rfl | rfl | rfl | rfl | rfl | rfl | rfl | rfl
        all_goals first | (exfalso; simp at hiA; done) | exact ⟨_, rfl, rfl⟩
      · intro i hi hiA o ho a' hb hdep
        have k0' := (restBase_get hb (j := 0) (by decide) (by decide)).trans HA1.out
        have k1' := (restBase_get hb (j := 1) (by decide) (by decide)).trans HA2.out
        simp [Act.eval] at k0' k1'
        simp only [List.mem_cons, List.not_mem_nil, or_false] at hi
        rcases hi with rfl | rfl | rfl | rfl | rfl | rfl | rfl | rfl | rfl | rfl | rfl | rfl | rfl | rfl
        all_goals first
          | (exfalso; simp at hiA; done)
          | (cases ho
             try simp [Act.eval, Region.binds, cval, cdst] at hdep
             refine .inl ⟨by simp [Region.wanted], fun w' hw' => ?_⟩
             subst hw'
             simp [Oper.quietAt, Oper.quietUpon, execOp, go_sem, cval, k0', k1', y0, y6, ye, yp, hdep])
      · intro f listed a' hH hr
        obtain ⟨_, o, ho, hall⟩ := mem_ready.1 hr
        cases ho
        have hG := hH.good
        have hval := fun i hi hl => hG.val i hi hl
        have hlst : ∀ k, ({ on := k, ground := .data } : Edge) ∈ _ → listed.getD k false = true := fun k hk => hall _ hk rfl
        obtain ⟨rfl, hlast⟩ := hH.all hr (by kernel_rfl)
        have a11 := hval 11 (by simp) (hlast 11 (by simp) (by simp))
        have a13 := hval 13 (by simp) (hlast 13 (by simp) (by simp))
        simp [Act.eval, cval, cdst] at a11 a13
        have hframe := Held.frame (D := [0, 1, 2, 3, 4, 5, 6, 7, 8, 9, 12, 13, 10, 11]) (dst := cdst) (a0 := a0) (m := 23) hH HM.out (fun i hi => hlast i (by simp at hi ⊢; omega) (by simp at hi; omega)) (fun i hi => (cdst_in i (by simp at hi ⊢; omega)).1)
        simp only [wpOp]
        simp [Region.wanted]
        refine .inl ?_
        simp [Oper.wp, execOp, go_sem, a11, a13, y6, yf]
        refine ⟨ready_nil (fun i hi => ?_) (by rw [Array.size_setIfInBounds]; exact hG.size), ?_⟩
        · by_cases h17 : i = 14
          · subst h17
            have hs : 14 < listed.size := by rw [hG.size]; exact hi
            simp [Array.getD, hs]
          · exact listed_set (hlast i hi h17)
        · rw [hframe, HA0.out]
          simp [putAll, Act.put, cval, cdst]
          clear hframe y0 y6 ye yp yf a11 a13 hval hlst hlast hall hG hH
          go_wp2_with fail
          exact ⟨rfl, .panicking [{ v := .iface 154 (.agg #[.int .i64 er, .int .i64 pos]), recovered := true }], rfl, .tuple #[], results_none rfl _ _ _, rfl, rfl, g, cap, w6, rfl, HO6.out, HGR.out, HAT.out⟩
end Go.Proofs.YtnbolgdccdnjeaaGreatDoor
/- An attempt: contract. -/
namespace Go.Proofs.YtnbolgdccdnjeaaGreatDoor
open Go.RowKit
set_option maxRecDepth 100000 in
set_option maxHeartbeats 1000000 in
theorem attempt_any (pb base : Nat) (f : FuncId) (cap : Array Value) (w : World) (v : Value) (n : Nat) (xs : List Value) (Rok : World → Prop) (Rbad : Int → Int → World → Prop) (eg : ∀ args w, (callFunc f args).run Tryz.prog w = .ok (.enter f args) w)
    (hpb : pb < base) (hn : n ≤ 100) (hB : base ≤ w.heap.size) (hown : w.ownsRow base 55 2 v n xs)
    (hcall : ∀ w1, Below w.heap.size w w1 → w.heap.size < w1.heap.size → Calls Tryz.prog f cap w1 fun e w2 => (e = .returned (.tuple #[]) ∧ Rok w2) ∨
      (∃ er pos, e = .panicked (failV er pos) ∧ Rbad er pos w2 ∧ w2.heap[w.heap.size]? = w1.heap[w.heap.size]? ∧ w1.heap.size ≤ w2.heap.size ∧ w2.cell? ⟨pb, 6, none⟩ = some v ∧ w2.frozen? ⟨pb, 6, none⟩ = false ∧ ∀ g, v.ownBlock = some g → w2.heap[g]? = w1.heap[g]?)) :
    Calls Tryz.prog 97 #[.pointer (some ⟨pb, 0, none⟩), .func (.func f) #[] cap] w fun e w' => (e = .returned (.bool true) ∧ ∃ w2, Rok w2 ∧ Below w2.heap.size w2 w') ∨
      (e = .returned (.bool false) ∧ ∃ er pos w2, Rbad er pos w2 ∧ Caught pb base v n xs er pos w2 w') := by
  have hmf : ∀ (fn : Fn) (first cap : Array Value) (w : World), (Instr.makeFunc fn first cap).run Tryz.prog w = .ok (.func fn first cap) w := fun _ _ _ _ => rfl
  have hal : Below w.heap.size w (w.alloc (.cells #[.pointer (some ⟨pb, 0, none⟩)] 127)) := (Below.refl _ _).alloc (Nat.le_refl _) _
  have hc := hcall _ hal (by simp)
  have hb0 : (w.alloc (.cells #[.pointer (some ⟨pb, 0, none⟩)] 127)).heap[w.heap.size]? = some (.cells #[.pointer (some ⟨pb, 0, none⟩)] 127 (0, 0)) := heap_alloc_new _ _
  have HC := Lib.hid hc
  have HB0 := Lib.hid hb0
  have HOW := Lib.hid hown
  have HBS := Lib.hid hB
  have HAL := Lib.hid hal
  clear hcall hc hb0 hown hB hal
  go_enter_defers Tryz.func97, Tryz.ntmps97
  go_wp2_with fail
  refine HC.out.mono ?_
  rintro e w2 (⟨rfl, hok⟩ | ⟨er, pos, rfl, hbad, hbx, hsz, h6, hfz, hrow⟩)
  · have HOK := Lib.hid hok
    clear hok
    go_wp2_with fail
    refine leaves_cons (f := 136) (args := #[.pointer (some ⟨w.heap.size, 0, none⟩)]) (by simp) (by simp [go_sem]) ?_
    refine (catch_idle w.heap.size _).mono ?_
    rintro e u' w3 ⟨rfl, rfl, hb3⟩
    exact ⟨_, results_tmp rfl _ _ _, .inl ⟨rfl, w2, HOK.out, hb3⟩⟩
  · have HBAD := Lib.hid hbad
    have HBX := Lib.hid (hbx.trans HB0.out)
    have HSZ := Lib.hid hsz
    have H6 := Lib.hid h6
    have HFZ := Lib.hid hfz
    have HOWN := Lib.hid (ownsRow_keep (HOW.out.alloc _) hrow)
    clear hbad hbx hsz h6 hfz hrow
    go_wp2_with fail
    refine leaves_cons (f := 136) (args := #[.pointer (some ⟨w.heap.size, 0, none⟩)]) (by simp) (by simp [go_sem]) ?_
    have hsz' := HSZ.out
    simp only [World.size_alloc] at hsz'
    refine (catch_fail w.heap.size pb base er pos v n xs w2 (by simp [World.cell?, HBX.out]) H6.out HFZ.out HOWN.out hn (by have := HBS.out; omega) hpb (fun e => by have := (ownsRow_base HOW.out _ e.symm).2; omega) (by have := HBS.out; omega)).mono ?_
    rintro e u' w3 ⟨rfl, rfl, hc3⟩
    exact ⟨_, results_tmp rfl _ _ _, .inr ⟨rfl, er, pos, w2, HBAD.out, hc3⟩⟩
end Go.Proofs.YtnbolgdccdnjeaaGreatDoor
/- The parser: the closure that reads a header: contract. -/
namespace Go.Proofs.YtnbolgdccdnjeaaGreatDoor
open Go.RowKit
def File1Out (pb mb zb : Nat) (toks : List Np.Tok) (size : Int) (w : World) (x : List (List UInt8) × Np.Res (List UInt8)) (e : Ending) (w' : World) : Prop :=
  KnownM mb x.1 w' ∧ match x.2 with
    | .ok a r' => e = .returned (.tuple #[]) ∧ ∃ w2, MovedTo (fun k => k = mb) pb toks w r' w2 ∧ w' = w2.setCell ⟨zb, 0, none⟩ (.string (bytesOf a))
    | .err er r' => e = .panicked (failV er (Np.posT size r')) ∧ MovedTo (fun k => k = mb) pb toks w r' w'
set_option maxHeartbeats 1000000 in
theorem file1_any (pb mb xb zb : Nat) (tv : Value) (toks : List Np.Tok) (size : Int) (i : Nat) (known : List (List UInt8)) (w : World) (hP : PIn w pb tv toks size i) (c4 : w.cell? ⟨pb, 4, none⟩ = some (.map (some mb))) (hK : KnownM mb known w) (hmb : pb ≤ mb + 1 ∧ mb ≠ pb)
    (hx : w.cell? ⟨xb, 0, none⟩ = some (.pointer (some ⟨pb, 0, none⟩))) {z0 : Value} (hz : w.cell? ⟨zb, 0, none⟩ = some z0) (hzf : w.frozen? ⟨zb, 0, none⟩ = false) (hzp : zb ≠ pb) (hzm : zb ≠ mb) :
    Calls Tryz.prog 98 #[.pointer (some ⟨xb, 0, none⟩), .pointer (some ⟨zb, 0, none⟩)] w (File1Out pb mb zb toks size w (Np.headerR known (toks.drop i))) := by
  have hc := header_any pb mb tv toks size i known w hP c4 hK hmb
  obtain ⟨x, hxe⟩ : ∃ x, Np.headerR known (toks.drop i) = x := ⟨_, rfl⟩
  rw [hxe] at hc ⊢
  have HC := Lib.hid hc
  have hzl : zb < w.heap.size := World.block_lt_of_cell? w ⟨zb, 0, none⟩ hz
  clear hc hxe hP hK c4
  obtain ⟨K, x⟩ := x
  go_enter Tryz.func98, Tryz.ntmps98
  go_wp2_with fail
  refine HC.out.mono ?_
  rintro e w2 ⟨hk2, h2⟩
  cases x with
  | err er r' =>
    obtain ⟨rfl, hm⟩ := h2
    have HM := Lib.hid hm
    have HK2 := Lib.hid hk2
    clear hm hk2
    go_wp2_with fail
    exact ⟨rfl, HK2.out, rfl, HM.out⟩
  | ok a r' =>
    obtain ⟨rfl, hm⟩ := h2
    have HM := Lib.hid hm
    have HK2 := Lib.hid hk2
    obtain ⟨i', hi', hr', hmv⟩ := hm
    have hz2 := (hmv.cell (p := ⟨zb, 0, none⟩) hzl hzm hzp).trans hz
    have hzf2 := (hmv.frozen (p := ⟨zb, 0, none⟩) hzl hzm).trans hzf
    clear hk2 hmv hr' hi'
    go_wp2_with fail
    go_end0
    exact ⟨HK2.out.keep (Below.heap_setCell _ _ _ _ (fun e => hzm e.symm)), rfl, w2, HM.out, rfl⟩
end Go.Proofs.YtnbolgdccdnjeaaGreatDoor
