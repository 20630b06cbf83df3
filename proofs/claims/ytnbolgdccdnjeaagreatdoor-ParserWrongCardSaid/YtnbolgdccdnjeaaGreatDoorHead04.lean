/- The head of layer 4: what is read of examples. -/
import Derived.Test.YtnbolgdccdnjeaaGreatDoorQG
import Derived.Test.YtnbolgdccdnjeaaGreatDoorPC
import Derived.Test.YtnbolgdccdnjeaaGreatDoorCB
namespace Go.Proofs.YtnbolgdccdnjeaaGreatDoor
open Go.RowKit
/-- What the parser asks of memory. -/
structure ParIn (w : World) : Prop where
  rules : RulesIn w w.heap.size
  err : ErrIn w
theorem ParIn.keep {w w' : World} (h : ParIn w) (hb : Below w.heap.size w w') : ParIn w' := ⟨(h.rules.keep hb).more hb.size, h.err.keep hb⟩
theorem ParIn.parse {w : World} (h : ParIn w) (s : ByteArray) (hs : s.size ≤ 140737488355328) {x : List Np.Zone × List Np.Diag} (hx : Np.parse s.data.toList = x) : Calls Tryz.prog 23 #[.string s] w (GivesParse w x) := by
  rw [← hx]; exact parse_any s hs w h.err h.rules
/-- A row that was just laid. -/
theorem slr_rows_new {α : Type} {R : World → Nat → List Value → α → Prop} {sz n : Nat} {w : World} {T : TypeId} {cs : Array Value} {xs : List α} (rows : List (List Value)) (hcs : cs = rows.flatten.toArray) (hl : rows.length = xs.length) (hn : n = xs.length) (hm : xs.length ≤ 140737488355328) (hR : ∀ (i : Nat) (r : List Value) (x : α), rows[i]? = some r → xs[i]? = some x → r.length = sz ∧ R (w.alloc (.cells cs T)) (w.alloc (.cells cs T)).heap.size r x) :
    SlR R sz (w.alloc (.cells cs T)) (w.alloc (.cells cs T)).heap.size (.slice (some ⟨w.heap.size, 0, none⟩) n n) xs := by
  subst hn
  have hl' : ∀ q ∈ rows, q.length = sz := fun q hq => by
    obtain ⟨i, hi, rfl⟩ := List.mem_iff_getElem.1 hq
    exact (hR i _ _ (List.getElem?_eq_getElem hi) (List.getElem?_eq_getElem (by omega))).1
  refine ⟨_, _, rfl, Nat.le_refl _, hm, fun i x hx => ?_⟩
  have hi := (List.getElem?_eq_some_iff.1 hx).1
  have hr := List.getElem?_eq_getElem (l := rows) (i := i) (by omega)
  obtain ⟨h1, h2⟩ := hR i _ x hr hx
  refine ⟨w.heap.size, 0, rows[i], rfl, by simp, h1, fun j u hj => ?_, h2⟩
  have h3 := flatten_at rows i j _ u hl' hr hj
  rw [World.cell?_alloc_new, hcs, Nat.zero_add]
  simpa using h3
theorem rdatum_enc (W : World) (B : Nat) (x : Np.Datum) (h : x.text.length ≤ 1000) : RDatum W B (encD x) x := ⟨bytesOf x.text, by simp [bytesOf], by rw [← size_list]; simp [bytesOf]; omega, rfl⟩
/-- Data that were just laid. -/
theorem data_new {w : World} {T : TypeId} {cs : Array Value} (xs : List Np.Datum) (n : Nat) (hn : xs.length = n) (hcs : cs.toList = xs.flatMap encD) (hl : xs.length ≤ 10) (ht : ∀ x ∈ xs, x.text.length ≤ 1000) :
    SlR RDatum 3 (w.alloc (.cells cs T)) (w.alloc (.cells cs T)).heap.size (.slice (some ⟨w.heap.size, 0, none⟩) n n) xs :=
  slr_fresh encD (fun _ _ => rfl) hn hcs (by omega) (fun W B x hx => rdatum_enc W B x (ht x hx))
set_option maxHeartbeats 1000000 in
theorem headSet_any (s : ByteArray) (t : Int) (A : Option Addr) (n c : Nat) (w : World) : Calls Tryz.prog 56 #[.string s, .int .i64 t, .slice A n c] w fun e w' => e = .returned (.agg #[.string s, .int .i64 t, .int .i64 300, .slice A n c, .slice none 0 0]) ∧ Below w.heap.size w w' := by
  go_enter Tryz.func56, Tryz.ntmps56
  go_wp2_with fail
  refine bodyPost_ret (v := .agg #[.string s, .int .i64 t, .int .i64 300, .slice A n c, .slice none 0 0]) ?_ rfl ⟨rfl, ?_⟩
  · simp [results, Tryz.results56, go_sem]
  · first
    | exact (Below.refl _ _).alloc (Nat.le_refl _) _
    | exact (((((((Below.refl _ _).alloc (Nat.le_refl _) _).setCell (Nat.le_refl _) _).setCell (Nat.le_refl _) _).setCell (Nat.le_refl _) _).setCell (Nat.le_refl _) _).setCell (Nat.le_refl _) _)
set_option maxRecDepth 100000 in
set_option maxHeartbeats 4000000 in
theorem head04_any (w : World) (hI : ParIn w) : Calls Tryz.prog 22 #[] w fun e w' => e = .returned (.bool true) ∧ Below w.heap.size w w' := by
  have HI := Lib.hid hI
  have eg : ∀ args w, (callFunc 56 args).run Tryz.prog w = .ok (.enter 56 args) w := fun args w => by simp [go_sem]
  clear hI
  go_enter Tryz.func22, Tryz.ntmps22
  go_wp2_with fail
  refine (HI.out.parse ⟨Np.pex1.toArray⟩ (by show Np.pex1.length ≤ _; decide) (x := ([Np.pexZ], [])) (by rw [show (⟨Np.pex1.toArray⟩ : ByteArray).data.toList = Np.pex1 from rfl]; exact Np.parse_ex1)).mono ?_
  rintro e w1 ⟨zv1, dv1, rfl, hz1, hd1, hb1⟩
  obtain ⟨Az1, cz1, rfl, -, -⟩ := slr_form hz1
  obtain ⟨Ad1, cd1, rfl, -, -⟩ := slr_form hd1
  have HZ1 := Lib.hid hz1
  have HB1 := Lib.hid hb1
  clear hz1 hd1 hb1
  simp only [List.length_cons, List.length_nil]
  go_wp2_with fail
  have d1 := data_new (w := w1) (T := 43) (cs := #[.string ⟨#[97, 46, 110, 115]⟩, .int .i64 0, .int .i64 0]) [⟨[97, 46, 110, 115], 0, 0⟩] 1 rfl rfl (by simp) (by simp)
  have HD1 := Lib.hid d1
  have hb2 : Below w1.heap.size w1 (w1.alloc (.cells #[.string ⟨#[97, 46, 110, 115]⟩, .int .i64 0, .int .i64 0] 43)) := (Below.refl _ _).alloc (Nat.le_refl _) _
  have HB2 := Lib.hid hb2
  clear d1 hb2
  generalize w1.alloc (.cells #[.string ⟨#[97, 46, 110, 115]⟩, .int .i64 0, .int .i64 0] 43) = w2 at *
  refine (headSet_any _ _ _ _ _ _).mono ?_
  rintro e w3 ⟨rfl, hb3⟩
  have HD1' := Lib.hid (HD1.out.later rdatum_kept rdatum_more hb3)
  have HB3 := Lib.hid (HB2.out.trans (hb3.mono HB2.out.size))
  clear hb3 HD1 HB2
  go_wp2_with fail
  have d2 := data_new (w := w3) (T := 43) (cs := #[.string ⟨#[]⟩, .int .i64 1, .int .i64 60]) [⟨[], 1, 60⟩] 1 rfl rfl (by simp) (by simp)
  have HD2 := Lib.hid d2
  have hb4 : Below w3.heap.size w3 (w3.alloc (.cells #[.string ⟨#[]⟩, .int .i64 1, .int .i64 60] 43)) := (Below.refl _ _).alloc (Nat.le_refl _) _
  have HB4 := Lib.hid hb4
  clear d2 hb4
  generalize w3.alloc (.cells #[.string ⟨#[]⟩, .int .i64 1, .int .i64 60] 43) = w4 at *
  refine (headSet_any _ _ _ _ _ _).mono ?_
  rintro e w5 ⟨rfl, hb5⟩
  have HD1 := Lib.hid ((HD1'.out.later rdatum_kept rdatum_more HB4.out).later rdatum_kept rdatum_more hb5)
  have HD2' := Lib.hid (HD2.out.later rdatum_kept rdatum_more hb5)
  have HB5 := Lib.hid (HB3.out.trans ((HB4.out.trans (hb5.mono HB4.out.size)).mono HB3.out.size))
  clear hb5 HD1' HD2 HB4 HB3
  go_wp2_with fail
  have d3 := data_new (w := w5) (T := 43) (cs := #[.string ⟨#[]⟩, .int .i64 3, .int .i64 0, .string ⟨#[]⟩, .int .i64 7, .int .i64 0]) [⟨[], 3, 0⟩, ⟨[], 7, 0⟩] 2 rfl rfl (by simp) (by simp)
  have HD3 := Lib.hid d3
  have hb6 : Below w5.heap.size w5 (w5.alloc (.cells #[.string ⟨#[]⟩, .int .i64 3, .int .i64 0, .string ⟨#[]⟩, .int .i64 7, .int .i64 0] 43)) := (Below.refl _ _).alloc (Nat.le_refl _) _
  have HB6 := Lib.hid hb6
  clear d3 hb6
  generalize w5.alloc (.cells #[.string ⟨#[]⟩, .int .i64 3, .int .i64 0, .string ⟨#[]⟩, .int .i64 7, .int .i64 0] 43) = w6 at *
  refine (headSet_any _ _ _ _ _ _).mono ?_
  rintro e w7 ⟨rfl, hb7⟩
  have HE1 := Lib.hid ((HD1.out.later rdatum_kept rdatum_more HB6.out).later rdatum_kept rdatum_more hb7)
  have HE2 := Lib.hid ((HD2'.out.later rdatum_kept rdatum_more HB6.out).later rdatum_kept rdatum_more hb7)
  have HE3 := Lib.hid (HD3.out.later rdatum_kept rdatum_more hb7)
  have HB7 := Lib.hid (HB5.out.trans ((HB6.out.trans (hb7.mono HB6.out.size)).mono HB5.out.size))
  clear hb7 HD1 HD2' HD3 HB6 HB5
  go_wp2_with fail
  obtain ⟨w8, hw8⟩ : ∃ w8, w8 = w7.alloc (.cells #[.string ⟨#[120]⟩, .int .i64 2, .int .i64 300, .slice (some ⟨w1.heap.size, 0, none⟩) 1 1, .slice none 0 0, .string ⟨#[120]⟩, .int .i64 4, .int .i64 300, .slice (some ⟨w3.heap.size, 0, none⟩) 1 1, .slice none 0 0, .string ⟨#[98, 46, 120]⟩, .int .i64 1, .int .i64 300, .slice (some ⟨w5.heap.size, 0, none⟩) 2 2, .slice none 0 0] 41) := ⟨_, rfl⟩
  have hb8 : Below w7.heap.size w7 w8 := by rw [hw8]; exact (Below.refl _ _).alloc (Nat.le_refl _) _
  have hs8 : w8.heap.size = w7.heap.size + 1 := by rw [hw8]; simp
  have hn : ∀ W B, SlR RSig 6 W B (.slice none 0 0) [] := fun W B => pslr_none W B
  have hsg : SlR RSigned 5 w8 w8.heap.size (.slice (some ⟨w7.heap.size, 0, none⟩) 3 3) [Np.pexS1, Np.pexS2, Np.pexS3] := by
    have e1 := HE1.out.later rdatum_kept rdatum_more hb8
    have e2 := HE2.out.later rdatum_kept rdatum_more hb8
    have e3 := HE3.out.later rdatum_kept rdatum_more hb8
    rw [hw8] at e1 e2 e3 ⊢
    refine slr_rows_new [[.string ⟨#[120]⟩, .int .i64 2, .int .i64 300, .slice (some ⟨w1.heap.size, 0, none⟩) 1 1, .slice none 0 0], [.string ⟨#[120]⟩, .int .i64 4, .int .i64 300, .slice (some ⟨w3.heap.size, 0, none⟩) 1 1, .slice none 0 0], [.string ⟨#[98, 46, 120]⟩, .int .i64 1, .int .i64 300, .slice (some ⟨w5.heap.size, 0, none⟩) 2 2, .slice none 0 0]] rfl rfl rfl (by simp) (fun i r x hr hx => ?_)
    rcases i with _ | _ | _ | i
    · simp at hr hx; subst hr; subst hx; exact ⟨rfl, ⟨#[120]⟩, _, _, rfl, by decide, e1, hn _ _, rfl⟩
    · simp at hr hx; subst hr; subst hx; exact ⟨rfl, ⟨#[120]⟩, _, _, rfl, by decide, e2, hn _ _, rfl⟩
    · simp at hr hx; subst hr; subst hx; exact ⟨rfl, ⟨#[98, 46, 120]⟩, _, _, rfl, by decide, e3, hn _ _, rfl⟩
    · simp at hr
  have HSG := Lib.hid hsg
  obtain ⟨w9, hw9⟩ : ∃ w9, w9 = w8.alloc (.cells #[.string ⟨#[120]⟩, .slice (some ⟨w7.heap.size, 0, none⟩) 3 3] 32) := ⟨_, rfl⟩
  have hb9 : Below w8.heap.size w8 w9 := by rw [hw9]; exact (Below.refl _ _).alloc (Nat.le_refl _) _
  have z0 : w9.cell? ⟨w7.heap.size + 1, 0, none⟩ = some (.string ⟨#[120]⟩) := by rw [← hs8, hw9, World.cell?_alloc_new]; rfl
  have z1 : w9.cell? ⟨w7.heap.size + 1, 1, none⟩ = some (.slice (some ⟨w7.heap.size, 0, none⟩) 3 3) := by rw [← hs8, hw9, World.cell?_alloc_new]; rfl
  have hs9 : w9.heap.size = w7.heap.size + 2 := by rw [hw9, World.size_alloc, hs8]
  have hb79 : Below w7.heap.size w7 w9 := hb8.trans (hb9.mono hb8.size)
  rw [← hw8, ← hw9]
  have HSG9 := Lib.hid (HSG.out.later rsigned_kept rsigned_more hb9)
  have HB9 := Lib.hid (HB7.out.trans (hb79.mono HB7.out.size))
  have HZ := Lib.hid (And.intro z0 (And.intro z1 hs9))
  clear hw8 hb8 hs8 hn hsg HSG hw9 hb9 z0 z1 hs9 hb79 HE1 HE2 HE3 HB7
  have HW9 := Lib.hid (HB1.out.trans (HB9.out.mono HB1.out.size))
  refine ((HI.out.keep HW9.out).parse ⟨Np.pex2.toArray⟩ (by show Np.pex2.length ≤ _; decide) (x := ([], [⟨20, 9⟩, ⟨3, 28⟩, ⟨2, 42⟩])) (by rw [show (⟨Np.pex2.toArray⟩ : ByteArray).data.toList = Np.pex2 from rfl]; exact Np.parse_ex2)).mono ?_
  rintro e wa ⟨zv2, dv2, rfl, hz2, hd2, hba⟩
  obtain ⟨Az2, cz2, rfl, -, -⟩ := slr_form hz2
  obtain ⟨Ad2, cd2, rfl, -, -⟩ := slr_form hd2
  have HDA := Lib.hid hd2
  have HBA := Lib.hid hba
  clear hz2 hd2 hba
  simp only [List.length_cons, List.length_nil]
  go_wp2_with fail
  have HWA := Lib.hid (HW9.out.trans (HBA.out.mono HW9.out.size))
  refine ((HI.out.keep HWA.out).parse ⟨#[]⟩ (by decide) (x := ([], [])) Np.parse_ex0).mono ?_
  rintro e wb ⟨zv3, dv3, rfl, hz3, hd3, hbb⟩
  obtain ⟨Az3, cz3, rfl, -, -⟩ := slr_form hz3
  obtain ⟨Ad3, cd3, rfl, -, -⟩ := slr_form hd3
  have HDB := Lib.hid (HDA.out.later rdiag_kept rdiag_more hbb)
  have HB9b := Lib.hid (HBA.out.trans (hbb.mono HBA.out.size))
  have HWB := Lib.hid (HWA.out.trans (hbb.mono HWA.out.size))
  clear hz3 hd3 hbb HDA HBA HWA
  have z0 := (HB9b.out.cell (p := ⟨w7.heap.size + 1, 0, none⟩) (by have := HZ.out.2.2; dsimp only; omega)).trans HZ.out.1
  have z1 := (HB9b.out.cell (p := ⟨w7.heap.size + 1, 1, none⟩) (by have := HZ.out.2.2; dsimp only; omega)).trans HZ.out.2.1
  simp only [List.length_nil]
  go_wp2_with fail
  obtain ⟨wc, hwc⟩ : ∃ wc, wc = wb.alloc (.cells #[.string ⟨#[120]⟩, .slice (some ⟨w7.heap.size, 0, none⟩) 3 3] 32) := ⟨_, rfl⟩
  have hbc : Below wb.heap.size wb wc := by rw [hwc]; exact (Below.refl _ _).alloc (Nat.le_refl _) _
  have hzn : SlR RZone 2 wc wc.heap.size (.slice (some ⟨wb.heap.size, 0, none⟩) 1 1) [Np.pexZ] := by
    have e1 := (HSG9.out.later rsigned_kept rsigned_more HB9b.out).later rsigned_kept rsigned_more hbc
    rw [hwc] at e1 ⊢
    refine slr_rows_new [[.string ⟨#[120]⟩, .slice (some ⟨w7.heap.size, 0, none⟩) 3 3]] rfl rfl rfl (by simp) (fun i r x hr hx => ?_)
    rcases i with _ | i
    · simp at hr hx; subst hr; subst hx; exact ⟨rfl, ⟨#[120]⟩, _, rfl, by decide, e1, rfl⟩
    · simp at hr
  rw [← hwc]
  have hz1c := ((HZ1.out.later rzone_kept rzone_more (HB9.out)).later rzone_kept rzone_more HB9b.out).later rzone_kept rzone_more hbc
  have HWC := Lib.hid (HWB.out.trans (hbc.mono HWB.out.size))
  have HDC := Lib.hid (HDB.out.later rdiag_kept rdiag_more hbc)
  refine (sameZones_yes _ _ [Np.pexZ] wc (by simp [Plain0, Np.pexZ, Np.pexS1, Np.pexS2, Np.pexS3]) hz1c hzn).mono ?_
  rintro e wd ⟨rfl, hbd⟩
  have HWD := Lib.hid (HWC.out.trans (hbd.mono HWC.out.size))
  have HDD := Lib.hid (HDC.out.later rdiag_kept rdiag_more hbd)
  clear hwc hbc hzn hz1c hbd z0 z1
  go_wp2_with fail
  have hdn := slr_fresh (W := wd) (t := 55) (n := 3) (R := RDiag) (sz := 2) (xs := [⟨20, 9⟩, ⟨3, 28⟩, ⟨2, 42⟩]) (cs := #[.int .i64 20, .int .i64 9, .int .i64 3, .int .i64 28, .int .i64 2, .int .i64 42]) encG (fun _ _ => rfl) rfl rfl (by simp) (fun _ _ _ _ => rfl)
  have hde := HDD.out.later rdiag_kept rdiag_more ((Below.refl wd.heap.size wd).alloc (Nat.le_refl _) (.cells #[.int .i64 20, .int .i64 9, .int .i64 3, .int .i64 28, .int .i64 2, .int .i64 42] 55))
  refine (sameDiags_yes _ _ [⟨20, 9⟩, ⟨3, 28⟩, ⟨2, 42⟩] _ hde hdn).mono ?_
  rintro e we ⟨rfl, hbe⟩
  have HWE := Lib.hid ((HWD.out.alloc HWD.out.size _).trans (hbe.mono (by simp; have := HWD.out.size; omega)))
  clear hdn hde hbe
  go_wp2_with fail
  go_ret
  exact ⟨rfl, HWE.out⟩
end Go.Proofs.YtnbolgdccdnjeaaGreatDoor
