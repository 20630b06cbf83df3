/- Joined by program from: Par4, Par5, Par6, Par9. No condition. -/
import Derived.Test.YtnbolgdccdnjeaaGreatDoorQA
import Derived.Test.YtnbolgdccdnjeaaGreatDoorKA
import Derived.Laws.StructEq
/- The parser's readers of data: contracts. -/
namespace Go.Proofs.YtnbolgdccdnjeaaGreatDoor
open Go.RowKit
theorem slr_single {α : Type} {R : World → Nat → List Value → α → Prop} {sz : Nat} {w : World} {B b : Nat} {e : List Value} {x : α} (hb : b < B) (hl : e.length = sz) (hc : CellsAt w b 0 e) (hr : R w B e x) : SlR R sz w B (.slice (some ⟨b, 0, none⟩) 1 1) [x] := by
  refine ⟨some ⟨b, 0, none⟩, 1, rfl, by simp, by simp, fun i y hy => ?_⟩
  cases i with
  | zero => simp at hy; subst hy; exact ⟨b, 0, e, rfl, hb, hl, by simpa using hc, hr⟩
  | succ i => simp at hy
theorem pcellsAt_new (w : World) (e : List Value) (t : TypeId) : CellsAt (w.alloc (.cells e.toArray t)) w.heap.size 0 e := fun j v hj => by
  rw [World.cell?_alloc_new]
  simpa using hj
theorem isDatum_is (t : Int) (d : Np.Datum) (s : ByteArray) (hs : s.data.toList = d.text) (hl : s.size ≤ 140737488355328) (b : Bool) (hb : Np.okDatum t d = b) (w : World) (hR : RulesIn w w.heap.size) :
    Calls Tryz.prog 92 #[.int .i64 t, .agg #[.string s, .int .i64 d.n, .int .i64 d.m]] w fun e w' => e = .returned (.bool b) ∧ Below w.heap.size w w' := by
  have hb1 : Below w.heap.size w ((w.alloc (.cells #[.string s, .int .i64 d.n, .int .i64 d.m] 43)).alloc (.cells #[.string s, .int .i64 d.n, .int .i64 d.m] 43)) := ((Below.refl _ w).alloc (Nat.le_refl _) _).alloc (by simp) _
  have HB1 := Lib.hid hb1
  have hd : SlR RDatum 3 ((w.alloc (.cells #[.string s, .int .i64 d.n, .int .i64 d.m] 43)).alloc (.cells #[.string s, .int .i64 d.n, .int .i64 d.m] 43)) ((w.alloc (.cells #[.string s, .int .i64 d.n, .int .i64 d.m] 43)).alloc (.cells #[.string s, .int .i64 d.n, .int .i64 d.m] 43)).heap.size (.slice (some ⟨w.heap.size + 1, 0, none⟩) 1 1) [d] :=
    slr_single (by simp) rfl (by have := pcellsAt_new (w.alloc (.cells #[.string s, .int .i64 d.n, .int .i64 d.m] 43)) [.string s, .int .i64 d.n, .int .i64 d.m] 43; simpa using this) ⟨s, hs, hl, rfl⟩
  have hq := recValid_any ⟨#[46]⟩ (by decide) t 0 _ [d] _ ((hR.keep hb1).more hb1.size) hd
  rw [show Np.validSet ⟨(⟨#[46]⟩ : ByteArray).data.toList, t, 0, [d]⟩ = b from hb] at hq
  have HQ := Lib.hid hq
  clear hb1 hd hq hR hb hs
  go_enter Tryz.func92, Tryz.ntmps92
  go_wp2_with fail
  refine HQ.out.mono ?_
  rintro e w1 ⟨rfl, hb⟩
  have HB := Lib.hid hb
  clear hb
  go_wp2_with fail
  go_ret
  exact ⟨rfl, HB1.out.trans (HB.out.mono HB1.out.size)⟩
def datV (d : Np.Datum) : Value := .agg #[.string (bytesOf d.text), .int .i64 d.n, .int .i64 d.m]
/-- What a reader leaves. -/
def ReadOut {α : Type} (val : α → Value) (pb : Nat) (toks : List Np.Tok) (size : Int) (w : World) (x : Np.Res α) (e : Ending) (w' : World) : Prop :=
  match x with
    | .ok a r' => e = .returned (val a) ∧ MovedTo noX pb toks w r' w'
    | .err er r' => e = .panicked (failV er (Np.posT size r')) ∧ MovedTo noX pb toks w r' w'
theorem read_err {α : Type} {val : α → Value} {pb : Nat} {toks : List Np.Tok} {size : Int} {w w' : World} {x : Np.Res α} {er : Int} {i : Nat} (h : x = .err er (toks.drop i)) (hi : i ≤ toks.length) (hM : Mv noX pb i w w') : ReadOut val pb toks size w x (.panicked (failV er (Np.posT size (toks.drop i)))) w' := by
  subst h; exact ⟨rfl, i, hi, rfl, hM⟩
theorem read_ok {α : Type} {val : α → Value} {pb : Nat} {toks : List Np.Tok} {size : Int} {w w' : World} {x : Np.Res α} {a : α} {v : Value} {i : Nat} (h : x = .ok a (toks.drop i)) (hv : v = val a) (hi : i ≤ toks.length) (hM : Mv noX pb i w w') : ReadOut val pb toks size w x (.returned v) w' := by
  subst h hv; exact ⟨rfl, i, hi, rfl, hM⟩
set_option maxHeartbeats 2000000 in
theorem numberOf_any (pb : Nat) (tv : Value) (toks : List Np.Tok) (size : Int) (i : Nat) (t : Int) (mk : Int → Np.Datum) (f : FuncId) (cap : Array Value) (w : World) (hP : PIn w pb tv toks size i)
    (hf : ∀ n w', Below w.heap.size w w' → Calls Tryz.prog f (#[.int .i64 n] ++ cap) w' fun e w'' => e = .returned (.agg #[.string ⟨#[]⟩, .int .i64 (mk n).n, .int .i64 (mk n).m]) ∧ Below w'.heap.size w' w'') (hm : ∀ n, (mk n).text = []) (eg : ∀ args w, (callFunc f args).run Tryz.prog w = .ok (.enter f args) w) :
    Calls Tryz.prog 84 #[.pointer (some ⟨pb, 0, none⟩), .int .i64 t, .func (.func f) #[] cap] w (ReadOut (fun n => .int .i64 n) pb toks size w (Np.numR t mk (toks.drop i))) := by
  have hpb := hP.lt
  have HP := Lib.hid hP
  have HF := Lib.hid hf
  have HMK := Lib.hid hm
  clear hP hf hm
  go_enter Tryz.func84, Tryz.ntmps84
  go_wp2_with fail
  by_cases hn : Np.isNum (toks.drop i) = true
  case neg =>
    have hn : Np.isNum (toks.drop i) = false := by simpa using hn
    have HN := Lib.hid hn
    clear hn
    refine (number_no pb tv toks size i _ HP.out HN.out).mono ?_
    rintro e w1 ⟨rfl, hb⟩
    have HB := Lib.hid hb
    clear hb
    go_wp2_with fail
    exact ⟨rfl, read_err (i := i) (by unfold Np.numR; rw [HN.out]; rfl) HP.out.le (Mv.of_below HB.out HP.out.c1)⟩
  case pos =>
    have hlt : i + 1 ≤ toks.length := by have := Np.isNum_ne hn; simp at this; omega
    have HN := Lib.hid hn
    clear hn
    refine (number_yes pb tv toks size i _ HP.out HN.out).mono ?_
    rintro e w1 ⟨rfl, hb⟩
    have HB := Lib.hid hb
    clear hb
    obtain ⟨n, hnn⟩ : ∃ n, n = (Np.peekT (toks.drop i)).n := ⟨_, rfl⟩
    rw [← hnn]
    have HNN := Lib.hid hnn
    clear hnn
    go_wp2_with fail
    refine (HF.out n w1 HB.out).mono ?_
    rintro e w2 ⟨rfl, hb2⟩
    have HB2 := Lib.hid (HB.out.trans (hb2.mono HB.out.size))
    clear hb2
    go_wp2_with fail
    have HRU := Lib.hid (show RulesIn w2 w2.heap.size from (HP.out.ru.keep (HB2.out.mono (by omega))).more (by have := HB2.out.size; omega))
    by_cases hd : Np.okDatum t (mk n) = true
    case neg =>
      have hd : Np.okDatum t (mk n) = false := by simpa using hd
      have HD := Lib.hid hd
      clear hd
      refine (isDatum_is t (mk n) ⟨#[]⟩ (HMK.out n).symm (by decide) false HD.out w2 HRU.out).mono ?_
      rintro e w3 ⟨rfl, hb3⟩
      have HB3 := Lib.hid (HB2.out.trans (hb3.mono HB2.out.size))
      clear hb3
      go_wp2_with fail
      refine (check_yes pb tv toks size i 3 _ (HP.out.keep HB3.out hpb)).mono ?_
      rintro e w4 ⟨rfl, hb4⟩
      have HB4 := Lib.hid (HB3.out.trans (hb4.mono HB3.out.size))
      clear hb4
      go_wp2_with fail
      exact ⟨rfl, read_err (i := i) (by unfold Np.numR; rw [HN.out, ← HNN.out, HD.out]; rfl) HP.out.le (Mv.of_below HB4.out HP.out.c1)⟩
    case pos =>
      have HD := Lib.hid hd
      clear hd
      refine (isDatum_is t (mk n) ⟨#[]⟩ (HMK.out n).symm (by decide) true HD.out w2 HRU.out).mono ?_
      rintro e w3 ⟨rfl, hb3⟩
      have HB3 := Lib.hid (HB2.out.trans (hb3.mono HB2.out.size))
      clear hb3
      go_wp2_with fail
      refine (check_no _ _ _).mono ?_
      rintro e w4 ⟨rfl, rfl⟩
      have c1 := (HB3.out.cell (p := ⟨pb, 1, none⟩) hpb).trans HP.out.c1
      have fz := (HB3.out.frozen (p := ⟨pb, 1, none⟩) hpb).trans HP.out.fz
      have hfew := HP.out.few
      go_wp2_with fail
      go_ret
      exact read_ok (i := i + 1) (by unfold Np.numR; rw [HN.out, ← HNN.out, HD.out, List.tail_drop]; rfl) rfl hlt (Mv.set HB3.out)
theorem mk1_any (n : Int) (w : World) : Calls Tryz.prog 85 #[.int .i64 n] w fun e w'' => e = .returned (.agg #[.string ⟨#[]⟩, .int .i64 n, .int .i64 0]) ∧ Below w.heap.size w w'' := by
  go_enter Tryz.func85, Tryz.ntmps85
  go_wp2_with fail
  exact bodyPost_ret (v := .agg #[.string ⟨#[]⟩, .int .i64 n, .int .i64 0]) (by simp [results, Tryz.results85, go_sem]) rfl ⟨rfl, (Below.refl _ _).alloc (Nat.le_refl _) _⟩
theorem mk2_any (n u : Int) (ub : Nat) (w : World) (hc : w.cell? ⟨ub, 0, none⟩ = some (.int .i64 u)) : Calls Tryz.prog 95 #[.int .i64 n, .pointer (some ⟨ub, 0, none⟩)] w fun e w'' => e = .returned (.agg #[.string ⟨#[]⟩, .int .i64 n, .int .i64 u]) ∧ Below w.heap.size w w'' := by
  have hl : ub < w.heap.size := World.block_lt_of_cell? w ⟨ub, 0, none⟩ hc
  go_enter Tryz.func95, Tryz.ntmps95
  go_wp2_with fail
  exact bodyPost_ret (v := .agg #[.string ⟨#[]⟩, .int .i64 n, .int .i64 u]) (by simp [results, Tryz.results95, go_sem]) rfl ⟨rfl, (Below.refl _ _).alloc (Nat.le_refl _) _⟩
theorem mk3_any (m u : Int) (ub : Nat) (w : World) (hc : w.cell? ⟨ub, 0, none⟩ = some (.int .i64 u)) : Calls Tryz.prog 96 #[.int .i64 m, .pointer (some ⟨ub, 0, none⟩)] w fun e w'' => e = .returned (.agg #[.string ⟨#[]⟩, .int .i64 u, .int .i64 m]) ∧ Below w.heap.size w w'' := by
  have hl : ub < w.heap.size := World.block_lt_of_cell? w ⟨ub, 0, none⟩ hc
  go_enter Tryz.func96, Tryz.ntmps96
  go_wp2_with fail
  exact bodyPost_ret (v := .agg #[.string ⟨#[]⟩, .int .i64 u, .int .i64 m]) (by simp [results, Tryz.results96, go_sem]) rfl ⟨rfl, (Below.refl _ _).alloc (Nat.le_refl _) _⟩
theorem MovedTo.after {X : Nat → Prop} {pb : Nat} {toks : List Np.Tok} {w w1 w2 : World} {r' : List Np.Tok} (h : Below w.heap.size w w1) (h' : MovedTo X pb toks w1 r' w2) : MovedTo X pb toks w r' w2 := by
  obtain ⟨i, h1, h2, h3⟩ := h'
  exact ⟨i, h1, h2, Mv.after h h3⟩
/-- The block of a result, behind a reader. -/
theorem res_cells {pb i : Nat} {w w1 : World} {T : TypeId} (h : Mv noX pb i (w.alloc (.cells #[.string ⟨#[]⟩, .int .i64 0, .int .i64 0] T)) w1) (hpb : pb < w.heap.size) :
    w.heap.size < w1.heap.size ∧ w1.cell? ⟨w.heap.size, 0, none⟩ = some (.string ⟨#[]⟩) ∧ w1.cell? ⟨w.heap.size, 1, none⟩ = some (.int .i64 0) ∧ w1.cell? ⟨w.heap.size, 2, none⟩ = some (.int .i64 0) ∧ ∀ j, w1.frozen? ⟨w.heap.size, j, none⟩ = false := by
  have hsz := h.os
  have q0 := (h.cell (p := ⟨w.heap.size, 0, none⟩) (by simp) (noX_not _) (by dsimp only; omega)).trans (World.cell?_alloc_new w _ _ _)
  have q1 := (h.cell (p := ⟨w.heap.size, 1, none⟩) (by simp) (noX_not _) (by dsimp only; omega)).trans (World.cell?_alloc_new w _ _ _)
  have q2 := (h.cell (p := ⟨w.heap.size, 2, none⟩) (by simp) (noX_not _) (by dsimp only; omega)).trans (World.cell?_alloc_new w _ _ _)
  exact ⟨by simp at hsz; omega, q0, q1, q2, fun j => (h.frozen (p := ⟨w.heap.size, j, none⟩) (by simp) (noX_not _)).trans (by simp [go_sem])⟩
set_option maxHeartbeats 2000000 in
/-- An address. -/
theorem addr_any (pb bx : Nat) (tv : Value) (toks : List Np.Tok) (size : Int) (i : Nat) (w : World) (hP : PIn w pb tv toks size i) (hx : w.cell? ⟨bx, 0, none⟩ = some (.pointer (some ⟨pb, 0, none⟩))) :
    Calls Tryz.prog 83 #[.pointer (some ⟨bx, 0, none⟩)] w (ReadOut datV pb toks size w (Np.addrR (toks.drop i))) := by
  have hl : bx < w.heap.size := World.block_lt_of_cell? w ⟨bx, 0, none⟩ hx
  have hpb := hP.lt
  have HP := Lib.hid hP
  have eg : ∀ args w, (callFunc 85 args).run Tryz.prog w = .ok (.enter 85 args) w := fun args w => by simp [go_sem]
  clear hP
  go_enter Tryz.func83, Tryz.ntmps83
  go_wp2_with fail
  have hal : Below w.heap.size w (w.alloc (.cells #[.string ⟨#[]⟩, .int .i64 0, .int .i64 0] 43)) := (Below.refl _ _).alloc (Nat.le_refl _) _
  have HAL := Lib.hid hal
  refine (numberOf_any pb tv toks size i 1 (fun n => ⟨[], n, 0⟩) 85 #[] _ (HP.out.keep hal hpb) (fun n w' _ => mk1_any n w') (fun n => rfl) eg).mono ?_
  intro e w1 ho
  have HO := Lib.hid ho
  clear ho hal
  cases hr : Np.numR 1 (fun n => ⟨[], n, 0⟩) (toks.drop i) with
  | err er r' =>
    have h := HO.out
    rw [hr] at h
    obtain ⟨rfl, hm⟩ := h
    have HM := Lib.hid hm
    have HR := Lib.hid hr
    clear hm hr
    go_wp2_with fail
    refine ⟨rfl, ?_⟩
    unfold Np.addrR
    rw [HR.out]
    exact ⟨rfl, HM.out.after HAL.out⟩
  | ok n r' =>
    have h := HO.out
    rw [hr] at h
    obtain ⟨rfl, hm⟩ := h
    have HM := Lib.hid hm
    have HR := Lib.hid hr
    clear hm hr
    obtain ⟨i', hi', hd', hm'⟩ := HM.out
    have hsz := hm'.os
    have hs1 : w.heap.size < w1.heap.size := by simp at hsz; omega
    have q0 := (hm'.cell (p := ⟨w.heap.size, 0, none⟩) (by simp) (noX_not _) (by dsimp only; omega)).trans (World.cell?_alloc_new w _ _ _)
    have q1 := (hm'.cell (p := ⟨w.heap.size, 1, none⟩) (by simp) (noX_not _) (by dsimp only; omega)).trans (World.cell?_alloc_new w _ _ _)
    have q2 := (hm'.cell (p := ⟨w.heap.size, 2, none⟩) (by simp) (noX_not _) (by dsimp only; omega)).trans (World.cell?_alloc_new w _ _ _)
    simp only [List.getElem?_toArray, List.getElem?_cons_zero, List.getElem?_cons_succ] at q0 q1 q2
    have f0 : ∀ j, w1.frozen? ⟨w.heap.size, j, none⟩ = false := fun j => (hm'.frozen (p := ⟨w.heap.size, j, none⟩) (by simp) (noX_not _)).trans (by simp [go_sem])
    have HM' := Lib.hid (Mv.after HAL.out hm')
    have HI' := Lib.hid hi'
    have HD' := Lib.hid hd'
    clear hm' hi' hd' hsz
    go_wp2_with fail
    refine bodyPost_ret (v := datV ⟨[], n, 0⟩) ?_ rfl ?_
    · simp [results, Tryz.results83, go_sem, datV, bytesOf, q0, q1, q2]
    · unfold Np.addrR
      rw [HR.out]
      exact ⟨rfl, i', HI'.out, HD'.out, ((HM'.out.setNew (Nat.le_refl _) _).setNew (Nat.le_refl _) _).setNew (Nat.le_refl _) _⟩
set_option maxRecDepth 100000 in
set_option maxHeartbeats 4000000 in
/-- A host. -/
theorem host_any (pb bx : Nat) (tv : Value) (toks : List Np.Tok) (size : Int) (i : Nat) (w : World) (hP : PIn w pb tv toks size i) (hx : w.cell? ⟨bx, 0, none⟩ = some (.pointer (some ⟨pb, 0, none⟩))) :
    Calls Tryz.prog 86 #[.pointer (some ⟨bx, 0, none⟩)] w (ReadOut datV pb toks size w (Np.hostR (toks.drop i))) := by
  have hl : bx < w.heap.size := World.block_lt_of_cell? w ⟨bx, 0, none⟩ hx
  have hpb := hP.lt
  have HP := Lib.hid hP
  clear hP
  go_enter Tryz.func86, Tryz.ntmps86
  go_wp2_with fail
  have hal : Below w.heap.size w (w.alloc (.cells #[.string ⟨#[]⟩, .int .i64 0, .int .i64 0] 43)) := (Below.refl _ _).alloc (Nat.le_refl _) _
  have HAL := Lib.hid hal
  have HPA := Lib.hid (HP.out.keep hal hpb)
  by_cases ha : Np.isAny (toks.drop i) = true
  case neg =>
    have ha : Np.isAny (toks.drop i) = false := by simpa using ha
    have HA := Lib.hid ha
    clear ha hal
    refine (anyWord_no pb tv toks size i _ HPA.out HA.out).mono ?_
    rintro e w3 ⟨rfl, hb3⟩
    have HB3 := Lib.hid (HAL.out.trans (hb3.mono HAL.out.size))
    clear hb3
    go_wp2_with fail
    exact ⟨rfl, read_err (i := i) (by unfold Np.hostR; rw [HA.out]; rfl) HP.out.le (Mv.of_below HB3.out HP.out.c1)⟩
  case pos =>
    have hlt : i + 1 ≤ toks.length := by have := Np.isAny_ne ha; simp at this; omega
    have HA := Lib.hid ha
    clear ha hal
    refine (anyWord_yes pb tv toks size i _ HPA.out HA.out).mono ?_
    rintro e w3 ⟨rfl, hb3⟩
    have HB3 := Lib.hid hb3
    have k3 := (hb3.cell (p := ⟨bx, 0, none⟩) (by simp; omega)).trans ((HAL.out.cell (p := ⟨bx, 0, none⟩) hl).trans hx)
    have hs3 : w.heap.size < w3.heap.size := by have := hb3.size; simp at this; omega
    have hx6 := (HP.out.tok i).2.1
    obtain ⟨x, hxx⟩ : ∃ x, x = (Np.peekT (toks.drop i)).text := ⟨_, rfl⟩
    rw [← hxx]
    rw [← hxx] at hx6
    have HXX := Lib.hid hxx
    clear hb3 hxx hx
    go_wp2_with fail
    have HCV : Hid (∀ b, Np.validName x = b → ∀ g : Grow w3, Calls Tryz.prog 24 #[.string (bytesOf x)] g.w fun e w' => e = .returned (.bool b) ∧ Below g.w.heap.size g.w w') := fun b hb g => nameValid_is x hx6 b hb g.w
    have HCW : Hid (∀ b, Np.isWild x = b → ∀ g : Grow w3, Calls Tryz.prog 89 #[.string (bytesOf x)] g.w fun e w' => e = .returned (.bool b) ∧ g.w = w') := fun b hb g => isWildcardP_is x hx6 b hb g.w
    have hbx3 : bx < w3.heap.size := by omega
    have kg : ∀ g : Grow w3, g.w.cell? ⟨bx, 0, none⟩ = some (.pointer (some ⟨pb, 0, none⟩)) := fun g => (g.cell ⟨bx, 0, none⟩ hbx3).trans k3
    by_cases hv : Np.validName x = true
    case neg =>
      have hv : Np.validName x = false := by simpa using hv
      have HV := Lib.hid hv
      clear hv
      refine wp_region_grow_tail 8 (by kernel_rfl) (by kernel_rfl) ?_
      simp only [List.take_succ_cons, List.take_zero, List.drop_succ_cons, List.drop_zero]
      repeat (go_big_quiet_step (fail))
      go_big_quiet_step ((go_at_call 24; exact Calls.grow_of (HCV.out _ HV.out _)))
      repeat (go_big_quiet_step (fail))
      refine wpQuiet_nil ?_
      rintro _ ⟨g, rfl⟩
      go_wp2_with fail
      have HG := Lib.hid g.below
      refine (check_yes pb tv toks size i 11 _ (HPA.out.keep (HB3.out.trans (HG.out.mono HB3.out.size)) (by simp; omega))).mono ?_
      rintro e w5 ⟨rfl, hb5⟩
      have HB5 := Lib.hid (HG.out.trans (hb5.mono HG.out.size))
      clear hb5
      go_wp2_with fail
      exact ⟨rfl, read_err (i := i) (by unfold Np.hostR; rw [HA.out, ← HXX.out, HV.out]; rfl) HP.out.le (Mv.of_below (HAL.out.trans ((HB3.out.trans (HB5.out.mono HB3.out.size)).mono HAL.out.size)) HP.out.c1)⟩
    case pos =>
      have HV := Lib.hid hv
      clear hv
      by_cases hw : Np.isWild x = true
      case pos =>
        have HW := Lib.hid hw
        clear hw
        refine wp_region_grow_tail 8 (by kernel_rfl) (by kernel_rfl) ?_
        simp only [List.take_succ_cons, List.take_zero, List.drop_succ_cons, List.drop_zero]
        repeat (go_big_quiet_step (fail))
        go_big_quiet_step ((go_at_call 24; exact Calls.grow_of (HCV.out _ HV.out _)))
        repeat (go_big_quiet_step (fail))
        go_big_quiet_step ((go_at_call 89; exact Calls.grow_same (HCW.out _ HW.out _)))
        repeat (go_big_quiet_step (fail))
        refine wpQuiet_nil ?_
        rintro _ ⟨g, rfl⟩
        go_wp2_with fail
        have HG := Lib.hid g.below
        refine (check_yes pb tv toks size i 11 _ (HPA.out.keep (HB3.out.trans (HG.out.mono HB3.out.size)) (by simp; omega))).mono ?_
        rintro e w5 ⟨rfl, hb5⟩
        have HB5 := Lib.hid (HG.out.trans (hb5.mono HG.out.size))
        clear hb5
        go_wp2_with fail
        exact ⟨rfl, read_err (i := i) (by unfold Np.hostR; rw [HA.out, ← HXX.out, HV.out, HW.out]; rfl) HP.out.le (Mv.of_below (HAL.out.trans ((HB3.out.trans (HB5.out.mono HB3.out.size)).mono HAL.out.size)) HP.out.c1)⟩
      case neg =>
        have hw : Np.isWild x = false := by simpa using hw
        have HW := Lib.hid hw
        clear hw
        refine wp_region_grow_tail 8 (by kernel_rfl) (by kernel_rfl) ?_
        simp only [List.take_succ_cons, List.take_zero, List.drop_succ_cons, List.drop_zero]
        repeat (go_big_quiet_step (fail))
        go_big_quiet_step ((go_at_call 24; exact Calls.grow_of (HCV.out _ HV.out _)))
        repeat (go_big_quiet_step (fail))
        go_big_quiet_step ((go_at_call 89; exact Calls.grow_same (HCW.out _ HW.out _)))
        repeat (go_big_quiet_step (fail))
        refine wpQuiet_nil ?_
        rintro _ ⟨g, rfl⟩
        go_wp2_with fail
        refine (check_no _ _ _).mono ?_
        rintro e w5 ⟨rfl, rfl⟩
        have hgb : Below w3.heap.size w3 g.w := g.below
        have HG := Lib.hid hgb
        have c1 := (hgb.cell (p := ⟨pb, 1, none⟩) (by dsimp only; omega)).trans ((HB3.out.cell (p := ⟨pb, 1, none⟩) (by simp; omega)).trans HPA.out.c1)
        have fz := (hgb.frozen (p := ⟨pb, 1, none⟩) (by dsimp only; omega)).trans ((HB3.out.frozen (p := ⟨pb, 1, none⟩) (by simp; omega)).trans HPA.out.fz)
        have hm : Mv noX pb i (w.alloc (.cells #[.string ⟨#[]⟩, .int .i64 0, .int .i64 0] 43)) g.w := Mv.of_below (HB3.out.trans (hgb.mono HB3.out.size)) HPA.out.c1
        obtain ⟨hs1, q0, q1, q2, f0⟩ := res_cells hm hpb
        have hk := kg g
        have hfew := HP.out.few
        have hne : ¬ w.heap.size = pb := by omega
        have HM := Lib.hid (Mv.after HAL.out hm)
        clear hm hgb
        generalize g.w = w6 at *
        go_wp2_with fail
        refine bodyPost_ret (v := datV ⟨x, 0, 0⟩) ?_ rfl ?_
        · simp [results, Tryz.results86, go_sem, datV, q0, q1, q2]
        · have hr : Np.hostR (toks.drop i) = .ok ⟨x, 0, 0⟩ (toks.drop (i + 1)) := by unfold Np.hostR; rw [HA.out, ← HXX.out, HV.out, HW.out, List.tail_drop]; rfl
          rw [hr]
          exact ⟨rfl, i + 1, hlt, rfl, ((((HM.out.trans (Mv.set (Below.refl _ _))).setNew (Nat.le_refl _) _).setNew (Nat.le_refl _) _).setNew (Nat.le_refl _) _)⟩
end Go.Proofs.YtnbolgdccdnjeaaGreatDoor
/- The parser's readers of texts and of pairs: contracts. -/
namespace Go.Proofs.YtnbolgdccdnjeaaGreatDoor
open Go.RowKit
theorem peek0_is (pb : Nat) (tv : Value) (toks : List Np.Tok) (size : Int) (i : Nat) (w : World) (hP : PIn w pb tv toks size i) (t : Np.Tok) (ht : Np.peekT (toks.drop i) = t) :
    Calls Tryz.prog 91 #[.pointer (some ⟨pb, 0, none⟩), .int .i64 0] w fun e w' => e = .returned (.agg #[.int .i64 t.kind, .string (bytesOf t.text), .int .i64 t.n, .int .i64 t.pos]) ∧ Below w.heap.size w w' := by
  have := peek0 pb tv toks size i w hP
  rw [ht] at this
  exact this
theorem tokField0 (k : Int) (s : ByteArray) (n p : Int) (w : World) : (Instr.field 66 (.agg #[.int .i64 k, .string s, .int .i64 n, .int .i64 p]) 0).run Tryz.prog w = .ok (.int .i64 k) w := by kernel_rfl
theorem tokField1 (k : Int) (s : ByteArray) (n p : Int) (w : World) : (Instr.field 66 (.agg #[.int .i64 k, .string s, .int .i64 n, .int .i64 p]) 1).run Tryz.prog w = .ok (.string s) w := by kernel_rfl
set_option maxRecDepth 100000 in
set_option maxHeartbeats 4000000 in
/-- A text. -/
theorem text_any (pb bx : Nat) (tv : Value) (toks : List Np.Tok) (size : Int) (i : Nat) (w : World) (hP : PIn w pb tv toks size i) (hx : w.cell? ⟨bx, 0, none⟩ = some (.pointer (some ⟨pb, 0, none⟩))) (hT : Np.isTxt (toks.drop i) = true) :
    Calls Tryz.prog 90 #[.pointer (some ⟨bx, 0, none⟩)] w (ReadOut datV pb toks size w (Np.textR (toks.drop i))) := by
  have hl : bx < w.heap.size := World.block_lt_of_cell? w ⟨bx, 0, none⟩ hx
  have hpb := hP.lt
  have HP := Lib.hid hP
  have hlt : i + 1 ≤ toks.length := by have := Np.isTxt_ne hT; simp at this; omega
  have hok := hP.tok i
  obtain ⟨t, ht⟩ : ∃ t, Np.peekT (toks.drop i) = t := ⟨_, rfl⟩
  unfold Np.isTxt at hT
  rw [ht] at hT hok
  rw [Bool.and_eq_true] at hT
  have h2 := hok.2.2.2.2 (by simpa using hT.2)
  have h60 := hok.2.1
  obtain ⟨s, hs⟩ : ∃ s, s = bytesOf t.text := ⟨_, rfl⟩
  have hsz : s.size = t.text.length := by rw [hs, ← size_list]; simp [bytesOf]
  have hin : (s.extract 1 (s.size - 1)).data.toList = Np.innerT t.text := by
    rw [ext_list, hsz, hs]
    simp only [bytesOf, Np.innerT]
    rw [List.drop_take]
    congr 1
  have HIN := Lib.hid hin
  have HT := Lib.hid ht
  have HS := Lib.hid hs
  have hsz2 : 2 ≤ s.size := by omega
  have hsz6 : s.size ≤ 60 := by omega
  have hb1 : (1 : Int) ≤ (s.size : Int) - 1 := by omega
  have hb2 : (s.size : Int) - 1 ≤ (s.size : Int) := by omega
  have hb3 : ((s.size : Int) - 1).toNat = s.size - 1 := by omega
  have hqx := fun W (h : PIn W pb tv toks size i) => peek0_is pb tv toks size i W h t ht
  rw [← hs] at hqx
  have HQX := Lib.hid hqx
  clear hP hin ht hs hT hok hqx hsz h2 h60
  go_enter Tryz.func90, Tryz.ntmps90
  go_wp2_with fail
  have hal : Below w.heap.size w (w.alloc (.cells #[.string ⟨#[]⟩, .int .i64 0, .int .i64 0] 43)) := (Below.refl _ _).alloc (Nat.le_refl _) _
  have HAL := Lib.hid hal
  have HPA := Lib.hid (HP.out.keep hal hpb)
  clear hal
  refine (HQX.out _ HPA.out).mono ?_
  rintro e w3 ⟨rfl, hb3'⟩
  have HB3 := Lib.hid hb3'
  have k3 := (hb3'.cell (p := ⟨bx, 0, none⟩) (by simp; omega)).trans ((HAL.out.cell (p := ⟨bx, 0, none⟩) hl).trans hx)
  have hs3 : w.heap.size < w3.heap.size := by have := hb3'.size; simp at this; omega
  clear hb3' hx
  have hf1 := tokField1 t.kind s t.n t.pos
  go_wp2_with fail
  generalize hu : ByteArray.extract s 1 (s.size - 1) = u at HIN ⊢
  have hul : u.size ≤ 140737488355328 := by rw [← hu]; simp only [ByteArray.size_extract]; omega
  clear hu
  have hb4 : Below w3.heap.size w3 (w3.alloc (.cells #[.string u, .int .i64 0, .int .i64 0] 43)) := (Below.refl _ _).alloc (Nat.le_refl _) _
  have hz4 : w3.heap.size < (w3.alloc (.cells #[.string u, .int .i64 0, .int .i64 0] 43)).heap.size := by simp
  have k4 := (hb4.cell (p := ⟨bx, 0, none⟩) (by dsimp only; omega)).trans k3
  have d0 := World.cell?_alloc_new w3 (#[.string u, .int .i64 0, .int .i64 0]) 43 0
  have d1 := World.cell?_alloc_new w3 (#[.string u, .int .i64 0, .int .i64 0]) 43 1
  have d2 := World.cell?_alloc_new w3 (#[.string u, .int .i64 0, .int .i64 0]) 43 2
  generalize hw4 : w3.alloc (.cells #[.string u, .int .i64 0, .int .i64 0] 43) = w4 at *
  clear hw4
  have HB4 := Lib.hid hb4
  clear hb4
  have kg : ∀ g : Grow w4, g.w.cell? ⟨bx, 0, none⟩ = some (.pointer (some ⟨pb, 0, none⟩)) := fun g => (g.cell ⟨bx, 0, none⟩ (by dsimp only; omega)).trans k4
  have dg0 : ∀ g : Grow w4, g.w.cell? ⟨w3.heap.size, 0, none⟩ = some (.string u) := fun g => (g.cell ⟨w3.heap.size, 0, none⟩ hz4).trans d0
  have dg1 : ∀ g : Grow w4, g.w.cell? ⟨w3.heap.size, 1, none⟩ = some (.int .i64 0) := fun g => (g.cell ⟨w3.heap.size, 1, none⟩ hz4).trans d1
  have dg2 : ∀ g : Grow w4, g.w.cell? ⟨w3.heap.size, 2, none⟩ = some (.int .i64 0) := fun g => (g.cell ⟨w3.heap.size, 2, none⟩ hz4).trans d2
  have HRU := Lib.hid (show RulesIn w4 w4.heap.size from ((HPA.out.ru.keep (HB3.out.mono (by simp; omega))).keep (HB4.out.mono (by omega))).more (by omega))
  have HCD : Hid (∀ b, Np.okDatum 5 ⟨Np.innerT t.text, 0, 0⟩ = b → ∀ g : Grow w4, Calls Tryz.prog 92 #[.int .i64 5, .agg #[.string u, .int .i64 0, .int .i64 0]] g.w fun e w' => e = .returned (.bool b) ∧ Below g.w.heap.size g.w w') := fun b hb g => isDatum_is 5 ⟨Np.innerT t.text, 0, 0⟩ u HIN.out hul b hb g.w ((HRU.out.keep g.below).more g.size)
  have HB34 := Lib.hid (HAL.out.trans ((HB3.out.trans (HB4.out.mono HB3.out.size)).mono HAL.out.size))
  have hz34 : w.heap.size < w4.heap.size := by omega
  by_cases hd : Np.okDatum 5 ⟨Np.innerT t.text, 0, 0⟩ = true
  case neg =>
    have hd : Np.okDatum 5 ⟨Np.innerT t.text, 0, 0⟩ = false := by simpa using hd
    have HD := Lib.hid hd
    clear hd
    refine wp_region_grow_tail 4 (by kernel_rfl) (by kernel_rfl) ?_
    simp only [List.take_succ_cons, List.take_zero, List.drop_succ_cons, List.drop_zero]
    repeat (go_big_quiet_step (fail))
    go_big_quiet_step ((go_at_call 92; exact Calls.grow_of (HCD.out _ HD.out _)))
    repeat (go_big_quiet_step (fail))
    refine wpQuiet_nil ?_
    rintro _ ⟨g, rfl⟩
    go_wp2_with fail
    have HG := Lib.hid (HB34.out.trans (g.below.mono HB34.out.size))
    refine (check_yes pb tv toks size i 3 _ (HP.out.keep HG.out hpb)).mono ?_
    rintro e w5 ⟨rfl, hb5⟩
    have HB5 := Lib.hid (HG.out.trans (hb5.mono HG.out.size))
    clear hb5
    go_wp2_with fail
    exact ⟨rfl, read_err (i := i) (by unfold Np.textR; rw [HT.out, HD.out]; rfl) HP.out.le (Mv.of_below HB5.out HP.out.c1)⟩
  case pos =>
    have HD := Lib.hid hd
    clear hd
    refine wp_region_grow_tail 4 (by kernel_rfl) (by kernel_rfl) ?_
    simp only [List.take_succ_cons, List.take_zero, List.drop_succ_cons, List.drop_zero]
    repeat (go_big_quiet_step (fail))
    go_big_quiet_step ((go_at_call 92; exact Calls.grow_of (HCD.out _ HD.out _)))
    repeat (go_big_quiet_step (fail))
    refine wpQuiet_nil ?_
    rintro _ ⟨g, rfl⟩
    go_wp2_with fail
    refine (check_no _ _ _).mono ?_
    rintro e w5 ⟨rfl, rfl⟩
    have hgb : Below w4.heap.size w4 g.w := g.below
    have hm : Mv noX pb i (w.alloc (.cells #[.string ⟨#[]⟩, .int .i64 0, .int .i64 0] 43)) g.w := Mv.of_below ((HB3.out.trans (HB4.out.mono HB3.out.size)).trans (hgb.mono (HB3.out.trans (HB4.out.mono HB3.out.size)).size)) HPA.out.c1
    obtain ⟨hs1, q0, q1, q2, f0⟩ := res_cells hm hpb
    have hk := kg g
    have e0 := dg0 g
    have e1 := dg1 g
    have e2 := dg2 g
    have c1 := hm.next (noX_not _) HPA.out.c1
    have fz := (hm.frozen (p := ⟨pb, 1, none⟩) (by simp; omega) (noX_not _)).trans HPA.out.fz
    have hfew := HP.out.few
    have hne : ¬ w.heap.size = pb := by omega
    have hne2 : ¬ w3.heap.size = pb := by omega
    have hne3 : ¬ w3.heap.size = w.heap.size := by omega
    have HM := Lib.hid (Mv.after HAL.out hm)
    clear hm hgb kg dg0 dg1 dg2
    generalize g.w = w6 at *
    go_wp2_with fail
    refine bodyPost_ret (v := datV ⟨Np.innerT t.text, 0, 0⟩) ?_ rfl ?_
    · have hub : u = bytesOf (Np.innerT t.text) := str_ext (by rw [HIN.out]; simp [bytesOf])
      simp [results, Tryz.results90, go_sem, datV, q0, q1, q2, hub]
    · have hr : Np.textR (toks.drop i) = .ok ⟨Np.innerT t.text, 0, 0⟩ (toks.drop (i + 1)) := by unfold Np.textR; rw [HT.out, HD.out, List.tail_drop]; rfl
      rw [hr]
      exact ⟨rfl, i + 1, hlt, rfl, ((((HM.out.trans (Mv.set (Below.refl _ _))).setNew (Nat.le_refl _) _).setNew (Nat.le_refl _) _).setNew (Nat.le_refl _) _)⟩
theorem Mv.box {X : Nat → Prop} {pb i bx : Nat} {w w' : World} {v : Value} (h : Mv X pb i w w') (hc : w.cell? ⟨bx, 0, none⟩ = some v) (hx : ¬ X bx) (hb : bx ≠ pb) : w'.cell? ⟨bx, 0, none⟩ = some v :=
  (h.cell (p := ⟨bx, 0, none⟩) (World.block_lt_of_cell? w ⟨bx, 0, none⟩ hc) hx hb).trans hc
set_option maxHeartbeats 4000000 in
/-- A pair of numbers. -/
theorem pair_any (pb bx tb ub : Nat) (t u : Int) (tv : Value) (toks : List Np.Tok) (size : Int) (i : Nat) (w : World) (hP : PIn w pb tv toks size i) (hx : w.cell? ⟨bx, 0, none⟩ = some (.pointer (some ⟨pb, 0, none⟩)))
    (ht : w.cell? ⟨tb, 0, none⟩ = some (.int .i64 t)) (hu : w.cell? ⟨ub, 0, none⟩ = some (.int .i64 u)) (hbp : bx ≠ pb) (htp : tb ≠ pb) (hup : ub ≠ pb) :
    Calls Tryz.prog 94 #[.pointer (some ⟨bx, 0, none⟩), .pointer (some ⟨tb, 0, none⟩), .pointer (some ⟨ub, 0, none⟩)] w (ReadOut datV pb toks size w (Np.pairR t u (toks.drop i))) := by
  have hl : bx < w.heap.size := World.block_lt_of_cell? w ⟨bx, 0, none⟩ hx
  have hlt : tb < w.heap.size := World.block_lt_of_cell? w ⟨tb, 0, none⟩ ht
  have hlu : ub < w.heap.size := World.block_lt_of_cell? w ⟨ub, 0, none⟩ hu
  have hpb := hP.lt
  have HP := Lib.hid hP
  have hmf : ∀ (fn : Fn) (first cap : Array Value) (w : World), (Instr.makeFunc fn first cap).run Tryz.prog w = .ok (.func fn first cap) w := fun _ _ _ _ => rfl
  have eg1 : ∀ args w, (callFunc 95 args).run Tryz.prog w = .ok (.enter 95 args) w := fun args w => by simp [go_sem]
  have eg2 : ∀ args w, (callFunc 96 args).run Tryz.prog w = .ok (.enter 96 args) w := fun args w => by simp [go_sem]
  clear hP
  have hal : Below w.heap.size w (w.alloc (.cells #[.string ⟨#[]⟩, .int .i64 0, .int .i64 0] 43)) := (Below.refl _ _).alloc (Nat.le_refl _) _
  have kx := (hal.cell (p := ⟨bx, 0, none⟩) hl).trans hx
  have kt := (hal.cell (p := ⟨tb, 0, none⟩) hlt).trans ht
  have ku := (hal.cell (p := ⟨ub, 0, none⟩) hlu).trans hu
  have HAL := Lib.hid hal
  have HPA := Lib.hid (HP.out.keep hal hpb)
  clear hal
  go_enter Tryz.func94, Tryz.ntmps94
  go_wp2_with fail
  refine (numberOf_any pb tv toks size i t (fun n => ⟨[], n, u⟩) 95 #[.pointer (some ⟨ub, 0, none⟩)] _ HPA.out (fun n w' hb => mk2_any n u ub w' ((hb.cell (p := ⟨ub, 0, none⟩) (by simp; omega)).trans ku)) (fun n => rfl) eg1).mono ?_
  intro e w1 ho
  have HO := Lib.hid ho
  clear ho
  cases hr : Np.numR t (fun n => ⟨[], n, u⟩) (toks.drop i) with
  | err er r' =>
    have h := HO.out
    rw [hr] at h
    obtain ⟨rfl, hm⟩ := h
    have HM := Lib.hid hm
    have HR := Lib.hid hr
    clear hm hr
    go_wp2_with fail
    refine ⟨rfl, ?_⟩
    unfold Np.pairR
    rw [HR.out]
    exact ⟨rfl, HM.out.after HAL.out⟩
  | ok n r' =>
    have h := HO.out
    rw [hr] at h
    obtain ⟨rfl, i', hi', rfl, hm'⟩ := h
    have HR := Lib.hid hr
    have HP2 := Lib.hid (hm'.pin HPA.out (noX_lt pb) hi')
    have kx1 := hm'.box kx (noX_not _) hbp
    have kt1 := hm'.box kt (noX_not _) htp
    have ku1 := hm'.box ku (noX_not _) hup
    have hlu1 := World.block_lt_of_cell? w1 ⟨ub, 0, none⟩ ku1
    have HM := Lib.hid hm'
    clear hm' hr kx kt ku hx ht hu
    go_wp2_with fail
    refine (numberOf_any pb tv toks size i' t (fun m => ⟨[], u, m⟩) 96 #[.pointer (some ⟨ub, 0, none⟩)] _ HP2.out (fun n w' hb => mk3_any n u ub w' ((hb.cell (p := ⟨ub, 0, none⟩) hlu1).trans ku1)) (fun n => rfl) eg2).mono ?_
    intro e w2 ho2
    have HO2 := Lib.hid ho2
    clear ho2
    cases hr2 : Np.numR t (fun m => ⟨[], u, m⟩) (toks.drop i') with
    | err er r'' =>
      have h := HO2.out
      rw [hr2] at h
      obtain ⟨rfl, i2, hi2, rfl, hm2⟩ := h
      have HM2 := Lib.hid (HM.out.trans hm2)
      have HR2 := Lib.hid hr2
      have HI2 := Lib.hid hi2
      clear hm2 hr2 hi2
      go_wp2_with fail
      refine ⟨rfl, ?_⟩
      unfold Np.pairR
      rw [HR.out]
      dsimp only
      rw [HR2.out]
      exact ⟨rfl, i2, HI2.out, rfl, Mv.after HAL.out HM2.out⟩
    | ok m r'' =>
      have h := HO2.out
      rw [hr2] at h
      obtain ⟨rfl, i2, hi2, rfl, hm2⟩ := h
      have hmm := HM.out.trans hm2
      obtain ⟨hs1, q0, q1, q2, f0⟩ := res_cells hmm hpb
      have HM2 := Lib.hid hmm
      have HR2 := Lib.hid hr2
      have HI2 := Lib.hid hi2
      clear hm2 hr2 hi2 hmm
      go_wp2_with fail
      refine bodyPost_ret (v := datV ⟨[], n, m⟩) ?_ rfl ?_
      · simp [results, Tryz.results94, go_sem, datV, bytesOf, q0, q1, q2]
      · unfold Np.pairR
        rw [HR.out]
        dsimp only
        rw [HR2.out]
        exact ⟨rfl, i2, HI2.out, rfl, (((Mv.after HAL.out HM2.out).setNew (Nat.le_refl _) _).setNew (Nat.le_refl _) _).setNew (Nat.le_refl _) _⟩
end Go.Proofs.YtnbolgdccdnjeaaGreatDoor
/- The parser: types, the word before a lifetime, whether a datum is there: contracts. -/
namespace Go.Proofs.YtnbolgdccdnjeaaGreatDoor
open Go.RowKit
/-- Where a value stands first, or -1. -/
def idxOf {α : Type} [DecidableEq α] (xs : List α) (x : α) : Int := match xs.findIdx? (fun y => decide (y = x)) with | some i => (i : Int) | none => -1
theorem idx_at {α : Type} [DecidableEq α] {xs : List α} {x : α} {k : Nat} (hk : xs[k]? = some x) (h : ∀ j : Nat, j < k → xs[j]? ≠ some x) : idxOf xs x = k := by
  unfold idxOf
  obtain ⟨hkl, hx⟩ := List.getElem?_eq_some_iff.1 hk
  have : xs.findIdx? (fun y => decide (y = x)) = some k := by
    rw [List.findIdx?_eq_some_iff_getElem]
    refine ⟨hkl, by simp [hx], fun j hj => ?_⟩
    have h1 := h j hj
    rw [List.getElem?_eq_getElem (by omega)] at h1
    simp only [decide_eq_true_eq]
    intro e
    exact h1 (by rw [e])
  rw [this]
theorem idx_none {α : Type} [DecidableEq α] {xs : List α} {x : α} {k : Nat} (hk : xs.length ≤ k) (h : ∀ j : Nat, j < k → xs[j]? ≠ some x) : idxOf xs x = -1 := by
  unfold idxOf
  have : xs.findIdx? (fun y => decide (y = x)) = none := by
    rw [List.findIdx?_eq_none_iff]
    intro y hy
    obtain ⟨j, hj, e⟩ := List.getElem_of_mem hy
    have h1 := h j (by omega)
    rw [List.getElem?_eq_getElem hj, e] at h1
    simp only [decide_eq_false_iff_not]
    intro e2; exact h1 (by rw [e2])
  rw [this]
theorem idx_mem {α : Type} [DecidableEq α] (xs : List α) (x : α) : decide (0 ≤ idxOf xs x) = decide (x ∈ xs) := by
  unfold idxOf
  cases h : xs.findIdx? (fun y => decide (y = x)) with
  | some i =>
    obtain ⟨hi, he, _⟩ := List.findIdx?_eq_some_iff_getElem.1 h
    have hm : x ∈ xs := by
      have : xs[i] = x := by simpa using he
      rw [← this]; exact List.getElem_mem hi
    simp [hm]
  | none =>
    have hm : x ∉ xs := fun hm => by
      have := List.findIdx?_eq_none_iff.1 h x hm
      simp at this
    simp [hm]
theorem next_ne {α : Type} {xs : List α} {x : α} {k : Nat} (h : ∀ j : Nat, j < k → xs[j]? ≠ some x) (hk : xs[k]? ≠ some x) : ∀ j : Nat, j < k + 1 → xs[j]? ≠ some x := fun j hj => by
  rcases Nat.lt_or_ge j k with h1 | h1
  · exact h j h1
  · rw [show j = k by omega]; exact hk
set_option maxHeartbeats 1000000 in
theorem indexS_any (s : ByteArray) (v : Value) (xs : List (List UInt8)) (w : World) (hd : SlR RSt 1 w w.heap.size v xs) :
    Calls Tryz.prog 188 #[v, .string s] w fun e w' => e = .returned (.int .i64 (idxOf xs s.data.toList)) ∧ w = w' := by
  have HD := Lib.hid hd
  obtain ⟨A, c, rfl, hc1, hl1⟩ := slr_form hd
  clear hd
  go_enter Tryz.func188, Tryz.ntmps188
  go_wp2_with fail
  go_loop [8] (fun i => ∃ k : Nat, k ≤ xs.length ∧ i = .int .i64 k ∧ Hid (∀ j : Nat, j < k → xs[j]? ≠ some s.data.toList)) (fun i => xs.length - (intOf i).toNat)
  case atStart => exact ⟨0, Nat.zero_le _, rfl, Lib.hid (fun j hj => by omega)⟩
  case round =>
    obtain ⟨k, hk, rfl, HN⟩ := hrel
    by_cases hlt : k < xs.length
    · obtain ⟨b, o, c', hA, _, _, hcell⟩ := str_at HD.out (List.getElem?_eq_getElem hlt)
      simp only [Value.slice.injEq, true_and] at hA
      obtain ⟨rfl, rfl⟩ := hA
      have HG := Lib.hid (List.getElem?_eq_getElem hlt)
      generalize xs[k] = x at *
      have hk0 : (0 : Int) ≤ (k : Int) := by omega
      have hk1 : (k : Int) < (xs.length : Int) := by omega
      by_cases hx : x = s.data.toList
      · have he : (s.toList == x) = true := by rw [ByteArray.toList_eq, hx]; simp
        have HX := Lib.hid hx
        clear hx
        go_wp2_with fail
        go_ret
        exact ⟨ret_int (idx_at (by rw [HG.out, HX.out]) HN.out).symm, rfl⟩
      · have he : (s.toList == x) = false := by rw [ByteArray.toList_eq]; simpa using fun e => hx e.symm
        have HX := Lib.hid hx
        clear hx
        go_wp2_with fail
        go_round
        case rel => exact ⟨k + 1, by omega, by go_num, Lib.hid (next_ne HN.out (by rw [HG.out]; intro e; exact HX.out (Option.some.inj e)))⟩
        case measure => simp [intOf] <;> omega
    · go_wp2_with fail
      go_ret
      exact ⟨ret_int (idx_none (by omega) HN.out).symm, rfl⟩
theorem eqlDatum (a b : ByteArray) (n m p q : Int) (w : World) : (binOp .eql 43 (.agg #[.string a, .int .i64 n, .int .i64 m]) (.agg #[.string b, .int .i64 p, .int .i64 q])).run Tryz.prog w = .ok (.bool (a.toList == b.toList && (n == p && m == q))) w := by
  have u3 := Tryz.underlying3
  have a3 := Tryz.isAgg3
  have z3 := Tryz.sizeOf3
  have u9 := Tryz.underlying9
  have a9 := Tryz.isAgg9
  have z9 := Tryz.sizeOf9
  have hS : Tryz.prog.underlying 43 = some (.struct (Tryz.prog.fieldsOf 43)) := by kernel_rfl
  have hp : Tryz.prog.stoodInHeld 43 = false := by kernel_rfl
  rw [run_eql_struct, show (10000 : Nat) = 9999 + 1 from rfl, run_equalIn_agg w 9999 43 _ _ hS hp]
  simp only [Program.fieldsOf, Tryz.underlying43]
  go_simp
  by_cases h0 : a.toList = b.toList <;> by_cases h1 : n = p <;> by_cases h2 : m = q <;> simp [h0, h1, h2]
theorem datum_beq {d x : Np.Datum} {a b : ByteArray} (ha : a.data.toList = d.text) (hb : b.data.toList = x.text) : (a.toList == b.toList && (d.n == x.n && d.m == x.m)) = decide (x = d) := by
  rw [ByteArray.toList_eq, ByteArray.toList_eq, ha, hb, Bool.eq_iff_iff]
  simp only [Bool.and_eq_true, beq_iff_eq, decide_eq_true_eq]
  obtain ⟨t, n, m⟩ := d
  obtain ⟨t2, n2, m2⟩ := x
  simp only [Np.Datum.mk.injEq]
  constructor
  · rintro ⟨rfl, rfl, rfl⟩; exact ⟨rfl, rfl, rfl⟩
  · rintro ⟨rfl, rfl, rfl⟩; exact ⟨rfl, rfl, rfl⟩
set_option maxHeartbeats 2000000 in
theorem indexD_any (a : ByteArray) (d : Np.Datum) (ha : a.data.toList = d.text) (v : Value) (xs : List Np.Datum) (w : World) (hd : SlR RDatum 3 w w.heap.size v xs) :
    Calls Tryz.prog 189 #[v, .agg #[.string a, .int .i64 d.n, .int .i64 d.m]] w fun e w' => e = .returned (.int .i64 (idxOf xs d)) ∧ Below w.heap.size w w' := by
  have HD := Lib.hid hd
  have HA := Lib.hid ha
  obtain ⟨A, c, rfl, hc1, hl1⟩ := slr_form hd
  clear hd ha
  go_enter Tryz.func189, Tryz.ntmps189
  go_wp2_with fail
  have hal : Below w.heap.size w (w.alloc (.cells #[.string a, .int .i64 d.n, .int .i64 d.m] 43)) := (Below.refl _ _).alloc (Nat.le_refl _) _
  have HAL := Lib.hid hal
  clear hal
  go_loopw [8] (fun i wr => ∃ k : Nat, k ≤ xs.length ∧ i = .int .i64 k ∧ Hid (∀ j : Nat, j < k → xs[j]? ≠ some d) ∧ Hid (Below (w.alloc (.cells #[.string a, .int .i64 d.n, .int .i64 d.m] 43)).heap.size (w.alloc (.cells #[.string a, .int .i64 d.n, .int .i64 d.m] 43)) wr)) (fun i _ => xs.length - (intOf i).toNat)
  case atStart => exact ⟨0, Nat.zero_le _, rfl, Lib.hid (fun j hj => by omega), Lib.hid (Below.refl _ _)⟩
  case round =>
    obtain ⟨k, hk, rfl, HN, HB⟩ := hrel
    by_cases hlt : k < xs.length
    · obtain ⟨b, o, c', s, hv, hbl, _, hs1, _, e0, e1, e2⟩ := datum_at HD.out (List.getElem?_eq_getElem hlt)
      simp only [Value.slice.injEq, true_and] at hv
      obtain ⟨rfl, rfl⟩ := hv
      have HG := Lib.hid (List.getElem?_eq_getElem hlt)
      generalize xs[k] = x at *
      have hbw := HAL.out.trans (HB.out.mono HAL.out.size)
      replace e0 := (hbw.cell (p := ⟨b, o + k * 3, none⟩) hbl).trans e0
      replace e1 := (hbw.cell (p := ⟨b, o + k * 3 + 1, none⟩) hbl).trans e1
      replace e2 := (hbw.cell (p := ⟨b, o + k * 3 + 2, none⟩) hbl).trans e2
      have q0 := (HB.out.cell (p := ⟨w.heap.size, 0, none⟩) (by simp)).trans (World.cell?_alloc_new w _ _ _)
      have q1 := (HB.out.cell (p := ⟨w.heap.size, 1, none⟩) (by simp)).trans (World.cell?_alloc_new w _ _ _)
      have q2 := (HB.out.cell (p := ⟨w.heap.size, 2, none⟩) (by simp)).trans (World.cell?_alloc_new w _ _ _)
      simp only [List.getElem?_toArray, List.getElem?_cons_zero, List.getElem?_cons_succ] at q0 q1 q2
      have hk0 : (0 : Int) ≤ (k : Int) := by omega
      have hk1 : (k : Int) < (xs.length : Int) := by omega
      have heq := eqlDatum a s d.n d.m x.n x.m
      rw [datum_beq HA.out hs1] at heq
      clear hbw hs1
      have hsz := HB.out.size
      by_cases hx : x = d
      · have HX := Lib.hid hx
        simp only [hx, decide_true] at heq
        have heq' : ∀ w, (binOp .eql 43 (.agg #[.string a, .int .i64 d.n, .int .i64 d.m]) (.agg #[.string s, .int .i64 x.n, .int .i64 x.m])).run Tryz.prog w = .ok (.bool true) w := fun w => by rw [HX.out]; exact heq w
        clear hx heq
        go_wp2_with fail
        go_quiet (fail)
        go_wp2_with fail
        go_ret
        exact ⟨ret_int (idx_at (by rw [HG.out, HX.out]) HN.out).symm, below_drewN (HAL.out.trans (HB.out.mono HAL.out.size)) _⟩
      · have HX := Lib.hid hx
        have hxf : decide (x = d) = false := by simpa using hx
        rw [hxf] at heq
        clear hx hxf
        go_wp2_with fail
        go_quiet (fail)
        go_wp2_with fail
        go_roundw
        case rel => exact ⟨k + 1, by omega, by go_num, Lib.hid (next_ne HN.out (by rw [HG.out]; intro e; exact HX.out (Option.some.inj e))), Lib.hid (below_drewN HB.out _)⟩
        case measure => simp [intOf] <;> omega
    · go_wp2_with fail
      go_ret
      exact ⟨ret_int (idx_none (by omega) HN.out).symm, HAL.out.trans (HB.out.mono HAL.out.size)⟩
end Go.Proofs.YtnbolgdccdnjeaaGreatDoor
/- The parser: contains, types, the word before a lifetime: contracts. -/
namespace Go.Proofs.YtnbolgdccdnjeaaGreatDoor
open Go.RowKit
theorem contains_any (a : ByteArray) (d : Np.Datum) (ha : a.data.toList = d.text) (v : Value) (xs : List Np.Datum) (w : World) (hd : SlR RDatum 3 w w.heap.size v xs) (b : Bool) (hb : decide (d ∈ xs) = b) :
    Calls Tryz.prog 169 #[v, .agg #[.string a, .int .i64 d.n, .int .i64 d.m]] w fun e w' => e = .returned (.bool b) ∧ Below w.heap.size w w' := by
  have hal : Below w.heap.size w (w.alloc (.cells #[.string a, .int .i64 d.n, .int .i64 d.m] 43)) := (Below.refl _ _).alloc (Nat.le_refl _) _
  have hq := indexD_any a d ha v xs _ ((hd.keep rdatum_kept hal).more rdatum_more hal.size)
  have HAL := Lib.hid hal
  have hge : decide (0 ≤ idxOf xs d) = b := by rw [idx_mem, hb]
  have HGE := Lib.hid hge
  obtain ⟨q, hqq⟩ : ∃ q, q = idxOf xs d := ⟨_, rfl⟩
  rw [← hqq] at hq hge
  have HQ := Lib.hid hq
  clear hal hq hd ha hqq HGE
  cases b with
  | true =>
    go_enter Tryz.func169, Tryz.ntmps169
    go_wp2_with fail
    refine HQ.out.mono ?_
    rintro e w1 ⟨rfl, hb1⟩
    have HB := Lib.hid (HAL.out.trans (hb1.mono HAL.out.size))
    clear hb1
    go_wp2_with fail
    go_ret
    exact ⟨rfl, HB.out⟩
  | false =>
    go_enter Tryz.func169, Tryz.ntmps169
    go_wp2_with fail
    refine HQ.out.mono ?_
    rintro e w1 ⟨rfl, hb1⟩
    have HB := Lib.hid (HAL.out.trans (hb1.mono HAL.out.size))
    clear hb1
    go_wp2_with fail
    go_ret
    exact ⟨rfl, HB.out⟩
theorem slr_fresh {α : Type} {R : World → Nat → List Value → α → Prop} {sz n : Nat} {W : World} {t : TypeId} {xs : List α} {cs : Array Value} (enc : α → List Value) (hlen : ∀ x ∈ xs, (enc x).length = sz) (hn : xs.length = n) (hcs : cs.toList = xs.flatMap enc) (hl : xs.length ≤ 140737488355328) (hR : ∀ W B, ∀ x ∈ xs, R W B (enc x) x) :
    SlR R sz (W.alloc (.cells cs t)) (W.alloc (.cells cs t)).heap.size (.slice (some ⟨W.heap.size, 0, none⟩) n n) xs := by
  have hpart : ∀ (l : List α) (i : Nat) (x : α) (j : Nat) (u : Value), (∀ y ∈ l, (enc y).length = sz) → l[i]? = some x → (enc x)[j]? = some u → (l.flatMap enc)[i * sz + j]? = some u := by
    intro l
    induction l with
    | nil => intro i x j u _ hi; simp at hi
    | cons y l ih =>
      intro i x j u hle hi hj
      rw [List.flatMap_cons]
      have hy : (enc y).length = sz := hle y (by simp)
      cases i with
      | zero =>
        simp at hi; subst hi
        rw [List.getElem?_append_left (by have := (List.getElem?_eq_some_iff.1 hj).1; omega)]
        simpa using hj
      | succ i =>
        rw [List.getElem?_append_right (by rw [hy, Nat.succ_mul]; omega), hy]
        have := ih i x j u (fun y hy => hle y (by simp [hy])) (by simpa using hi) hj
        rw [show (i + 1) * sz + j - sz = i * sz + j by rw [Nat.succ_mul]; omega]
        exact this
  subst hn
  refine ⟨_, _, rfl, Nat.le_refl _, hl, fun i x hx => ⟨W.heap.size, 0, enc x, rfl, by simp, hlen x (List.mem_of_getElem? hx), fun j u hj => ?_, hR _ _ x (List.mem_of_getElem? hx)⟩⟩
  have h1 := hpart xs i x j u hlen hx hj
  rw [← hcs] at h1
  rw [show 0 + i * sz + j = i * sz + j by omega]
  rw [World.cell?_alloc_new]
  simpa using h1
theorem typeR_idx (s : List UInt8) : Np.typeR s = 1 + idxOf Np.wordsT s := by
  unfold Np.typeR idxOf
  have : (fun y : List UInt8 => decide (y = s)) = (fun y => y == s) := by funext y; exact (Bool.eq_iff_iff.2 (by simp))
  rw [this]
  cases Np.wordsT.findIdx? (fun y => y == s) with
  | some i => show (i : Int) + 1 = 1 + (i : Int); omega
  | none => rfl
theorem typeOf_any (x : List UInt8) (w : World) :
    Calls Tryz.prog 166 #[.string (bytesOf x)] w fun e w' => e = .returned (.int .i64 (Np.typeR x)) ∧ Below w.heap.size w w' := by
  have hbd := Np.typeR_bd x
  have ht := typeR_idx x
  obtain ⟨q, hq⟩ : ∃ q, q = idxOf Np.wordsT x := ⟨_, rfl⟩
  rw [← hq] at ht
  have hxx : (bytesOf x).data.toList = x := by simp [bytesOf]
  have hct := fun W v h => indexS_any (bytesOf x) v Np.wordsT W h
  rw [hxx, ← hq] at hct
  have HCT := Lib.hid hct
  have HT := Lib.hid ht
  have hq0 : 0 ≤ 1 + q := by omega
  have hq1 : 1 + q ≤ 7 := by omega
  clear hct ht hbd hq hxx
  go_enter Tryz.func166, Tryz.ntmps166
  go_wp2_with fail
  refine (HCT.out _ _ (slr_fresh (fun x => [strs x]) (fun _ _ => rfl) rfl rfl (by decide) (fun _ _ _ _ => rfl))).mono ?_
  rintro e w1 ⟨rfl, rfl⟩
  go_wp2_with fail
  go_ret
  exact ⟨ret_int HT.out.symm, (Below.refl _ _).alloc (Nat.le_refl _) _⟩
theorem peek1_is (pb : Nat) (tv : Value) (toks : List Np.Tok) (size : Int) (i : Nat) (w : World) (hP : PIn w pb tv toks size i) (t : Np.Tok) (ht : Np.peekT (toks.drop i).tail = t) :
    Calls Tryz.prog 91 #[.pointer (some ⟨pb, 0, none⟩), .int .i64 1] w fun e w' => e = .returned (.agg #[.int .i64 t.kind, .string (bytesOf t.text), .int .i64 t.n, .int .i64 t.pos]) ∧ Below w.heap.size w w' := by
  have := peek1 pb tv toks size i w hP
  rw [ht] at this
  exact this
def lifeB (t : Int) (r : List Np.Tok) : Bool := Np.isW Np.wLife r && (!(decide (t = 2) || decide (t = 3)) || Np.isNum r.tail)
set_option maxHeartbeats 2000000 in
theorem isLife_any (pb : Nat) (tv : Value) (toks : List Np.Tok) (size : Int) (i : Nat) (t : Int) (w : World) (hP : PIn w pb tv toks size i) :
    Calls Tryz.prog 167 #[.pointer (some ⟨pb, 0, none⟩), .int .i64 t] w fun e w' => e = .returned (.bool (lifeB t (toks.drop i))) ∧ Below w.heap.size w w' := by
  have hpb := hP.lt
  have HP := Lib.hid hP
  clear hP
  go_enter Tryz.func167, Tryz.ntmps167
  go_wp2_with fail
  by_cases hz : Np.isW Np.wLife (toks.drop i) = true
  case neg =>
    have hz : Np.isW Np.wLife (toks.drop i) = false := by simpa using hz
    have HZ := Lib.hid hz
    clear hz
    refine (isWord_is pb tv toks size i ⟨#[108, 105, 102, 101]⟩ w false HP.out HZ.out).mono ?_
    rintro e w1 ⟨rfl, hb⟩
    have HB := Lib.hid hb
    clear hb
    go_wp2_with fail
    go_ret
    exact ⟨ret_bool (by unfold lifeB; rw [HZ.out]; rfl), HB.out⟩
  case pos =>
    have HZ := Lib.hid hz
    clear hz
    refine (isWord_is pb tv toks size i ⟨#[108, 105, 102, 101]⟩ w true HP.out HZ.out).mono ?_
    rintro e w1 ⟨rfl, hb⟩
    have HB := Lib.hid hb
    have HP1 := Lib.hid (HP.out.keep hb hpb)
    clear hb
    obtain ⟨u, hu⟩ : ∃ u, Np.peekT (toks.drop i).tail = u := ⟨_, rfl⟩
    have HU := Lib.hid hu
    have hf0 := tokField0 u.kind (bytesOf u.text) u.n u.pos
    clear hu
    by_cases h23 : t = 2 ∨ t = 3
    · have hc : ((t != 2) && (t != 3)) = false := by rcases h23 with e | e <;> simp [e]
      have HL : Hid (lifeB t (toks.drop i) = (u.kind == 2)) := Lib.hid (by
        unfold lifeB
        rw [HZ.out]
        have h1 : (decide (t = 2) || decide (t = 3)) = true := by simpa using h23
        rw [h1]
        unfold Np.isNum
        rw [HU.out]; rfl)
      by_cases h2 : t = 2
      · have h2a : (t != 2) = false := by simpa using h2
        clear h23 hc h2
        go_wp2_with fail
        refine (peek1_is pb tv toks size i _ HP1.out u HU.out).mono ?_
        rintro e w2 ⟨rfl, hb2⟩
        have HB2 := Lib.hid (HB.out.trans (hb2.mono HB.out.size))
        clear hb2
        go_wp2_with fail
        go_ret
        exact ⟨ret_bool HL.out.symm, HB2.out⟩
      · have h2a : (t != 2) = true := by simpa using h2
        have h3a : (t != 3) = false := by have : t = 3 := by omega
                                          simpa using this
        clear h23 hc h2
        go_wp2_with fail
        refine (peek1_is pb tv toks size i _ HP1.out u HU.out).mono ?_
        rintro e w2 ⟨rfl, hb2⟩
        have HB2 := Lib.hid (HB.out.trans (hb2.mono HB.out.size))
        clear hb2
        go_wp2_with fail
        go_ret
        exact ⟨ret_bool HL.out.symm, HB2.out⟩
    · have h2a : (t != 2) = true := by simp; omega
      have h3a : (t != 3) = true := by simp; omega
      have HL : Hid (lifeB t (toks.drop i) = true) := Lib.hid (by
        unfold lifeB
        rw [HZ.out]
        have h1 : (decide (t = 2) || decide (t = 3)) = false := by simpa using h23
        rw [h1]; rfl)
      clear h23
      go_wp2_with fail
      go_ret
      exact ⟨ret_bool HL.out.symm, HB.out⟩
end Go.Proofs.YtnbolgdccdnjeaaGreatDoor
