/- Contract of printer.entry. -/
import Derived.Test.YtnbolgdccdnjeaaGreatDoorEntry
namespace Go.Proofs.YtnbolgdccdnjeaaGreatDoor
open Go.RowKit
/-- A row of texts of the call's own comes back. -/
def GivesOwn (w : World) (ws : List (List UInt8)) (e : Ending) (w' : World) : Prop := ∃ v, e = .returned v ∧ w'.ownsRow w.heap.size 9 1 v ws.length (ws.map strs) ∧ Below w.heap.size w w'
theorem own_strs {w : World} {base : Nat} {v : Value} {n : Nat} {ws : List (List UInt8)} {xs : List Value} (h : w.ownsRow base 9 1 v n xs) (hn : n = ws.length) (hx : xs = ws.map strs) : w.ownsRow base 9 1 v ws.length (ws.map strs) := by
  subst hn hx; exact h
theorem own_base {w : World} {B B' : Nat} {e : TypeId} {size n : Nat} {v : Value} {xs : List Value} (h : w.ownsRow B' e size v n xs) (hB : B ≤ B') : w.ownsRow B e size v n xs := by
  refine ⟨h.1, ?_⟩
  rcases h.2 with h2 | ⟨g, cap, cur, h1, h2, h3⟩
  · exact .inl h2
  · exact .inr ⟨g, cap, cur, h1, by omega, h3⟩
def EntRel (N : Nat) (wa : World) (W0 : List (List UInt8)) (ty : Int) (ds : List Np.Datum) (v i : Value) (wr : World) : Prop :=
  ∃ k : Nat, k ≤ ds.length ∧ i = .int .i64 k ∧ Hid (wr.ownsRow (N + 1) 9 1 v (W0 ++ (Np.dataWords ty ds).take k).length ((W0 ++ (Np.dataWords ty ds).take k).map strs)) ∧ Hid (Below (N + 1) wa wr)
theorem two_new (w : World) (x y : Value) (t : TypeId) : ∀ j u, [x, y][j]? = some u → (w.alloc (.cells #[x, y] t)).cell? ((⟨w.heap.size, 0, none⟩ : Addr).add j) = some u := by
  intro j u hj
  have hadd : (⟨w.heap.size, 0, none⟩ : Addr).add j = ⟨w.heap.size, j, none⟩ := by unfold Addr.add; split <;> simp_all
  rw [hadd]
  match j, hj with
  | 0, hj => simp at hj; subst hj; exact World.cell?_alloc_new _ _ _ _
  | 1, hj => simp at hj; subst hj; exact World.cell?_alloc_new _ _ _ _
  | j + 2, hj => simp at hj
set_option maxRecDepth 100000 in
set_option maxHeartbeats 4000000 in
theorem entry_any (a sn : ByteArray) (ty life : Int) (dv : Value) (ds : List Np.Datum) (w : World) (hv : Np.validSet ⟨sn.data.toList, ty, life, ds⟩ = true) (h7 : ty ≤ 7) (hP : PowIn w) (hWd : WordsIn w w.heap.size) (hd : SlR RDatum 3 w w.heap.size dv ds) :
    Calls Tryz.prog 74 #[.string a, .agg #[.string sn, .int .i64 ty, .int .i64 life, dv]] w (GivesOwn w (Np.entryWords a.data.toList ⟨sn.data.toList, ty, life, ds⟩)) := by
  obtain ⟨i0, hi, hz0, hz1, hz2⟩ := info_parts Tryz.infoStr
  obtain ⟨v1, v2, _, v4, v5, _, v7, v8⟩ := Np.valid_parts hv
  simp only at v1 v2 v4 v5 v7 v8
  have HGD := Lib.hid (Np.goodData_all v8)
  have hdl := (Np.dataWords_bd v2 h7 (Np.goodData_all v8)).1
  have HDL := Lib.hid hdl
  have HP := Lib.hid hP
  have HWD := Lib.hid hWd
  have HD := Lib.hid hd
  obtain ⟨A, c, rfl, hc1, hl1, -⟩ := hd
  have hsn : sn.data.toList.length ≤ 60 := (Np.name_form v1).1
  obtain ⟨k0, rfl⟩ := Int.eq_ofNat_of_zero_le (by omega : 0 ≤ ty)
  clear hP hWd hv v1 v8 hdl
  have hEW : Np.entryWords a.data.toList ⟨sn.data.toList, k0, life, ds⟩ = ([[32], Np.ownerOf a.data.toList sn.data.toList, Np.wordOf k0] ++ Np.lifeWords life) ++ Np.dataWords k0 ds := rfl
  rw [hEW]
  clear hEW
  go_enter Tryz.func74, Tryz.ntmps74
  go_upto_if 14 with fail
  go_cut [5] (fun o wx => o = strs (Np.ownerOf a.data.toList sn.data.toList) ∧ wx = w.alloc (.cells #[.string sn, .int .i64 k0, .int .i64 life, .slice A ds.length c] 39))
  case first =>
    go_wp2_with fail
    · have he : (sn.toList == a.toList) = true := by assumption
      rw [ByteArray.toList_eq, ByteArray.toList_eq, beq_iff_eq] at he
      have HO := Lib.hid (show Np.ownerOf a.data.toList sn.data.toList = [64] by unfold Np.ownerOf; rw [if_pos he])
      go_meet
      case rel => exact ⟨by rw [HO.out], rfl⟩
    · have he : (sn.toList == a.toList) = false := by assumption
      rw [ByteArray.toList_eq, ByteArray.toList_eq, beq_eq_false_iff_ne] at he
      have HO := Lib.hid (show Np.ownerOf a.data.toList sn.data.toList = sn.data.toList by unfold Np.ownerOf; rw [if_neg he])
      go_meet
      case rel => exact ⟨by rw [HO.out], rfl⟩
  case rest =>
    obtain ⟨rfl, rfl⟩ := hcut
    have hba : Below w.heap.size w (w.alloc (.cells #[.string sn, .int .i64 k0, .int .i64 life, .slice A ds.length c] 39)) := (Below.refl _ _).alloc (Nat.le_refl _) _
    have p1 := World.cell?_alloc_new w #[.string sn, .int .i64 k0, .int .i64 life, .slice A ds.length c] 39 1
    have p2 := World.cell?_alloc_new w #[.string sn, .int .i64 k0, .int .i64 life, .slice A ds.length c] 39 2
    have p3 := World.cell?_alloc_new w #[.string sn, .int .i64 k0, .int .i64 life, .slice A ds.length c] 39 3
    have hz : (w.alloc (.cells #[.string sn, .int .i64 k0, .int .i64 life, .slice A ds.length c] 39)).heap.size = w.heap.size + 1 := World.size_alloc _ _
    generalize w.alloc (.cells #[.string sn, .int .i64 k0, .int .i64 life, .slice A ds.length c] 39) = wa at hba p1 p2 p3 hz ⊢
    have HBA := Lib.hid hba
    have HZ := Lib.hid hz
    have hlt : w.heap.size < wa.heap.size := by omega
    have hwd := (HWD.out.keep hba).2 k0 (by omega)
    clear hba hz
    generalize hON : Np.ownerOf a.data.toList sn.data.toList = own
    have HON := Lib.hid hON
    clear hON
    have hk0 : (0 : Int) ≤ (k0 : Int) := by omega
    have hk9 : (k0 : Int) < 9 := by omega
    go_upto_if 23 with fail
    go_cut [6] (fun v wx => Hid (wx.ownsRow (w.heap.size + 1) 9 1 v ([[32], own, Np.wordOf k0] ++ Np.lifeWords life).length (([[32], own, Np.wordOf k0] ++ Np.lifeWords life).map strs)) ∧ Hid (Below (w.heap.size + 1) wa wx))
    case first =>
      have hown0 : (wa.alloc (.cells #[strs [32], strs own, strs (Np.wordOf k0)] 9)).ownsRow (w.heap.size + 1) 9 1 (.slice (some ⟨wa.heap.size, 0, none⟩) 3 3) 3 [strs [32], strs own, strs (Np.wordOf k0)] :=
        ⟨rfl, .inr ⟨wa.heap.size, 3, _, rfl, by omega, heap_alloc_new _ _, by simp, by simp [maxLen], rfl, rfl⟩⟩
      have HOW := Lib.hid hown0
      have HB0 : Hid (Below (w.heap.size + 1) wa (wa.alloc (.cells #[strs [32], strs own, strs (Np.wordOf k0)] 9))) := Lib.hid ((Below.refl _ _).alloc (by omega) _)
      clear hown0
      go_wp2_with fail
      rotate_left
      · have he : (life != 300) = false := by assumption
        have HLW := Lib.hid (show Np.lifeWords life = [] by unfold Np.lifeWords; rw [if_pos (by simpa using he)])
        go_meet
        case rel => exact ⟨by rw [HLW.out]; exact HOW, HB0⟩
      · have he : (life != 300) = true := by assumption
        have HLW := Lib.hid (show Np.lifeWords life = [[108, 105, 102, 101], Np.decimal life.toNat] by unfold Np.lifeWords; rw [if_neg (by simpa using he)])
        clear he
        have hp2 : (wa.alloc (.cells #[strs [32], strs own, strs (Np.wordOf k0)] 9)).cell? ⟨w.heap.size, 2, none⟩ = some (.int .i64 life) := (World.cell?_alloc_lt _ _ _ (by simpa using hlt)).trans p2
        refine (itoa_any life v4 (by omega) _ (((HP.out.keep HBA.out).keep ((Below.refl _ _).alloc (Nat.le_refl _) _)))).mono ?_
        rintro e w2 ⟨rfl, hb2⟩
        have HB2 := Lib.hid hb2
        have HOW2 := Lib.hid (ownsRow_keep HOW.out (fun g hg => hb2.block g (by have := (HOW.out.lt g hg).2; exact this)))
        have hs2 : wa.heap.size + 1 ≤ w2.heap.size := by have := hb2.size; simpa using this
        clear hb2
        go_wp2_with (at_builtin; refine wpList_append_own_at _ rfl _ _ 64 rfl (w.heap.size + 1) 9 i0 (.string ⟨#[]⟩) 1 16 Tryz.underlying64 hi hz0 hz1 hz2 rfl (by decide) _ _ _ rfl (HOW2.out.alloc _) ⟨w2.heap.size, 0, none⟩ 2 2 [strs [108, 105, 102, 101], strs (Np.decimal life.toNat)] rfl rfl (two_new _ _ _ _) (by simp [Value.oneCell']) (by unfold maxLen; omega) (by omega) (by simp; omega) ?_; intro v1 w3 hown1 hg1 _ hat1; have H1 := Lib.hid (And.intro hown1 hg1); clear hown1 hg1 hat1)
        go_meet
        case rel =>
          obtain ⟨o1, g1⟩ := H1.out
          refine ⟨by rw [HLW.out]; exact Lib.hid (own_strs o1 rfl rfl), Lib.hid ?_⟩
          have hb := (HB0.out.trans (HB2.out.mono (by simp; omega))).alloc (show w.heap.size + 1 ≤ w2.heap.size by omega) (.cells #[strs [108, 105, 102, 101], strs (Np.decimal life.toNat)] 9)
          exact hb.grown g1 (by simp; omega) (fun j hj => (HOW2.out.lt j hj).1)
    case rest =>
      obtain ⟨HO, HB⟩ := hcut
      generalize hW0 : [[32], own, Np.wordOf k0] ++ Np.lifeWords life = W0 at *
      have hw0l : W0.length ≤ 5 := by
        rw [← hW0]; unfold Np.lifeWords; split <;> simp
      have HW0 := Lib.hid hW0
      clear hW0
      have hszc := HB.out.size
      have q3 : wc.cell? ⟨w.heap.size, 3, none⟩ = some (.slice A ds.length c) := by rw [HB.out.cell (by simp)]; exact p3
      go_wp2_with fail
      go_loopw [6, 33] (fun v i wr => EntRel w.heap.size wa W0 k0 ds v i wr) (fun _ i _ => ds.length - (intOf i).toNat)
      case atStart => exact ⟨0, Nat.zero_le _, rfl, Lib.hid (by simpa using HO.out), HB⟩
      case round =>
        obtain ⟨k, hk, rfl, HOr, HBr⟩ := hrel
        by_cases hlt2 : k < ds.length
        · have hget := List.getElem?_eq_getElem hlt2
          have hbr0 : Below w.heap.size w wr := HBA.out.trans (HBr.out.mono (by omega))
          obtain ⟨b, o, c', sd, hA, hbB, _, hsd, hsz, e0, e1, e2⟩ := datum_at (HD.out.keep rdatum_kept hbr0) hget
          cases hA
          have hvd := HGD.out _ (List.getElem_mem hlt2)
          have hword := Np.dataWords_snoc k0 ds k _ hget
          obtain ⟨m1, m2, m3, m4, m5, m6⟩ := Np.datum_bd v2 h7 hvd
          generalize hx : ds[k] = x at *
          clear hx hvd hget
          obtain ⟨tx, tn, tm⟩ := x
          simp only at hsd m1 m2 m3 m4 m5 m6 e0 e1 e2
          obtain rfl : sd = ⟨tx.toArray⟩ := str_ext (by simpa using hsd)
          have hszr : w.heap.size < wr.heap.size := by have := HBr.out.size; omega
          have r1 : wr.cell? ⟨w.heap.size, 1, none⟩ = some (.int .i64 k0) := by rw [HBr.out.cell (by simp)]; exact p1
          have r3 : wr.cell? ⟨w.heap.size, 3, none⟩ = some (.slice (some ⟨b, o, none⟩) ds.length c) := by rw [HBr.out.cell (by simp)]; exact p3
          have HBR0 := Lib.hid hbr0
          have HWORD := Lib.hid hword
          clear hsd hbr0 hword p1 p2 p3 q3 hwd
          have hwl : (W0 ++ (Np.dataWords k0 ds).take k).length ≤ 13 := by rw [List.length_append, List.length_take, HDL.out]; omega
          generalize hws : W0 ++ (Np.dataWords k0 ds).take k = ws at HOr hwl
          have HWS := Lib.hid hws
          clear hws
          obtain ⟨Av, cv, rfl⟩ := ownsRow_form HOr.out
          have hfin : ∀ (w3 w4 : World) (v4 : Value) (q : UInt8), Below wr.heap.size wr w3 → (if k + 1 = ds.length then (59 : UInt8) else 44) = q →
              w4.ownsRow (w.heap.size + 1) 9 1 v4 (ws.length + 1) (ws.map strs ++ [strs (Np.datumText k0 ⟨tx, tn, tm⟩ ++ [q])]) →
              w3.grownBy w4 (Value.slice Av ws.length cv).ownBlock →
              EntRel w.heap.size wa W0 k0 ds v4 (.int .i64 ((k : Int) + 1)) w4 := fun w3 w4 v4 q hb3 hq ho hg => by
            refine ⟨k + 1, by omega, by go_num, Lib.hid ?_, Lib.hid ?_⟩
            · have ht : W0 ++ (Np.dataWords k0 ds).take (k + 1) = ws ++ [Np.datumText k0 ⟨tx, tn, tm⟩ ++ [q]] := by
                obtain ⟨hl', he'⟩ := List.getElem?_eq_some_iff.1 HWORD.out
                rw [List.take_succ_eq_append_getElem hl', he', hq, ← HWS.out, List.append_assoc]
              rw [ht]
              refine own_strs ho (by simp) (by simp)
            · exact (HBr.out.trans (hb3.mono (by omega))).grown hg (by have := hb3.size; omega) (fun j hj => (HOr.out.lt j hj).1)
          have HFIN := Lib.hid hfin
          clear hfin
          have hln : ¬ 9223372036854775807 < (Np.datumText k0 ⟨tx, tn, tm⟩).length + 1 := by omega
          by_cases hend : k + 1 = ds.length
          · have hcmp : ((k : Int) == (ds.length : Int) - 1) = true := by simp; omega
            have HQ := Lib.hid (show (if k + 1 = ds.length then (59 : UInt8) else 44) = 59 by rw [if_pos hend])
            clear hend
            go_wp2_with fail
            have hbd : Below wr.heap.size wr (wr.alloc (.cells #[strs tx, .int .i64 tn, .int .i64 tm] 43)) := (Below.refl _ _).alloc (Nat.le_refl _) _
            have HBD := Lib.hid hbd
            clear hbd
            refine (datumP_any k0 v2 h7 tx (by omega) tn tm m2 m3 m4 m5 _ (((HP.out.keep HBR0.out).keep HBD.out))).mono ?_
            rintro e w3 ⟨rfl, hb3⟩
            have HB3 := Lib.hid (HBD.out.trans (hb3.mono (by simp)))
            have hs3 : wr.heap.size + 1 ≤ w3.heap.size := by have := hb3.size; simpa using this
            have HO3 := Lib.hid (ownsRow_keep HOr.out (fun g hg => HB3.out.block g (HOr.out.lt g hg).2))
            clear hb3
            go_wp2_with (at_builtin; refine wpList_append_own_at _ rfl _ _ 64 rfl (w.heap.size + 1) 9 i0 (.string ⟨#[]⟩) 1 16 Tryz.underlying64 hi hz0 hz1 hz2 rfl (by decide) _ _ _ rfl (HO3.out.alloc _) ⟨w3.heap.size, 0, none⟩ 1 1 [Value.string ((⟨(Np.datumText k0 ⟨tx, tn, tm⟩).toArray⟩ : ByteArray) ++ ⟨#[59]⟩)] rfl rfl (cell_one_new _ _ _) (by simp [Value.oneCell']) (by unfold maxLen; omega) (by omega) (by simp; omega) ?_; intro v4 w4 hown1 hg1 _ hat1; have H1 := Lib.hid (And.intro hown1 hg1); clear hown1 hg1 hat1)
            go_roundw
            case rel => exact HFIN.out _ _ _ 59 (HB3.out.alloc (by omega) _) HQ.out (by have := H1.out.1; rw [show Value.string ((⟨(Np.datumText k0 ⟨tx, tn, tm⟩).toArray⟩ : ByteArray) ++ ⟨#[59]⟩) = strs (Np.datumText k0 ⟨tx, tn, tm⟩ ++ [59]) from strs_app _ [59]] at this; exact this) H1.out.2
            case measure => simp [intOf] <;> omega
          · have hcmp : ((k : Int) == (ds.length : Int) - 1) = false := by simp; omega
            have HQ := Lib.hid (show (if k + 1 = ds.length then (59 : UInt8) else 44) = 44 by rw [if_neg hend])
            clear hend
            go_wp2_with fail
            have hbd : Below wr.heap.size wr (wr.alloc (.cells #[strs tx, .int .i64 tn, .int .i64 tm] 43)) := (Below.refl _ _).alloc (Nat.le_refl _) _
            have HBD := Lib.hid hbd
            clear hbd
            refine (datumP_any k0 v2 h7 tx (by omega) tn tm m2 m3 m4 m5 _ (((HP.out.keep HBR0.out).keep HBD.out))).mono ?_
            rintro e w3 ⟨rfl, hb3⟩
            have HB3 := Lib.hid (HBD.out.trans (hb3.mono (by simp)))
            have hs3 : wr.heap.size + 1 ≤ w3.heap.size := by have := hb3.size; simpa using this
            have HO3 := Lib.hid (ownsRow_keep HOr.out (fun g hg => HB3.out.block g (HOr.out.lt g hg).2))
            clear hb3
            go_wp2_with (at_builtin; refine wpList_append_own_at _ rfl _ _ 64 rfl (w.heap.size + 1) 9 i0 (.string ⟨#[]⟩) 1 16 Tryz.underlying64 hi hz0 hz1 hz2 rfl (by decide) _ _ _ rfl (HO3.out.alloc _) ⟨w3.heap.size, 0, none⟩ 1 1 [Value.string ((⟨(Np.datumText k0 ⟨tx, tn, tm⟩).toArray⟩ : ByteArray) ++ ⟨#[44]⟩)] rfl rfl (cell_one_new _ _ _) (by simp [Value.oneCell']) (by unfold maxLen; omega) (by omega) (by simp; omega) ?_; intro v4 w4 hown1 hg1 _ hat1; have H1 := Lib.hid (And.intro hown1 hg1); clear hown1 hg1 hat1)
            go_roundw
            case rel => exact HFIN.out _ _ _ 44 (HB3.out.alloc (by omega) _) HQ.out (by have := H1.out.1; rw [show Value.string ((⟨(Np.datumText k0 ⟨tx, tn, tm⟩).toArray⟩ : ByteArray) ++ ⟨#[44]⟩) = strs (Np.datumText k0 ⟨tx, tn, tm⟩ ++ [44]) from strs_app _ [44]] at this; exact this) H1.out.2
            case measure => simp [intOf] <;> omega
        · go_wp2_with fail
          go_ret
          refine ⟨_, rfl, ?_, HBA.out.trans (HBr.out.mono (by omega))⟩
          have h1 := HOr.out
          rw [List.take_of_length_le (by rw [HDL.out]; omega)] at h1
          refine (own_strs (own_base h1 (by omega)) ?_ ?_)
          · rw [← HW0.out, HON.out]; simp
          · rw [← HW0.out, HON.out]; simp
end Go.Proofs.YtnbolgdccdnjeaaGreatDoor
