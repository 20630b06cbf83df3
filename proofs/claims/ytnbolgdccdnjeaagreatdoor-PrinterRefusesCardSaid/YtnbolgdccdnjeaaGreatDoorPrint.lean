/- Contract of printer.Print. -/
import Derived.Test.YtnbolgdccdnjeaaGreatDoorZoneP
import Derived.Test.YtnbolgdccdnjeaaGreatDoorOrd
import Derived.Test.YtnbolgdccdnjeaaGreatDoorWrit
import Derived.Test.YtnbolgdccdnjeaaGreatDoorMapS
import Derived.Test.YtnbolgdccdnjeaaGreatDoorLex
namespace Go.Proofs.YtnbolgdccdnjeaaGreatDoor
open Go.RowKit
theorem print_1 {l : List Np.Zone} {z : Np.Zone} (hz : z ∈ l) (h : Np.rightZ z = false) : Np.print l = ([], 1) := by
  unfold Np.print
  rw [if_pos (by rw [List.all_eq_false]; exact ⟨z, hz, by simp [h]⟩)]
theorem print_5 {l : List Np.Zone} (h1 : l.all Np.rightZ = true) (h : Np.twice (l.map (·.apex)) = true) : Np.print l = ([], 5) := by
  unfold Np.print
  rw [if_neg (by simp [h1]), if_pos h]
theorem print_12 {l : List Np.Zone} {z : Np.Zone} (h1 : l.all Np.rightZ = true) (h2 : Np.twice (l.map (·.apex)) = false) (hz : z ∈ l) (h : Np.plainZ z = false) : Np.print l = ([], 12) := by
  unfold Np.print
  rw [if_neg (by simp [h1]), if_neg (by simp [h2]), if_pos (by rw [List.all_eq_false]; exact ⟨z, hz, by simp [h]⟩)]
theorem print_2 {l : List Np.Zone} (h1 : l.all Np.rightZ = true) (h2 : Np.twice (l.map (·.apex)) = false) (h3 : l.all Np.plainZ = true) (h : 8000 < (l.flatMap Np.zoneText).length) : Np.print l = ([], 2) := by
  unfold Np.print
  rw [if_neg (by simp [h1]), if_neg (by simp [h2]), if_neg (by simp [h3]), if_pos h]
theorem print_2b {l : List Np.Zone} (h1 : l.all Np.rightZ = true) (h2 : Np.twice (l.map (·.apex)) = false) (h3 : l.all Np.plainZ = true) (h4 : (l.flatMap Np.zoneText).length ≤ 8000) (h : (Np.lex (l.flatMap Np.zoneText)).2.1 ≠ 0) : Np.print l = ([], 2) := by
  unfold Np.print
  rw [if_neg (by simp [h1]), if_neg (by simp [h2]), if_neg (by simp [h3]), if_neg (by omega), if_pos h]
theorem all_of_at {α : Type} {p : α → Bool} {l : List α} (h : ∀ j x, j < l.length → l[j]? = some x → p x = true) : l.all p = true := by
  rw [List.all_eq_true]
  intro x hx
  obtain ⟨j, hj, rfl⟩ := List.mem_iff_getElem.1 hx
  exact h j _ hj (List.getElem?_eq_getElem hj)
theorem twice_at : ∀ {l : List (List UInt8)} {j : Nat} {x : List UInt8}, l[j]? = some x → x ∈ l.take j → Np.twice l = true := by
  intro l
  induction l with
  | nil => intro j x h; simp at h
  | cons y l ih =>
    intro j x h hm
    cases j with
    | zero => simp at hm
    | succ j =>
      simp only [List.getElem?_cons_succ, List.take_succ_cons] at h hm
      rw [Np.twice, Bool.or_eq_true]
      rcases List.mem_cons.1 hm with e | e
      · left; subst e; simpa using List.mem_of_getElem? h
      · exact .inr (ih h e)
theorem twice_none : ∀ {l : List (List UInt8)}, (∀ j x, l[j]? = some x → x ∉ l.take j) → Np.twice l = false := by
  intro l
  induction l with
  | nil => intro _; rfl
  | cons y l ih =>
    intro h
    rw [Np.twice, Bool.or_eq_false_iff]
    constructor
    · simp only [List.contains_eq_mem, decide_eq_false_iff_not]
      intro hm
      obtain ⟨j, hj, e⟩ := List.mem_iff_getElem.1 hm
      refine h (j + 1) y (by simp [List.getElem?_eq_getElem hj, e]) (by simp)
    · exact ih (fun j x hx hm => h (j + 1) x (by simpa using hx) (by simp [hm]))
/-- The apexes that were met. -/
def metOf (l : List Np.Zone) : List (List UInt8 × Value) := l.map fun z => (z.apex, .bool true)
theorem met_lookup (l : List Np.Zone) (x : List UInt8) : ((metOf l).lookup x).getD (.bool false) = .bool (decide (x ∈ l.map (·.apex))) ∧ (x ∉ l.map (·.apex) → (metOf l).lookup x = none) := by
  induction l with
  | nil => exact ⟨rfl, fun _ => rfl⟩
  | cons z l ih =>
    by_cases h : x = z.apex
    · have : ((metOf (z :: l)).lookup x) = some (.bool true) := by simp [metOf, h]
      rw [this]
      exact ⟨by simp [h], fun hn => absurd (by simp [h]) hn⟩
    · have hb : (x == z.apex) = false := by simpa using h
      have : ((metOf (z :: l)).lookup x) = (metOf l).lookup x := by simp [metOf, List.lookup_cons, hb]
      rw [this]
      refine ⟨by rw [ih.1]; simp [h], fun hn => ih.2 (fun e => hn (by simp [e]))⟩
def PrA (p : Np.Zone → Bool) (w : World) (zs : List Np.Zone) (i : Value) (wr : World) : Prop :=
  ∃ k : Nat, k ≤ zs.length ∧ i = .int .i64 k ∧ Hid (Below w.heap.size w wr) ∧ Hid (∀ j z, j < k → zs[j]? = some z → p z = true)
def PrB (M : Nat) (w : World) (zs : List Np.Zone) (i : Value) (wr : World) : Prop :=
  ∃ k : Nat, k ≤ zs.length ∧ i = .int .i64 k ∧ Hid (Below w.heap.size w wr) ∧ Hid (MapS M (metOf (zs.take k)) wr) ∧ Hid (∀ j z, j < k → zs[j]? = some z → z.apex ∉ (zs.take j).map (·.apex))
def PrC (b : Nat) (w : World) (zs : List Np.Zone) (i : Value) (wr : World) : Prop :=
  ∃ k : Nat, k ≤ zs.length ∧ i = .int .i64 k ∧ Hid (Below w.heap.size w wr) ∧ (∃ r, Hid (Bld WT b b r ((zs.take k).flatMap Np.zoneText) wr)) ∧ ((zs.take k).flatMap Np.zoneText).length ≤ 8000
set_option maxRecDepth 100000 in
set_option maxHeartbeats 8000000 in
theorem print_any (v : Value) (zs : List Np.Zone) (w : World) (hR : RulesIn w w.heap.size) (hE : ErrIn w) (hP : PowIn w) (hWd : WordsIn w w.heap.size) (hz : SlR RZone 2 w w.heap.size v zs) :
    Calls Tryz.prog 16 #[v] w fun e w' => e = .returned (.tuple #[strs (Np.print zs).1, .int .i64 (Np.print zs).2]) ∧ Below w.heap.size w w' := by
  have HR := Lib.hid hR
  have HE := Lib.hid hE
  have HP := Lib.hid hP
  have HWD := Lib.hid hWd
  have HZ := Lib.hid hz
  obtain ⟨A, c, rfl, hc1, hl1, -⟩ := hz
  have hmm : ∀ (n : Int) (w : World), (Instr.makeMap 79 (some (.int .i64 n))).run Tryz.prog w = .ok (.map (some w.heap.size)) (w.alloc (.map #[] 0)) := fun n w => by
    simp [Instr.makeMap, run_underlying Tryz.underlying79, asInt, asIntOf, Result.andThen]
  have hret : ∀ (_ : List UInt8 × Int) (x : List UInt8) (n : Int), Np.print zs = (x, n) → (Ending.returned (.tuple #[strs x, .int .i64 n])) = .returned (.tuple #[strs (Np.print zs).1, .int .i64 (Np.print zs).2]) := fun _ x n h => by rw [h]
  have HRET := Lib.hid hret
  clear hR hE hP hWd hret
  go_enter Tryz.func16, Tryz.ntmps16
  go_wp2_with fail
  go_loopw [19] (fun i wr => PrA Np.rightZ w zs i wr) (fun i _ => zs.length - (intOf i).toNat)
  case atStart => exact ⟨0, Nat.zero_le _, rfl, Lib.hid (Below.refl _ _), Lib.hid (fun j z h => by omega)⟩
  case round =>
    obtain ⟨k, hk, rfl, HB, HA⟩ := hrel
    by_cases hlt : k < zs.length
    · have hget := List.getElem?_eq_getElem hlt
      obtain ⟨b, o, c', sn, sv, hA, hbB, _, hsn, hsz, hsv, e0, e1⟩ := zone_at (HZ.out.keep rzone_kept HB.out) hget
      cases hA
      have HM := Lib.hid (List.getElem_mem hlt)
      generalize hx : zs[k] = z at *
      clear hx
      obtain ⟨As, cs, rfl, hcs, hls⟩ := slr_form hsv
      have HX := Lib.hid hget
      have hzz : (⟨sn.data.toList, z.sets⟩ : Np.Zone) = z := by rw [hsn]
      have HZZ := Lib.hid hzz
      have HSV := Lib.hid hsv
      have hwr := HB.out.size
      clear hget hsn hsv hzz
      have hba : ∀ o, Below wr.heap.size wr (wr.alloc o) := fun o => (Below.refl _ _).alloc (Nat.le_refl _) _
      have HBA := Lib.hid hba
      clear hba
      go_wp2_with fail
      have hwa := HBA.out (.cells #[.string sn, .slice As z.sets.length cs] 32)
      generalize wr.alloc (.cells #[.string sn, .slice As z.sets.length cs] 32) = wa at hwa ⊢
      have HWA := Lib.hid hwa
      have HBa := Lib.hid (HB.out.trans (hwa.mono hwr))
      have hwas := hwa.size
      clear hwa
      refine (isOrdered_any sn hsz _ z.sets _ ((HR.out.keep HBa.out).more (by omega)) ((HSV.out.keep rsigned_kept (HWA.out.mono hwr)).more rsigned_more (by omega))).mono ?_
      rw [HZZ.out]
      rintro e w2 ⟨rfl, hb2⟩
      have HB2 := Lib.hid (HBa.out.trans (hb2.mono (by omega)))
      clear hb2
      cases hrz : Np.rightZ z with
      | false =>
        have HRZ := Lib.hid hrz
        clear hrz
        go_wp2_with fail
        go_ret2
        exact ⟨HRET.out ([], 1) [] 1 (print_1 HM.out HRZ.out), HB2.out⟩
      | true =>
        have HRZ := Lib.hid hrz
        clear hrz
        go_wp2_with fail
        go_roundw
        case rel =>
          refine ⟨k + 1, by omega, by go_num, HB2, Lib.hid (fun j y hj hy => ?_)⟩
          by_cases e : j = k
          · subst e; rw [HX.out] at hy; cases hy; exact HRZ.out
          · exact HA.out j y (by omega) hy
        case measure => simp [intOf] <;> omega
    · have hall1 : zs.all Np.rightZ = true := all_of_at (fun j x hj hx => HA.out j x (by omega) hx)
      have HALL1 := Lib.hid hall1
      clear hall1
      obtain ⟨w1, rfl⟩ : ∃ w1 : World, w1 = wr := ⟨_, rfl⟩
      have HB1 := HB
      have hw1 := HB1.out.size
      go_wp2_with fail
      clear hlt hk HA
      go_loopw [32] (fun i wr => PrB w1.heap.size w zs i wr) (fun i _ => zs.length - (intOf i).toNat)
      case atStart => exact ⟨0, Nat.zero_le _, rfl, Lib.hid (HB1.out.alloc hw1 _), Lib.hid (MapS.made w1), Lib.hid (fun j z h => by omega)⟩
      case round =>
        obtain ⟨k, hk, rfl, HB, HMp, HA⟩ := hrel
        by_cases hlt : k < zs.length
        · have hget := List.getElem?_eq_getElem hlt
          obtain ⟨b, o, c', sn, sv, hA, hbB, _, hsn, hsz, hsv, e0, e1⟩ := zone_at (HZ.out.keep rzone_kept HB.out) hget
          cases hA
          have HM := Lib.hid (List.getElem_mem hlt)
          generalize hx : zs[k] = z at *
          clear hx
          obtain ⟨As, cs, rfl, hcs, hls⟩ := slr_form hsv
          have HX := Lib.hid hget
          obtain rfl : sn = ⟨z.apex.toArray⟩ := str_ext (by simpa using hsn)
          have hwr := HB.out.size
          have hMl := HMp.out.lt
          clear hget hsn hsv
          have hba : ∀ o, Below wr.heap.size wr (wr.alloc o) := fun o => (Below.refl _ _).alloc (Nat.le_refl _) _
          have HBA := Lib.hid hba
          clear hba
          obtain ⟨hl1', hl2'⟩ := met_lookup (zs.take k) z.apex
          by_cases hin : z.apex ∈ (zs.take k).map (·.apex)
          · have HV : Hid (((metOf (zs.take k)).lookup z.apex).getD (.bool false) = .bool true) := Lib.hid (by rw [hl1', decide_eq_true hin])
            have htw : Np.twice (zs.map (·.apex)) = true := twice_at (j := k) (x := z.apex) (by rw [List.getElem?_map, HX.out]; rfl) (by rw [← List.map_take]; exact hin)
            have HTW := Lib.hid htw
            clear hl1' hl2' htw hin
            go_wp2_with (at_lookup; refine wpList_lookup_str _ rfl _ _ 79 rfl 9 4 Tryz.underlying79 Tryz.underlying9 w1.heap.size (metOf (zs.take k)) rfl (HMp.out.keep (HBA.out _) hMl) z.apex rfl (.bool false) (by kernel_rfl) ?_; rw [HV.out])
            go_ret2
            exact ⟨HRET.out ([], 5) [] 5 (print_5 HALL1.out HTW.out), HB.out.trans ((HBA.out _).mono hwr)⟩
          · have HV : Hid (((metOf (zs.take k)).lookup z.apex).getD (.bool false) = .bool false) := Lib.hid (by rw [hl1', decide_eq_false hin])
            have HNO := Lib.hid (hl2' hin)
            have HIN := Lib.hid hin
            clear hl1' hl2' hin
            have hM1 : w1.heap.size ≠ wr.heap.size := by omega
            go_wp2_with (first
              | (at_lookup; refine wpList_lookup_str _ rfl _ _ 79 rfl 9 4 Tryz.underlying79 Tryz.underlying9 w1.heap.size (metOf (zs.take k)) rfl (HMp.out.keep (HBA.out _) hMl) z.apex rfl (.bool false) (by kernel_rfl) ?_; rw [HV.out])
              | (at_mapUpdate; refine wpList_update_str _ rfl _ _ _ 79 rfl 9 4 Tryz.underlying79 Tryz.underlying9 w1.heap.size (metOf (zs.take k)) rfl (HMp.out.keep (HBA.out _) hMl) z.apex rfl (.bool true) rfl HNO.out ?_; intro w5 hm5 ht5; have H5 := Lib.hid (And.intro hm5 ht5); clear hm5 ht5))
            go_roundw
            case rel =>
              refine ⟨k + 1, by omega, by go_num, Lib.hid ((HB.out.trans ((HBA.out _).mono hwr)).trans (H5.out.2.below hw1)), Lib.hid ?_, Lib.hid (fun j y hj hy => ?_)⟩
              · have h5 := H5.out.1
                have ht : metOf (zs.take (k + 1)) = metOf (zs.take k) ++ [(z.apex, .bool true)] := by
                  obtain ⟨hl', he'⟩ := List.getElem?_eq_some_iff.1 HX.out
                  rw [List.take_succ_eq_append_getElem hl', he']; simp [metOf]
                rw [ht]; exact h5
              · by_cases e : j = k
                · subst e; rw [HX.out] at hy; cases hy; exact HIN.out
                · exact HA.out j y (by omega) hy
            case measure => simp [intOf] <;> omega
        · have htw : Np.twice (zs.map (·.apex)) = false := twice_none (fun j x hx hm => by
            rw [List.getElem?_map, Option.map_eq_some_iff] at hx
            obtain ⟨z, hz1, rfl⟩ := hx
            exact HA.out j z (by have := (List.getElem?_eq_some_iff.1 hz1).1; omega) hz1 (by rw [List.map_take]; exact hm))
          have HTW := Lib.hid htw
          clear htw
          obtain ⟨w2, rfl⟩ : ∃ w2 : World, w2 = wr := ⟨_, rfl⟩
          have HB2 := HB
          have hw2 := HB2.out.size
          go_wp2_with fail
          clear hlt hk HA HMp
          go_loopw [46] (fun i wr => PrA Np.plainZ w zs i wr) (fun i _ => zs.length - (intOf i).toNat)
          case atStart => exact ⟨0, Nat.zero_le _, rfl, HB2, Lib.hid (fun j z h => by omega)⟩
          case round =>
            obtain ⟨k, hk, rfl, HB, HA⟩ := hrel
            by_cases hlt : k < zs.length
            · have hget := List.getElem?_eq_getElem hlt
              obtain ⟨b, o, c', sn, sv, hA, hbB, _, hsn, hsz, hsv, e0, e1⟩ := zone_at (HZ.out.keep rzone_kept HB.out) hget
              cases hA
              have HM := Lib.hid (List.getElem_mem hlt)
              generalize hx : zs[k] = z at *
              clear hx
              obtain ⟨As, cs, rfl, hcs, hls⟩ := slr_form hsv
              have HX := Lib.hid hget
              have hzz : (⟨sn.data.toList, z.sets⟩ : Np.Zone) = z := by rw [hsn]
              have HZZ := Lib.hid hzz
              have HSV := Lib.hid hsv
              have hwr := HB.out.size
              clear hget hsn hsv hzz
              have hba : ∀ o, Below wr.heap.size wr (wr.alloc o) := fun o => (Below.refl _ _).alloc (Nat.le_refl _) _
              have HBA := Lib.hid hba
              clear hba
              go_wp2_with fail
              have hwa := HBA.out (.cells #[.string sn, .slice As z.sets.length cs] 32)
              generalize wr.alloc (.cells #[.string sn, .slice As z.sets.length cs] 32) = wa at hwa ⊢
              have HWA := Lib.hid hwa
              have HBa := Lib.hid (HB.out.trans (hwa.mono hwr))
              have hwas := hwa.size
              clear hwa
              refine (isWritable_any sn _ z.sets _ (by rw [HZZ.out]; exact List.all_eq_true.1 HALL1.out z HM.out) ((HSV.out.keep rsigned_kept (HWA.out.mono hwr)).more rsigned_more (by omega))).mono ?_
              rw [HZZ.out]
              rintro e w4 ⟨rfl, hb4⟩
              have HB4 := Lib.hid (HBa.out.trans (hb4.mono (by omega)))
              clear hb4
              cases hrz : Np.plainZ z with
              | false =>
                have HRZ := Lib.hid hrz
                clear hrz
                go_wp2_with fail
                go_ret2
                exact ⟨HRET.out ([], 12) [] 12 (print_12 HALL1.out HTW.out HM.out HRZ.out), HB4.out⟩
              | true =>
                have HRZ := Lib.hid hrz
                clear hrz
                go_wp2_with fail
                go_roundw
                case rel =>
                  refine ⟨k + 1, by omega, by go_num, HB4, Lib.hid (fun j y hj hy => ?_)⟩
                  by_cases e : j = k
                  · subst e; rw [HX.out] at hy; cases hy; exact HRZ.out
                  · exact HA.out j y (by omega) hy
                case measure => simp [intOf] <;> omega
            · have hall3 : zs.all Np.plainZ = true := all_of_at (fun j x hj hx => HA.out j x (by omega) hx)
              have HALL3 := Lib.hid hall3
              clear hall3
              obtain ⟨w3, rfl⟩ : ∃ w3 : World, w3 = wr := ⟨_, rfl⟩
              have HB3 := HB
              have hw3 := HB3.out.size
              go_wp2_with fail
              clear hlt hk HA
              go_loopw [56] (fun i wr => PrC w3.heap.size w zs i wr) (fun i _ => zs.length - (intOf i).toNat)
              case atStart => exact ⟨0, Nat.zero_le _, rfl, Lib.hid (HB3.out.alloc hw3 _), ⟨none, Lib.hid (Bld.fresh WT w3)⟩, by simp⟩
              case round =>
                obtain ⟨k, hk, rfl, HB, ⟨r, HBl⟩, hlen⟩ := hrel
                have hrow := HBl.out.row
                have hbw : w3.heap.size < wr.heap.size := hrow.2.1
                have HRW := Lib.hid hrow.2.2
                clear hrow
                generalize hT : (zs.take k).flatMap Np.zoneText = T at HBl hlen
                have HT := Lib.hid hT
                clear hT
                by_cases hlt : k < zs.length
                · have hget := List.getElem?_eq_getElem hlt
                  obtain ⟨b, o, c', sn, sv, hA, hbB, _, hsn, hsz, hsv, e0, e1⟩ := zone_at (HZ.out.keep rzone_kept HB.out) hget
                  cases hA
                  have HM := Lib.hid (List.getElem_mem hlt)
                  generalize hx : zs[k] = z at *
                  clear hx
                  obtain ⟨As, cs, rfl, hcs, hls⟩ := slr_form hsv
                  have HX := Lib.hid hget
                  obtain rfl : sn = ⟨z.apex.toArray⟩ := str_ext (by simpa using hsn)
                  have HSV := Lib.hid hsv
                  have hwr := HB.out.size
                  clear hget hsn hsv
                  have hba : ∀ o, Below wr.heap.size wr (wr.alloc o) := fun o => (Below.refl _ _).alloc (Nat.le_refl _) _
                  have HBA := Lib.hid hba
                  clear hba
                  go_wp2_with fail
                  have hwa := HBA.out (.cells #[strs z.apex, .slice As z.sets.length cs] 32)
                  generalize wr.alloc (.cells #[strs z.apex, .slice As z.sets.length cs] 32) = wa at hwa ⊢
                  have HWA := Lib.hid hwa
                  have HBa := Lib.hid (HB.out.trans (hwa.mono hwr))
                  have hwas := hwa.size
                  clear hwa
                  refine (zoneP_any w3.heap.size w3.heap.size r T z.apex _ z.sets _ (HBl.out.keep HWA.out) hlen (List.all_eq_true.1 HALL1.out z HM.out) (List.all_eq_true.1 HALL3.out z HM.out) (by omega) (HP.out.keep HBa.out) (by have := HP.out.lt; omega) ((HWD.out.keep HBa.out).more hw3) ((HSV.out.keep rsigned_kept (HWA.out.mono hwr)).more rsigned_more hw3)).mono ?_
                  rintro e w5 ⟨rfl, r5, t5, hpre, hcase, hb5, hs5⟩
                  have HS5 := Lib.hid ((BS.of_below (b := w3.heap.size) (r := r) HWA.out).trans hs5)
                  have HB5 := Lib.hid hb5
                  have HPRE := Lib.hid hpre
                  have HCASE := Lib.hid hcase
                  have HBel5 := Lib.hid (HB.out.trans (HS5.out.below (n := w.heap.size) hw3 (fun j hj => by have := (HRW.out j hj).1; omega) hwr))
                  clear hb5 hs5 hpre hcase e0 e1
                  have htake : (zs.take (k + 1)).flatMap Np.zoneText = T ++ Np.zoneText z := by
                    obtain ⟨hl', he'⟩ := List.getElem?_eq_some_iff.1 HX.out
                    rw [List.take_succ_eq_append_getElem hl', he', List.flatMap_append, HT.out]; simp
                  have hall : (T ++ Np.zoneText z).length ≤ (zs.flatMap Np.zoneText).length := by
                    rw [← htake]
                    conv => rhs; rw [← List.take_append_drop (k + 1) zs]
                    rw [List.flatMap_append, List.length_append]; omega
                  have hall2 : (T ++ t5).length ≤ (T ++ Np.zoneText z).length := by
                    have : t5.length ≤ (Np.zoneText z).length := HPRE.out.length_le
                    rw [List.length_append, List.length_append]; omega
                  have HTK := Lib.hid htake
                  have HALL := Lib.hid (Nat.le_trans hall2 hall)
                  clear htake hall hall2
                  generalize hT5 : T ++ t5 = T5 at HB5
                  have HT5 := Lib.hid hT5
                  clear hT5
                  go_wp2_with (go_at_call 39; refine (len_any w3.heap.size w3.heap.size r5 T5 _ HB5.out).mono ?_; rintro e w' ⟨rfl, rfl⟩)
                  · have h8k : (8000 : Int) < (T5.length : Int) := by assumption
                    go_ret2
                    refine ⟨HRET.out ([], 2) [] 2 (print_2 HALL1.out HTW.out HALL3.out ?_), HBel5.out⟩
                    have := HALL.out
                    rw [HT5.out] at this
                    omega
                  · have h8k : (T5.length : Int) ≤ 8000 := by assumption
                    have hteq : T5 = T ++ Np.zoneText z := by
                      rw [← HT5.out]
                      rcases HCASE.out with h | h
                      · rw [h]
                      · rw [HT5.out] at h; omega
                    have HTE := Lib.hid hteq
                    clear hteq
                    go_roundw
                    case rel => exact ⟨k + 1, by omega, by go_num, HBel5, ⟨r5, Lib.hid (by rw [HTK.out, ← HTE.out]; exact HB5.out)⟩, by rw [HTK.out, ← HTE.out]; omega⟩
                    case measure => simp [intOf] <;> omega
                · have htot : T = zs.flatMap Np.zoneText := by rw [← HT.out, List.take_of_length_le (by omega)]
                  have HTOT := Lib.hid htot
                  clear htot
                  have HRd := Lib.hid HBl.out.read
                  go_wp2_with fail
                  refine (string_any w3.heap.size w3.heap.size T _ HRd.out).mono ?_
                  rintro e w5 ⟨rfl, hr5, hb5⟩
                  have HR5 := Lib.hid hr5
                  have HB5 := Lib.hid (HB.out.trans (hb5.mono hw3))
                  clear hr5 hb5
                  go_wp2_with fail
                  have hlx := lex_any ⟨T.toArray⟩ (show T.length ≤ 140737488355328 by omega) w5 (HE.out.keep HB5.out)
                  rw [show (⟨T.toArray⟩ : ByteArray).data.toList = T from rfl] at hlx
                  have HLX := Lib.hid hlx
                  clear hlx
                  refine HLX.out.mono ?_
                  generalize hq : Np.lex T = q
                  have HQ := Lib.hid hq
                  clear hq
                  obtain ⟨ts, er, pos⟩ := q
                  rintro e w6 ⟨v6, rfl, hx6, hb6⟩
                  obtain ⟨A6, c6, rfl, -, -, -⟩ := hx6
                  have HB6 := Lib.hid (HB5.out.trans (hb6.mono HB5.out.size))
                  have HR6 := Lib.hid (HR5.out.keep hb6)
                  clear hb6
                  simp only
                  by_cases her : er = 0
                  · have hne : (er != 0) = false := by simp [her]
                    have hpr : Np.print zs = (T, 0) := by
                      rw [HTOT.out]
                      exact Np.print_of HALL1.out HTW.out HALL3.out (by rw [← HTOT.out]; exact hlen) (by rw [← HTOT.out, HQ.out]; exact her)
                    have HPR := Lib.hid hpr
                    clear hpr her
                    go_wp2_with fail
                    refine (string_any w3.heap.size w3.heap.size T _ HR6.out).mono ?_
                    rintro e w7 ⟨rfl, hr7, hb7⟩
                    have HB7 := Lib.hid (HB6.out.trans (hb7.mono hw3))
                    clear hr7 hb7
                    go_wp2_with fail
                    go_ret2
                    exact ⟨HRET.out (T, 0) T 0 HPR.out, HB7.out⟩
                  · have hne : (er != 0) = true := by simpa using her
                    have hpr : Np.print zs = ([], 2) := print_2b HALL1.out HTW.out HALL3.out (by rw [← HTOT.out]; exact hlen) (by rw [← HTOT.out, HQ.out]; exact her)
                    have HPR := Lib.hid hpr
                    clear hpr her
                    go_wp2_with fail
                    go_ret2
                    exact ⟨HRET.out ([], 2) [] 2 HPR.out, HB6.out⟩
end Go.Proofs.YtnbolgdccdnjeaaGreatDoor
