/- Which names are no numbers, and which sets a file can have: word and small of layer 4's laws. -/
import Derived.Test.YtnbolgdccdnjeaaGreatDoorParFile
import Derived.Test.YtnbolgdccdnjeaaGreatDoorCA
import Derived.Test.YtnbolgdccdnjeaaGreatDoorLA
import Derived.Test.YtnbolgdccdnjeaaGreatDoorRA
import Derived.Test.YtnbolgdccdnjeaaGreatDoorRf5
import Derived.Shelf.Strings.SlTrimAscii
namespace Go.Proofs.YtnbolgdccdnjeaaGreatDoor
open Go.RowKit
theorem rset_kept : KeptR RSet := fun _ _ _ _ _ ⟨s, v, h1, h2, h3, h5⟩ hb => ⟨s, v, h1, h2, h3.keep rdatum_kept hb, h5⟩
theorem rset_more : MoreR RSet := fun _ _ _ _ _ ⟨s, v, h1, h2, h3, h5⟩ hb => ⟨s, v, h1, h2, h3.more rdatum_more hb, h5⟩
/-- A set at its place. -/
theorem set_at {w : World} {B : Nat} {v : Value} {xs : List Np.DSet} (h : SlR RSet 4 w B v xs) {k : Nat} {x : Np.DSet} (hx : xs[k]? = some x) : ∃ (b o c : Nat) (s : ByteArray) (dv : Value), v = .slice (some ⟨b, o, none⟩) xs.length c ∧ b < B ∧ xs.length ≤ c ∧ s.data.toList = x.name ∧ s.size ≤ 140737488355328 ∧ SlR RDatum 3 w B dv x.data ∧
    w.cell? ⟨b, o + k * 4, none⟩ = some (.string s) ∧ w.cell? ⟨b, o + k * 4 + 1, none⟩ = some (.int .i64 x.type) ∧ w.cell? ⟨b, o + k * 4 + 2, none⟩ = some (.int .i64 x.life) ∧ w.cell? ⟨b, o + k * 4 + 3, none⟩ = some dv := by
  obtain ⟨A, c, rfl, hc, _, he⟩ := h
  obtain ⟨b, o, e, rfl, hb, _, hce, s, dv, h1, h2, h3, rfl⟩ := he k x hx
  exact ⟨b, o, c, s, dv, rfl, hb, hc, h1, h2, h3, by have := hce 0 _ rfl; simpa using this, hce 1 _ rfl, hce 2 _ rfl, hce 3 _ rfl⟩
theorem word_any (s : ByteArray) (hs : s.size ≤ 140737488355328) (w : World) (r : Bool) (hr : s.data.toList.all Np.isDig = r) :
    Calls Tryz.prog 70 #[.string s] w fun e w' => e = .returned (.bool (!r)) ∧ Below w.heap.size w w' := by
  have ht := Any.strings_Trim_laid Tryz.lays160 (by kernel_rfl) s ⟨#[48, 49, 50, 51, 52, 53, 54, 55, 56, 57]⟩ w (by omega) (by decide) (ascii_of_all (by decide))
  have hn : Lib.trimS s.data.toList (⟨#[48, 49, 50, 51, 52, 53, 54, 55, 56, 57]⟩ : ByteArray).data.toList = [] ↔ s.data.toList.all Np.isDig = true := trim_nil s.data.toList
  generalize Lib.trimS s.data.toList (⟨#[48, 49, 50, 51, 52, 53, 54, 55, 56, 57]⟩ : ByteArray).data.toList = ts at ht hn
  have HT := Lib.hid ht
  clear ht
  cases r with
  | true =>
    have h0 : ts = [] := hn.2 hr
    subst h0
    clear hn hr
    go_enter Tryz.func70, Tryz.ntmps70
    go_wp2_with fail
    refine HT.out.mono ?_
    rw [show (⟨([] : List UInt8).toArray⟩ : ByteArray) = ⟨#[]⟩ from rfl]
    rintro e w1 ⟨rfl, hb⟩
    have HB := Lib.hid hb
    clear hb
    go_wp2_with fail
    go_ret
    exact ⟨rfl, HB.out⟩
  | false =>
    have h0 : ts ≠ [] := fun e => by rw [hn.1 e] at hr; cases hr
    have hte := bytesOf_nil h0
    clear hn hr
    have HT2 : Hid (Calls Tryz.prog 119 #[.string s, .string ⟨#[48, 49, 50, 51, 52, 53, 54, 55, 56, 57]⟩] w fun e w' => e = .returned (.string (bytesOf ts)) ∧ Below w.heap.size w w') := HT
    clear HT
    generalize bytesOf ts = bs at hte HT2
    go_enter Tryz.func70, Tryz.ntmps70
    go_wp2_with fail
    refine HT2.out.mono ?_
    rintro e w1 ⟨rfl, hb⟩
    have HB := Lib.hid hb
    clear hb
    go_wp2_with fail
    go_ret
    exact ⟨rfl, HB.out⟩
/-- What is known of the sets ahead of the k-th. -/
structure SmallUp (apex : List UInt8) (l : List Np.DSet) (k : Nat) : Prop where
  good : ∀ j (h : j < l.length), j < k → Np.GoodW apex l[j]
  keys : ∀ i j (hi : i < l.length) (hj : j < l.length), i < j → j < k → ¬ (l[i].name = l[j].name ∧ l[i].type = l[j].type)
theorem SmallUp.none (apex : List UInt8) (l : List Np.DSet) : SmallUp apex l 0 := ⟨fun _ _ h => by omega, fun _ _ _ _ _ h => by omega⟩
theorem SmallUp.one {apex : List UInt8} {l : List Np.DSet} {k : Nat} (h : SmallUp apex l k) (hk : k < l.length) (hg : Np.GoodW apex l[k]) (hn : ∀ i (hi : i < l.length), i < k → ¬ (l[i].name = l[k].name ∧ l[i].type = l[k].type)) : SmallUp apex l (k + 1) where
  good j hj hjk := by
    rcases Nat.lt_or_ge j k with h1 | h1
    · exact h.good j hj h1
    · obtain rfl : j = k := by omega
      exact hg
  keys i j hi hj hij hjk := by
    rcases Nat.lt_or_ge j k with h1 | h1
    · exact h.keys i j hi hj hij h1
    · obtain rfl : j = k := by omega
      exact hn i hi hij
theorem SmallUp.small {apex : List UInt8} {l : List Np.DSet} (h : SmallUp apex l l.length) (h1 : ¬ 20 < l.length) (h2 : Np.validName apex = true) (h3 : Np.isWild apex = false) (h4 : apex.all Np.isDig = false) : Np.Small apex l where
  few := by omega
  name := h2
  wild := h3
  word := h4
  good x hx := by
    obtain ⟨i, hi, rfl⟩ := List.mem_iff_getElem.1 hx
    exact h.good i hi hi
  keys := by
    refine List.pairwise_iff_getElem.2 fun i j hi hj hij e => ?_
    rw [List.getElem_map, List.getElem_map] at e
    exact h.keys i j (by simpa using hi) (by simpa using hj) hij (by simpa using hj) ⟨congrArg Prod.fst e, congrArg Prod.snd e⟩
def SmallRel (l : List Np.DSet) (apex : List UInt8) (w3 : World) (i : Value) (wr : World) : Prop := ∃ k : Nat, k ≤ l.length ∧ i = .int .i64 k ∧ Hid (Below w3.heap.size w3 wr) ∧ Hid (SmallUp apex l k)
def SmallPair (l : List Np.DSet) (x : Np.DSet) (k : Nat) (w5 : World) (i : Value) (wr : World) : Prop := ∃ j : Nat, j ≤ k ∧ i = .int .i64 j ∧ Hid (Below w5.heap.size w5 wr) ∧ Hid (∀ i (hi : i < l.length), i < j → ¬ (l[i].name = x.name ∧ l[i].type = x.type))
theorem pair_one {l : List Np.DSet} {x : Np.DSet} {j : Nat} (hj : j < l.length) (h : ∀ i (hi : i < l.length), i < j → ¬ (l[i].name = x.name ∧ l[i].type = x.type)) (h1 : ¬ (l[j].name = x.name ∧ l[j].type = x.type)) : ∀ i (hi : i < l.length), i < j + 1 → ¬ (l[i].name = x.name ∧ l[i].type = x.type) := fun i hi hij => by
  rcases Nat.lt_or_ge i j with h2 | h2
  · exact h i hi h2
  · obtain rfl : i = j := by omega
    exact h1
def SmallData (ty : Int) (ds : List Np.Datum) (w4 : World) (i : Value) (wr : World) : Prop := ∃ j : Nat, j ≤ ds.length ∧ i = .int .i64 j ∧ Hid (Below w4.heap.size w4 wr) ∧ Hid (∀ d ∈ ds.take j, ty = 2 ∨ ty = 3 → d.text.all Np.isDig = false)
theorem take_one {α : Type} {P : α → Prop} {l : List α} {j : Nat} (hj : j < l.length) (h : ∀ d ∈ l.take j, P d) (h1 : P l[j]) : ∀ d ∈ l.take (j + 1), P d := by
  rw [List.take_succ_eq_append_getElem hj]
  intro d hd
  rcases List.mem_append.1 hd with hd | hd
  · exact h d hd
  · rw [List.mem_singleton] at hd; rw [hd]; exact h1
set_option maxRecDepth 100000 in
set_option maxHeartbeats 8000000 in
theorem small_any (sa : ByteArray) (hsa : sa.size ≤ 140737488355328) (v : Value) (l : List Np.DSet) (w : World) (hl : SlR RSet 4 w w.heap.size v l) :
    Calls Tryz.prog 31 #[.string sa, v] w fun e w' => (∃ b, e = .returned (.bool b) ∧ (b = true → Np.Small sa.data.toList l)) ∧ Below w.heap.size w w' := by
  have HL := Lib.hid hl
  obtain ⟨A, c, rfl, hc, hlen⟩ := slr_form hl
  clear hl
  go_enter Tryz.func31, Tryz.ntmps31
  by_cases h20 : 20 < l.length
  · have h20I : (20 : Int) < (l.length : Int) := by omega
    go_wp2_with fail
    go_ret
    exact ⟨⟨false, rfl, fun h => by cases h⟩, Below.refl _ _⟩
  have h20I : ¬ (20 : Int) < (l.length : Int) := by omega
  go_wp2_with fail
  refine (nameValid_any sa hsa _).mono ?_
  rintro e w1 ⟨rfl, hb1⟩
  have HB1 := Lib.hid hb1
  clear hb1
  cases hv : Np.validName sa.data.toList with
  | false =>
    go_wp2_with fail
    go_ret
    exact ⟨⟨false, rfl, fun h => by cases h⟩, HB1.out⟩
  | true =>
  have HV := Lib.hid hv
  clear hv
  go_wp2_with fail
  refine (refWild_any sa hsa _).mono ?_
  rintro e w1' ⟨rfl, rfl⟩
  cases hwi : Np.isWild sa.data.toList with
  | true =>
    go_wp2_with fail
    go_ret
    exact ⟨⟨false, rfl, fun h => by cases h⟩, HB1.out⟩
  | false =>
  have HWI := Lib.hid hwi
  clear hwi
  cases hdg : sa.data.toList.all Np.isDig with
  | true =>
    have HDG := Lib.hid hdg
    clear hdg
    go_wp2_with fail
    refine (word_any sa hsa _ true HDG.out).mono ?_
    rintro e w2 ⟨rfl, hb2⟩
    have HB2 := Lib.hid (HB1.out.trans (hb2.mono HB1.out.size))
    clear hb2
    go_wp2_with fail
    go_ret
    exact ⟨⟨false, rfl, fun h => by cases h⟩, HB2.out⟩
  | false =>
  have HDG := Lib.hid hdg
  clear hdg
  go_wp2_with fail
  refine (word_any sa hsa _ false HDG.out).mono ?_
  rintro e w2 ⟨rfl, hb2⟩
  have HB2 := Lib.hid (HB1.out.trans (hb2.mono HB1.out.size))
  have HL2 := Lib.hid (HL.out.later rset_kept rset_more HB2.out)
  clear hb2 HB1 HL
  go_wp2_with fail
  go_loopw [32] (fun i wr => SmallRel l sa.data.toList w2 i wr) (fun i _ => l.length - (intOf i).toNat)
  case atStart => exact ⟨0, Nat.zero_le _, rfl, Lib.hid (Below.refl _ _), Lib.hid (SmallUp.none _ _)⟩
  case round =>
    obtain ⟨k, hk, rfl, HB, HU⟩ := hrel
    by_cases hlt : k < l.length
    case neg =>
      obtain rfl : k = l.length := by omega
      have HB' := Lib.hid (HB2.out.trans (HB.out.mono HB2.out.size))
      have HS := Lib.hid (HU.out.small h20 HV.out HWI.out HDG.out)
      clear hlt hk HB
      go_wp2_with fail
      go_ret
      exact ⟨⟨true, rfl, fun _ => HS.out⟩, HB'.out⟩
    obtain ⟨b, o, c', ss, dv, hA, hbb, hcap, hss, hszs, hdv, a0, a1, a2, a3⟩ := set_at (HL2.out.later rset_kept rset_more HB.out) (List.getElem?_eq_getElem hlt)
    cases hA
    have hkI : (k : Int) < (l.length : Int) := by omega
    have hk0 : (0 : Int) ≤ (k : Int) := by omega
    have hkc : (k : Int) ≤ (c : Int) := by omega
    obtain ⟨x, hx⟩ : ∃ x, x = l[k] := ⟨_, rfl⟩
    rw [← hx] at hss hdv a1 a2
    have HX := Lib.hid hx
    have HSS := Lib.hid hss
    have HDV := Lib.hid hdv
    obtain ⟨Dx, ex, rfl, -, hdl⟩ := slr_form hdv
    clear hx hss hdv
    go_wp2_with fail
    obtain ⟨wz, hwz⟩ : ∃ wz, wz = wr.alloc (.cells #[.string ss, .int .i64 x.type, .int .i64 x.life, .slice Dx x.data.length ex] 39) := ⟨_, rfl⟩
    have hbz : Below wr.heap.size wr wz := by rw [hwz]; exact (Below.refl _ _).alloc (Nat.le_refl _) _
    have s0 : wz.cell? ⟨wr.heap.size, 0, none⟩ = some (.string ss) := by rw [hwz, World.cell?_alloc_new]; rfl
    have s1 : wz.cell? ⟨wr.heap.size, 1, none⟩ = some (.int .i64 x.type) := by rw [hwz, World.cell?_alloc_new]; rfl
    have s2 : wz.cell? ⟨wr.heap.size, 2, none⟩ = some (.int .i64 x.life) := by rw [hwz, World.cell?_alloc_new]; rfl
    have s3 : wz.cell? ⟨wr.heap.size, 3, none⟩ = some (.slice Dx x.data.length ex) := by rw [hwz, World.cell?_alloc_new]; rfl
    have hzz : wr.heap.size < wz.heap.size := by rw [hwz]; simp
    rw [← hwz]
    have HBz := Lib.hid (HB.out.trans (hbz.mono HB.out.size))
    have HDz := Lib.hid (HDV.out.later rdatum_kept rdatum_more hbz)
    clear hwz hbz a0 a1 a2 a3 HB HDV hbb
    generalize wr.heap.size = bs at *
    cases hvn : Np.validName ss.data.toList with
    | false =>
      have HVN := Lib.hid hvn
      clear hvn
      refine (under_no ss sa hszs wz HVN.out).mono ?_
      rintro e w3 ⟨rfl, hb3⟩
      have HB' := Lib.hid (HB2.out.trans ((HBz.out.trans (hb3.mono HBz.out.size)).mono HB2.out.size))
      clear hb3
      go_wp2_with fail
      go_ret
      exact ⟨⟨false, rfl, fun h => by cases h⟩, HB'.out⟩
    | true =>
    have HVN := Lib.hid hvn
    clear hvn
    refine (under_yes ss sa hszs hsa wz HVN.out HV.out).mono ?_
    rintro e w3 ⟨rfl, hb3⟩
    have t0 := (hb3.cell (p := ⟨bs, 0, none⟩) hzz).trans s0
    have t1 := (hb3.cell (p := ⟨bs, 1, none⟩) hzz).trans s1
    have t2 := (hb3.cell (p := ⟨bs, 2, none⟩) hzz).trans s2
    have t3 := (hb3.cell (p := ⟨bs, 3, none⟩) hzz).trans s3
    have hz3 : bs < w3.heap.size := Nat.lt_of_lt_of_le hzz hb3.size
    have HB3 := Lib.hid (HBz.out.trans (hb3.mono HBz.out.size))
    have HD3 := Lib.hid (HDz.out.later rdatum_kept rdatum_more hb3)
    clear hb3 s0 s1 s2 s3 hzz HBz HDz
    have HB3' := Lib.hid (HB2.out.trans (HB3.out.mono HB2.out.size))
    cases hun : Np.underL ss.data.toList sa.data.toList with
    | false =>
      go_wp2_with fail
      go_ret
      exact ⟨⟨false, rfl, fun h => by cases h⟩, HB3'.out⟩
    | true =>
    have HUN := Lib.hid hun
    clear hun
    have hvc := refSetValid_any ss hszs x.type x.life (.slice Dx x.data.length ex) x.data w3 HD3.out
    have hse : (⟨ss.data.toList, x.type, x.life, x.data⟩ : Np.DSet) = x := by rw [HSS.out]
    rw [hse] at hvc
    have HVC := Lib.hid hvc
    clear hvc hse
    have HT := Lib.hid (And.intro t0 (And.intro t1 (And.intro t2 (And.intro t3 hz3))))
    go_wp2_with fail
    refine HVC.out.mono ?_
    rintro e w4 ⟨rfl, hb4⟩
    have u0 := (hb4.cell (p := ⟨bs, 0, none⟩) hz3).trans t0
    have u1 := (hb4.cell (p := ⟨bs, 1, none⟩) hz3).trans t1
    have u3 := (hb4.cell (p := ⟨bs, 3, none⟩) hz3).trans t3
    have hz4 : bs < w4.heap.size := Nat.lt_of_lt_of_le hz3 hb4.size
    have HB4 := Lib.hid (HB3.out.trans (hb4.mono HB3.out.size))
    have HD4 := Lib.hid (HD3.out.later rdatum_kept rdatum_more hb4)
    have HB4' := Lib.hid (HB3'.out.trans (hb4.mono HB3'.out.size))
    clear hb4 t0 t1 t2 t3 hz3 HVC HT HB3 HB3' HD3
    cases hvs : Np.validSet x with
    | false =>
      go_wp2_with fail
      go_ret
      exact ⟨⟨false, rfl, fun h => by cases h⟩, HB4'.out⟩
    | true =>
    have HVS := Lib.hid hvs
    clear hvs
    by_cases h8 : x.type = 8
    · have h8B : (x.type == 8) = true := by simpa using h8
      go_wp2_with fail
      go_ret
      exact ⟨⟨false, rfl, fun h => by cases h⟩, HB4'.out⟩
    have h8B : (x.type == 8) = false := by simpa using h8
    cases hsd : ss.data.toList.all Np.isDig with
    | true =>
      have HSD := Lib.hid hsd
      clear hsd
      go_wp2_with fail
      refine (word_any ss hszs _ true HSD.out).mono ?_
      rintro e w5 ⟨rfl, hb5⟩
      have HB5' := Lib.hid (HB4'.out.trans (hb5.mono HB4'.out.size))
      clear hb5
      go_wp2_with fail
      go_ret
      exact ⟨⟨false, rfl, fun h => by cases h⟩, HB5'.out⟩
    | false =>
    have HSD := Lib.hid hsd
    clear hsd
    go_wp2_with fail
    refine (word_any ss hszs _ false HSD.out).mono ?_
    rintro e w5 ⟨rfl, hb5⟩
    have v0 := (hb5.cell (p := ⟨bs, 0, none⟩) hz4).trans u0
    have v1 := (hb5.cell (p := ⟨bs, 1, none⟩) hz4).trans u1
    have v3 := (hb5.cell (p := ⟨bs, 3, none⟩) hz4).trans u3
    have hz5 : bs < w5.heap.size := Nat.lt_of_lt_of_le hz4 hb5.size
    have HB5 := Lib.hid (HB4.out.trans (hb5.mono HB4.out.size))
    have HD5 := Lib.hid (HD4.out.later rdatum_kept rdatum_more hb5)
    have HB5' := Lib.hid (HB4'.out.trans (hb5.mono HB4'.out.size))
    have HC := Lib.hid (And.intro v0 (And.intro v1 hz5))
    clear hb5 u0 u1 u3 hz4 HB4 HB4' HD4 h8B
    go_wp2_with fail
    clear v0 v1 v3
    go_loopw [69] (fun i wr => SmallData x.type x.data w5 i wr) (fun i _ => x.data.length - (intOf i).toNat)
    case atStart => exact ⟨0, Nat.zero_le _, rfl, Lib.hid (Below.refl _ _), Lib.hid (by simp)⟩
    case round =>
      obtain ⟨j, hj, rfl, HBr, HDD⟩ := hrel
      have y0 := (HBr.out.cell (p := ⟨bs, 0, none⟩) HC.out.2.2).trans HC.out.1
      have y1 := (HBr.out.cell (p := ⟨bs, 1, none⟩) HC.out.2.2).trans HC.out.2.1
      have hzr : bs < wr.heap.size := Nat.lt_of_lt_of_le HC.out.2.2 HBr.out.size
      by_cases hlt2 : j < x.data.length
      case pos =>
        obtain ⟨q, o', c'', sd, hA, hqb, _, hsd, hszd, e0, e1, e2⟩ := datum_at (HD5.out.later rdatum_kept rdatum_more HBr.out) (List.getElem?_eq_getElem hlt2)
        cases hA
        have HSDD := Lib.hid hsd
        have hjI : (j : Int) < (x.data.length : Int) := by omega
        have hj0 : (0 : Int) ≤ (j : Int) := by omega
        obtain ⟨d, hd⟩ : ∃ d, d = x.data[j] := ⟨_, rfl⟩
        rw [← hd] at e1 e2 HSDD
        have HD := Lib.hid hd
        clear hd hsd y0
        by_cases h23 : x.type = 2 ∨ x.type = 3
        case neg =>
          have h2B : (x.type == 2) = false := by simp; omega
          have h3B : (x.type == 3) = false := by simp; omega
          have HNX := Lib.hid (take_one (P := fun d : Np.Datum => x.type = 2 ∨ x.type = 3 → d.text.all Np.isDig = false) hlt2 HDD.out (fun h => absurd h h23))
          clear h23
          go_wp2_with fail
          go_roundw
          case rel => exact ⟨j + 1, by omega, by go_num, Lib.hid (HBr.out.alloc HBr.out.size _), HNX⟩
          case measure => simp [intOf] <;> omega
        case pos =>
          have hor : (x.type == 2) = true ∨ ((x.type == 2) = false ∧ (x.type == 3) = true) := by
            by_cases e : x.type = 2
            · exact .inl (by simpa using e)
            · exact .inr ⟨by simpa using e, by simp; omega⟩
          have h23H := Lib.hid h23
          clear h23
          cases hdd : sd.data.toList.all Np.isDig with
          | true =>
            have HDG2 := Lib.hid hdd
            clear hdd
            rcases hor with h2B | ⟨h2B, h3B⟩
            all_goals
              go_wp2_with fail
              refine (word_any sd hszd _ true HDG2.out).mono ?_
              rintro e w6 ⟨rfl, hb6⟩
              have HB6 := Lib.hid (HB5'.out.trans (((HBr.out.alloc HBr.out.size _).trans (hb6.mono (HBr.out.alloc HBr.out.size _).size)).mono HB5'.out.size))
              clear hb6
              go_wp2_with fail
              go_ret
              exact ⟨⟨false, rfl, fun h => by cases h⟩, HB6.out⟩
          | false =>
            have HDG2 := Lib.hid hdd
            have HNX := Lib.hid (take_one (P := fun d : Np.Datum => x.type = 2 ∨ x.type = 3 → d.text.all Np.isDig = false) hlt2 HDD.out (fun _ => by rw [← HD.out, ← HSDD.out]; exact hdd))
            clear hdd
            rcases hor with h2B | ⟨h2B, h3B⟩
            all_goals
              go_wp2_with fail
              refine (word_any sd hszd _ false HDG2.out).mono ?_
              rintro e w6 ⟨rfl, hb6⟩
              have HB6 := Lib.hid ((HBr.out.alloc HBr.out.size _).trans (hb6.mono (HBr.out.alloc HBr.out.size _).size))
              clear hb6
              go_wp2_with fail
              go_roundw
              case rel => exact ⟨j + 1, by omega, by go_num, HB6, HNX⟩
              case measure => simp [intOf] <;> omega
      case neg =>
        obtain rfl : j = x.data.length := by omega
        have hgw : Np.GoodW sa.data.toList x := ⟨by rw [← HSS.out]; exact HUN.out, HVS.out, h8, by rw [← HSS.out]; exact HSD.out, fun ht d hd => HDD.out d (by rw [List.take_length]; exact hd) ht⟩
        have HGW := Lib.hid hgw
        have HB6 := Lib.hid (HB5.out.trans (HBr.out.mono HB5.out.size))
        have HL6 := Lib.hid (HL2.out.later rset_kept rset_more HB6.out)
        have HC6 := Lib.hid (And.intro y0 (And.intro y1 hzr))
        have hk47 : (k : Int) ≤ 140737488355328 := by omega
        clear hgw HDD HBr HB5 HC y0 y1 hlt2 hj HD5 h8
        generalize wr = w6 at *
        go_wp2_with fail
        go_loopw [92] (fun i wr => SmallPair l x k w6 i wr) (fun i _ => k - (intOf i).toNat)
        case atStart => exact ⟨0, Nat.zero_le _, rfl, Lib.hid (Below.refl _ _), Lib.hid (fun i _ h => by omega)⟩
        case round =>
          obtain ⟨j, hj, rfl, HBr, HP⟩ := hrel
          have y0 := (HBr.out.cell (p := ⟨bs, 0, none⟩) HC6.out.2.2).trans HC6.out.1
          have y1 := (HBr.out.cell (p := ⟨bs, 1, none⟩) HC6.out.2.2).trans HC6.out.2.1
          have hzr : bs < wr.heap.size := Nat.lt_of_lt_of_le HC6.out.2.2 HBr.out.size
          by_cases hjk : j < k
          case neg =>
            obtain rfl : j = k := by omega
            have HUP := Lib.hid (HU.out.one hlt (by rw [← HX.out]; exact HGW.out) (fun i hi h => by rw [← HX.out]; exact HP.out i hi h))
            have HB7 := Lib.hid (HB6.out.trans (HBr.out.mono HB6.out.size))
            clear y0 y1
            go_wp2_with fail
            go_roundw
            case rel => exact ⟨j + 1, by omega, by go_num, HB7, HUP⟩
            case measure => simp [intOf] <;> omega
          case pos =>
            have hjl : j < l.length := by omega
            obtain ⟨q, o', c'', sy, dy, hA, hqb, _, hsy, hszy, hdy, g0, g1, g2, g3⟩ := set_at (HL6.out.later rset_kept rset_more HBr.out) (List.getElem?_eq_getElem hjl)
            simp only [Value.slice.injEq] at hA
            obtain ⟨hA, _, rfl⟩ := hA
            cases hA
            have hjI : (j : Int) < (k : Int) := by omega
            have hj0 : (0 : Int) ≤ (j : Int) := by omega
            obtain ⟨Ay, cy, rfl, -, -⟩ := slr_form hdy
            have HSY := Lib.hid hsy
            clear hdy hsy
            obtain ⟨y, hy⟩ : ∃ y, y = l[j] := ⟨_, rfl⟩
            rw [← hy] at g1 g2 g3 HSY
            have HY := Lib.hid hy
            clear hy
            have HB7 := Lib.hid (fun o => HB2.out.trans ((HB6.out.trans ((HBr.out.alloc HBr.out.size o).mono HB6.out.size)).mono HB2.out.size))
            have HB8 := Lib.hid (fun o => HBr.out.alloc HBr.out.size o)
            by_cases hnm : sy = ss
            · subst hnm
              have hnmB : (sy.toList == sy.toList) = true := by simp
              by_cases ht : y.type = x.type
              · have htB : (y.type == x.type) = true := by simpa using ht
                go_wp2_with fail
                go_ret
                exact ⟨⟨false, rfl, fun h => by cases h⟩, HB7.out _⟩
              · have htB : (y.type == x.type) = false := by simpa using ht
                have HPN := Lib.hid (pair_one hjl HP.out (by rw [← HY.out]; exact fun h => ht h.2))
                clear ht
                go_wp2_with fail
                go_roundw
                case rel => exact ⟨j + 1, by omega, by go_num, Lib.hid (HB8.out _), HPN⟩
                case measure => simp [intOf] <;> omega
            · have hnmB : (sy.toList == ss.toList) = false := beq_eq_false_iff_ne.2 (fun e => hnm (str_ext (by rw [← ByteArray.toList_eq, ← ByteArray.toList_eq]; exact e)))
              have HPN := Lib.hid (pair_one hjl HP.out (by rw [← HY.out]; exact fun h => hnm (str_ext (by rw [HSY.out, HSS.out]; exact h.1))))
              clear hnm
              go_wp2_with fail
              go_roundw
              case rel => exact ⟨j + 1, by omega, by go_num, Lib.hid (HB8.out _), HPN⟩
              case measure => simp [intOf] <;> omega
end Go.Proofs.YtnbolgdccdnjeaaGreatDoor
