/- ParserWrong: the walk. -/
import Derived.Test.YtnbolgdccdnjeaaGreatDoorPFile
import Derived.Test.YtnbolgdccdnjeaaGreatDoorParFile2
import Derived.Test.YtnbolgdccdnjeaaGreatDoorHead04
import Derived.Deep.RegionHeld3
namespace Go.Proofs.YtnbolgdccdnjeaaGreatDoor
open Go.RowKit
def wrongCells : Array Value := #[.string ⟨#[64, 32, 116, 101, 120, 116, 32, 55, 59]⟩, .string ⟨#[64, 32, 116, 101, 120, 116, 32]⟩, .string ⟨#[64, 32, 116, 101, 120, 116, 59]⟩, .string ⟨#[64, 32, 116, 101, 120, 116]⟩, .string ⟨#[64, 32, 110, 111, 116, 104, 105, 110, 103, 32, 55, 59]⟩, .string ⟨#[64, 32]⟩, .string ⟨#[64, 59]⟩, .string ⟨#[64]⟩, .string ⟨#[64, 32, 116, 101, 120, 116, 32, 34, 65, 34, 59]⟩, .string ⟨#[64, 32, 116, 101, 120, 116, 32]⟩, .string ⟨#[64, 32, 116, 101, 120, 116, 32, 34, 32, 97, 34, 59]⟩, .string ⟨#[64, 32, 116, 101, 120, 116, 32]⟩, .string ⟨#[64, 32, 116, 101, 120, 116, 32, 34, 97, 34, 44, 32, 34, 97, 34, 59]⟩, .string ⟨#[64, 32, 116, 101, 120, 116, 32, 34, 97, 34, 44, 32, 34, 97, 34]⟩, .string ⟨#[64, 32, 116, 101, 120, 116, 32, 108, 105, 102, 101, 32, 49, 48, 48, 48, 48, 49, 32, 34, 97, 34, 59]⟩, .string ⟨#[64, 32, 116, 101, 120, 116, 32, 108, 105, 102, 101, 32]⟩, .string ⟨#[45, 59, 32]⟩, .string ⟨#[]⟩, .string ⟨#[64, 32, 116, 101, 120, 116, 32, 34, 97, 34, 32, 34, 98, 34, 59]⟩, .string ⟨#[64, 32, 116, 101, 120, 116, 32, 34, 97, 34, 32]⟩, .string ⟨#[97, 46, 46, 98, 32, 116, 101, 120, 116, 32, 34, 97, 34, 59]⟩, .string ⟨#[]⟩, .string ⟨#[55, 32, 116, 101, 120, 116, 32, 34, 97, 34, 59]⟩, .string ⟨#[]⟩]
def errCells : Array Value := #[.int .i64 10, .int .i64 10, .int .i64 10, .int .i64 10, .int .i64 3, .int .i64 3, .int .i64 5, .int .i64 3, .int .i64 10, .int .i64 10, .int .i64 11, .int .i64 10]
theorem wrongCells_at : ∀ k, k < 12 → wrongCells[k * 2]? = some (strs (Np.wk k)) ∧ wrongCells[k * 2 + 1]? = some (strs (Np.wq k)) ∧ errCells[k]? = some (.int .i64 (Np.we k))
  | 0, _ => ⟨rfl, rfl, rfl⟩
  | 1, _ => ⟨rfl, rfl, rfl⟩
  | 2, _ => ⟨rfl, rfl, rfl⟩
  | 3, _ => ⟨rfl, rfl, rfl⟩
  | 4, _ => ⟨rfl, rfl, rfl⟩
  | 5, _ => ⟨rfl, rfl, rfl⟩
  | 6, _ => ⟨rfl, rfl, rfl⟩
  | 7, _ => ⟨rfl, rfl, rfl⟩
  | 8, _ => ⟨rfl, rfl, rfl⟩
  | 9, _ => ⟨rfl, rfl, rfl⟩
  | 10, _ => ⟨rfl, rfl, rfl⟩
  | 11, _ => ⟨rfl, rfl, rfl⟩
  | k + 12, h => absurd h (by omega)
theorem wrong_bd : ∀ k, k < 12 → (Np.wk k).length ≤ 30 ∧ (Np.wq k).length ≤ 30 := by decide +kernel
def WrongRel (l : List Np.DSet) (apex : List UInt8) (w3 : World) (i : Value) (wr : World) : Prop := ∃ k : Nat, k ≤ l.length ∧ i = .int .i64 k ∧ Hid (Below w3.heap.size w3 wr) ∧ Hid (∀ j (h : j < l.length), j < k → ¬ (l[j].name = apex ∧ l[j].type = 5))
set_option maxRecDepth 100000 in
set_option maxHeartbeats 8000000 in
theorem pwrong_walk (sa : ByteArray) (hsa : sa.size ≤ 140737488355328) (v : Value) (l : List Np.DSet) (wh : Int) (b1 : 0 ≤ wh) (b2 : wh ≤ 255) (w : World) (hI : ParIn w) (hl : SlR RSet 4 w w.heap.size v l) :
    Calls Tryz.prog 11 #[.string sa, v, .int .u8 wh] w fun e w' => e = .returned (.bool true) ∧ Below w.heap.size w w' := by
  have HI := Lib.hid hI
  have HL := Lib.hid hl
  obtain ⟨A, c, rfl, hc, hlen⟩ := slr_form hl
  clear hI hl
  go_enter Tryz.func11, Tryz.ntmps11
  go_wp2_with fail
  refine (head04_any _ HI.out).mono ?_
  rintro e w0 ⟨rfl, hb0⟩
  have HB0 := Lib.hid hb0
  have HI0 := Lib.hid (HI.out.keep hb0)
  have HL0 := Lib.hid (HL.out.later rset_kept rset_more hb0)
  clear hb0 HI HL
  go_wp2_with fail
  refine (small_any sa hsa _ l _ HL0.out).mono ?_
  rintro e w1 ⟨⟨b, rfl, hsm⟩, hb1⟩
  have HB1 := Lib.hid (HB0.out.trans (hb1.mono HB0.out.size))
  have HI1 := Lib.hid (HI0.out.keep hb1)
  have HL1 := Lib.hid (HL0.out.later rset_kept rset_more hb1)
  clear hb1 HI0 HL0 HB0
  cases b with
  | false =>
    clear hsm
    go_wp2_with fail
    go_ret
    exact ⟨rfl, HB1.out⟩
  | true =>
  have HSM := Lib.hid (hsm rfl)
  clear hsm
  have hal : sa.data.toList.length ≤ 1000 := by have := (Np.name_form HSM.out.name).1; omega
  have hgv : ∀ x ∈ l, Np.validSet x = true ∧ x.type ≤ 7 := fun x hx => ⟨(HSM.out.good x hx).2.1, Np.goodW_parts (HSM.out.good x hx)⟩
  have HGV := Lib.hid hgv
  clear hgv
  go_wp2_with fail
  go_loopw [25] (fun i wr => WrongRel l sa.data.toList w1 i wr) (fun i _ => l.length - (intOf i).toNat)
  case atStart => exact ⟨0, Nat.zero_le _, rfl, Lib.hid (Below.refl _ _), Lib.hid (fun _ _ h => by omega)⟩
  case round =>
    obtain ⟨k, hk, rfl, HBk, HNO⟩ := hrel
    by_cases hlt : k < l.length
    case pos =>
      obtain ⟨q, o1, c1, ss, dv, hA, hqb, _, hss, hszs, hdv, e0, e1, e2, e3⟩ := set_at (HL1.out.later rset_kept rset_more HBk.out) (List.getElem?_eq_getElem hlt)
      cases hA
      have hkI : (k : Int) < (l.length : Int) := by omega
      have hk0 : (0 : Int) ≤ (k : Int) := by omega
      obtain ⟨x, hx⟩ : ∃ x, x = l[k] := ⟨_, rfl⟩
      rw [← hx] at e1 e2 hss hdv
      have HX := Lib.hid hx
      have HSS := Lib.hid hss
      obtain ⟨Dx, ex, rfl, -, -⟩ := slr_form hdv
      clear hx hss hdv
      have HB' := Lib.hid (fun o => HB1.out.trans ((HBk.out.alloc HBk.out.size o).mono HB1.out.size))
      have HBn := Lib.hid (fun o => HBk.out.alloc HBk.out.size o)
      by_cases hnm : ss = sa
      · subst hnm
        have hnmB : (ss.toList == ss.toList) = true := by simp
        by_cases ht : x.type = 5
        · have htB : (x.type == 5) = true := by simpa using ht
          go_wp2_with fail
          go_ret
          exact ⟨rfl, HB'.out _⟩
        · have htB : (x.type == 5) = false := by simpa using ht
          have HNX := Lib.hid (show ∀ j (h : j < l.length), j < k + 1 → ¬ (l[j].name = ss.data.toList ∧ l[j].type = 5) from fun j h hj => by
            rcases Nat.lt_or_ge j k with h2 | h2
            · exact HNO.out j h h2
            · obtain rfl : j = k := by omega
              rw [← HX.out]; exact fun h => ht h.2)
          clear ht
          go_wp2_with fail
          go_roundw
          case rel => exact ⟨k + 1, by omega, by go_num, Lib.hid (HBn.out _), HNX⟩
          case measure => simp [intOf] <;> omega
      · have hnmB : (ss.toList == sa.toList) = false := beq_eq_false_iff_ne.2 (fun e => hnm (str_ext (by rw [← ByteArray.toList_eq, ← ByteArray.toList_eq]; exact e)))
        have HNX := Lib.hid (show ∀ j (h : j < l.length), j < k + 1 → ¬ (l[j].name = sa.data.toList ∧ l[j].type = 5) from fun j h hj => by
          rcases Nat.lt_or_ge j k with h2 | h2
          · exact HNO.out j h h2
          · obtain rfl : j = k := by omega
            rw [← HX.out]; exact fun h => hnm (str_ext (by rw [HSS.out]; exact h.1)))
        clear hnm
        go_wp2_with fail
        go_roundw
        case rel => exact ⟨k + 1, by omega, by go_num, Lib.hid (HBn.out _), HNX⟩
        case measure => simp [intOf] <;> omega
    case neg =>
      have hno : ∀ s ∈ l, ¬ (s.name = sa.data.toList ∧ s.type = 5) := fun s hs => by
        obtain ⟨j, hj, rfl⟩ := List.mem_iff_getElem.1 hs
        exact HNO.out j hj (by omega)
      have HN := Lib.hid hno
      have HBr := Lib.hid (HB1.out.trans (HBk.out.mono HB1.out.size))
      have HIr := Lib.hid (HI1.out.keep HBk.out)
      have HLr := Lib.hid (HL1.out.later rset_kept rset_more HBk.out)
      clear hno HBk HNO HB1 HI1 HL1
      go_upto_region 12 with fail
      obtain ⟨wa, hwa⟩ : ∃ wa, wa = (wr.alloc (.cells #[.string ⟨#[64, 32, 116, 101, 120, 116, 32, 55, 59]⟩, .string ⟨#[64, 32, 116, 101, 120, 116, 32]⟩, .string ⟨#[64, 32, 116, 101, 120, 116, 59]⟩, .string ⟨#[64, 32, 116, 101, 120, 116]⟩, .string ⟨#[64, 32, 110, 111, 116, 104, 105, 110, 103, 32, 55, 59]⟩, .string ⟨#[64, 32]⟩, .string ⟨#[64, 59]⟩, .string ⟨#[64]⟩, .string ⟨#[64, 32, 116, 101, 120, 116, 32, 34, 65, 34, 59]⟩, .string ⟨#[64, 32, 116, 101, 120, 116, 32]⟩, .string ⟨#[64, 32, 116, 101, 120, 116, 32, 34, 32, 97, 34, 59]⟩, .string ⟨#[64, 32, 116, 101, 120, 116, 32]⟩, .string ⟨#[64, 32, 116, 101, 120, 116, 32, 34, 97, 34, 44, 32, 34, 97, 34, 59]⟩, .string ⟨#[64, 32, 116, 101, 120, 116, 32, 34, 97, 34, 44, 32, 34, 97, 34]⟩, .string ⟨#[64, 32, 116, 101, 120, 116, 32, 108, 105, 102, 101, 32, 49, 48, 48, 48, 48, 49, 32, 34, 97, 34, 59]⟩, .string ⟨#[64, 32, 116, 101, 120, 116, 32, 108, 105, 102, 101, 32]⟩, .string ⟨#[45, 59, 32]⟩, .string ⟨#[]⟩, .string ⟨#[64, 32, 116, 101, 120, 116, 32, 34, 97, 34, 32, 34, 98, 34, 59]⟩, .string ⟨#[64, 32, 116, 101, 120, 116, 32, 34, 97, 34, 32]⟩, .string ⟨#[97, 46, 46, 98, 32, 116, 101, 120, 116, 32, 34, 97, 34, 59]⟩, .string ⟨#[]⟩, .string ⟨#[55, 32, 116, 101, 120, 116, 32, 34, 97, 34, 59]⟩, .string ⟨#[]⟩] 73)).alloc (.cells #[.int .i64 10, .int .i64 10, .int .i64 10, .int .i64 10, .int .i64 3, .int .i64 3, .int .i64 5, .int .i64 3, .int .i64 10, .int .i64 10, .int .i64 11, .int .i64 10] 25) := ⟨_, rfl⟩
      rw [← hwa]
      have hwb : wa = (wr.alloc (.cells wrongCells 73)).alloc (.cells errCells 25) := hwa
      have hba : Below wr.heap.size wr wa := by rw [hwb]; exact ((Below.refl _ _).alloc (Nat.le_refl _) _).alloc (by simp) _
      have hza : wa.heap.size = wr.heap.size + 2 := by rw [hwb]; simp
      obtain ⟨m, hmE⟩ : ∃ m : Nat, wh % 12 = (m : Int) := ⟨(wh % 12).toNat, (Int.toNat_of_nonneg (Int.emod_nonneg _ (by omega))).symm⟩
      have hm12 : m < 12 := by have := Int.emod_lt_of_pos wh (show (0 : Int) < 12 by omega); omega
      obtain ⟨g1, g2, g3⟩ := wrongCells_at m hm12
      have p1 : wa.cell? ⟨wr.heap.size, m * 2, none⟩ = some (strs (Np.wk m)) := by
        rw [hwb]
        refine (World.cell?_alloc_lt _ _ _ (by simp)).trans ((World.cell?_alloc_new wr wrongCells 73 (m * 2)).trans g1)
      have p2 : wa.cell? ⟨wr.heap.size, m * 2 + 1, none⟩ = some (strs (Np.wq m)) := by
        rw [hwb]
        refine (World.cell?_alloc_lt _ _ _ (by simp)).trans ((World.cell?_alloc_new wr wrongCells 73 (m * 2 + 1)).trans g2)
      have p3 : wa.cell? ⟨wr.heap.size + 1, m, none⟩ = some (.int .i64 (Np.we m)) := by
        rw [hwb]
        have h := World.cell?_alloc_new (wr.alloc (.cells wrongCells 73)) errCells 25 m
        rw [World.size_alloc] at h
        exact h.trans g3
      have HP := Lib.hid (And.intro p1 (And.intro p2 (And.intro p3 hza)))
      have HBa := Lib.hid (HBr.out.trans (hba.mono HBr.out.size))
      have HIa := Lib.hid (HIr.out.keep hba)
      have HLa := Lib.hid (HLr.out.later rset_kept rset_more hba)
      have HMI := Lib.hid hmE
      clear hwa hwb hba g1 g2 g3 p1 p2 p3 HBr HIr HLr hza
      generalize wr.heap.size = bl at *
      go_upto_region 13 with fail
      rw [HMI.out]
      have hf := fileF_any sa.data.toList hal (.slice A l.length c) l false false HSM.out.few HGV.out wa HLa.out
      rw [← str_eta, show Np.fileF sa.data.toList l false false = Np.preF sa.data.toList false l ++ [125, 10] from rfl] at hf
      have hlaw := fun h8 => Np.wrong_parse HSM.out HN.out hm12 h8
      generalize Np.preF sa.data.toList false l = P at *
      obtain ⟨F, hF⟩ : ∃ F, F = P ++ [125, 10] := ⟨_, rfl⟩
      rw [← hF] at hf
      have hFl : F.length = P.length + 2 := by rw [hF]; simp
      have hFx : (⟨F.toArray⟩ : ByteArray).extract 0 P.length = ⟨P.toArray⟩ := str_ext (by rw [hF]; simp)
      have HF := Lib.hid hf
      have HLAW := Lib.hid hlaw
      have HFX := Lib.hid hFx
      obtain ⟨hw1, hw2⟩ := wrong_bd m hm12
      generalize Np.wk m = K at *
      generalize Np.wq m = Q at *
      generalize Np.we m = er at *
      clear hf hlaw hFx hF hmE
      go_wp2_with fail
      refine HF.out.mono ?_
      rintro e w3 ⟨rfl, hb3⟩
      have HB3 := Lib.hid (HBa.out.trans (hb3.mono HBa.out.size))
      have HI3 := Lib.hid (HIa.out.keep hb3)
      have r1 := (hb3.cell (p := ⟨bl, m * 2, none⟩) (by have := HP.out.2.2.2; dsimp only; omega)).trans HP.out.1
      have r2 := (hb3.cell (p := ⟨bl, m * 2 + 1, none⟩) (by have := HP.out.2.2.2; dsimp only; omega)).trans HP.out.2.1
      have r3 := (hb3.cell (p := ⟨bl + 1, m, none⟩) (by have := HP.out.2.2.2; dsimp only; omega)).trans HP.out.2.2.1
      have hz3 : bl + 1 < w3.heap.size := by have := HP.out.2.2.2; have := hb3.size; omega
      have HR := Lib.hid (And.intro r1 (And.intro r2 (And.intro r3 hz3)))
      have hF2 : ¬ (F.length : Int) < 2 := by omega
      clear hb3 HF HBa HIa HLa HP
      by_cases h79 : 7900 < F.length
      · have h79I : (7900 : Int) < (F.length : Int) := by omega
        go_wp2_with fail
        go_ret
        exact ⟨rfl, HB3.out⟩
      have h79I : ¬ (7900 : Int) < (F.length : Int) := by omega
      have hwr : IntKind.i64.wrap ((F.length : Int) - 2) = (P.length : Int) := by rw [IntWalk.i64_in _ (by omega)]; omega
      have hpl : (P.length : Int) ≤ (F.length : Int) := by omega
      have hplN : P.length ≤ F.length := by omega
      have hp0 : (0 : Int) ≤ (P.length : Int) := by omega
      go_upto_region 17 with fail
      rw [HFX.out]
      have hcat : ((⟨P.toArray⟩ : ByteArray) ++ ⟨K.toArray⟩ ++ ⟨#[125, 10]⟩).data.toList = P ++ (K ++ [125, 10]) := by simp
      have hlw := HLAW.out (by omega)
      rw [← hcat] at hlw
      have hpa := HI3.out.parse ((⟨P.toArray⟩ : ByteArray) ++ ⟨K.toArray⟩ ++ ⟨#[125, 10]⟩) (by rw [← size_list, hcat]; simp; omega) hlw
      have HPA := Lib.hid hpa
      have hs1 : ¬ 9223372036854775807 < P.length + K.length := by omega
      have hs2 : ¬ 9223372036854775807 < P.length + K.length + 2 := by omega
      have hm0 : (0 : Int) ≤ (m : Int) := by omega
      have hm1 : (m : Int) < 12 := by omega
      clear hpa hlw hcat HLAW hwr
      go_wp2_with fail
      refine HPA.out.mono ?_
      rintro e w4 ⟨zv, dv, rfl, hz, hd, hb4⟩
      dsimp only at hz hd
      have HB4 := Lib.hid (HB3.out.trans (hb4.mono HB3.out.size))
      have t2 := (hb4.cell (p := ⟨bl, m * 2 + 1, none⟩) (by have := HR.out.2.2.2; dsimp only; omega)).trans HR.out.2.1
      have t3 := (hb4.cell (p := ⟨bl + 1, m, none⟩) (by have := HR.out.2.2.2; dsimp only; omega)).trans HR.out.2.2.1
      have hz4 : bl + 1 < w4.heap.size := Nat.lt_of_lt_of_le HR.out.2.2.2 hb4.size
      have HD := Lib.hid hd
      obtain ⟨Az, cz, rfl, -, -⟩ := slr_form hz
      obtain ⟨Ad, cd, rfl, -, -⟩ := slr_form hd
      clear hz hd hb4 HPA HB3 HI3 r1 r2 r3 hz3 HR HFX
      simp only [List.length_cons, List.length_nil]
      have hpq : IntKind.i64.wrap ((P.length : Int) + (Q.length : Int)) = (P.length : Int) + (Q.length : Int) := IntWalk.i64_in _ (by omega)
      rw [← hpq] at HD
      have hbal : Below w4.heap.size w4 (w4.alloc (.cells #[.int .i64 er, .int .i64 (IntKind.i64.wrap ((P.length : Int) + (Q.length : Int)))] 55)).drew := Below.drew ((Below.refl _ _).alloc (Nat.le_refl _) _)
      have hdn := (slr_fresh (W := w4) (t := 55) (n := 1) (R := RDiag) (sz := 2) (xs := [⟨er, IntKind.i64.wrap ((P.length : Int) + (Q.length : Int))⟩]) (cs := #[.int .i64 er, .int .i64 (IntKind.i64.wrap ((P.length : Int) + (Q.length : Int)))]) encG (fun _ _ => rfl) rfl rfl (by simp) (fun _ _ _ _ => rfl)).later rdiag_kept rdiag_more (Below.drew (Below.refl _ _))
      have hde := HD.out.later rdiag_kept rdiag_more hbal
      have u2 : (w4.alloc (.cells #[.int .i64 er, .int .i64 (IntKind.i64.wrap ((P.length : Int) + (Q.length : Int)))] 55)).drew.cell? ⟨bl, m * 2 + 1, none⟩ = some (strs Q) := (hbal.cell (by dsimp only; omega)).trans t2
      have u3 : (w4.alloc (.cells #[.int .i64 er, .int .i64 (IntKind.i64.wrap ((P.length : Int) + (Q.length : Int)))] 55)).drew.cell? ⟨bl + 1, m, none⟩ = some (.int .i64 er) := (hbal.cell (by dsimp only; omega)).trans t3
      have HU := Lib.hid (And.intro u2 (And.intro u3 (show bl + 1 < (w4.alloc (.cells #[.int .i64 er, .int .i64 (IntKind.i64.wrap ((P.length : Int) + (Q.length : Int)))] 55)).drew.heap.size from Nat.lt_of_lt_of_le hz4 hbal.size)))
      have HDN := Lib.hid hdn
      have HDE := Lib.hid hde
      have HBL := Lib.hid (HB4.out.trans (hbal.mono HB4.out.size))
      have hblt : bl < w4.heap.size := by omega
      clear hbal hdn hde HD hpq u2 u3 HB4
      go_upto_region 18 with fail
      go_region_held3 (fun w' => w'.cell? ⟨bl, m * 2 + 1, none⟩ = some (strs Q) ∧ w'.cell? ⟨bl + 1, m, none⟩ = some (.int .i64 er)) (go_keep)
        (first
          | (go_at_call 34; refine (sameDiags_yes _ _ [⟨er, IntKind.i64.wrap ((P.length : Int) + (Q.length : Int))⟩] _ HDE.out HDN.out).mono ?_; rintro e w6 ⟨rfl, hb6⟩; have v2 := (hb6.cell (p := ⟨bl, m * 2 + 1, none⟩) (by have := HU.out.2.2; dsimp only; omega)).trans HU.out.1; have v3 := (hb6.cell (p := ⟨bl + 1, m, none⟩) HU.out.2.2).trans HU.out.2.1; have HB6 := Lib.hid (HBL.out.trans (hb6.mono HBL.out.size)); clear hb6))
      go_wp2_with fail
      go_ret
      exact ⟨rfl, HB6.out⟩
end Go.Proofs.YtnbolgdccdnjeaaGreatDoor
