/- lexer.Lex. -/
import Derived.Test.YtnbolgdccdnjeaaGreatDoorToken
import Derived.Test.YtnbolgdccdnjeaaGreatDoorOwn
import Derived.Deep.WholeRow
import Derived.Deep.DeepMust
import Derived.Deep.AppendLies
namespace Go.Proofs.YtnbolgdccdnjeaaGreatDoor
open Go.RowKit
/-- A whole array into the block that was made last. -/
theorem wpList_store_new {P : Program} {ops : Array Oper} {rest : List Oper} {op : Oper} {a : Act} (w : World) {Q : Exit → Act → World → Prop} (hgd : op.guard = none) (ty : TypeId) (x y : Operand) (ho : op.op = .store ty x y) (c c' : Array Value)
    (hx : a.eval x = .pointer (some ⟨w.heap.size, 0, none⟩)) (hy : a.eval y = .agg c') (hi : (P.info? ty).map (·.size) = some c'.size) (hs : c.size = c'.size) (h1 : c'.all (·.oneCell') = true)
    (h : wpList P ops Q rest (a.put op.dst undef) (w.alloc (.cells c' ty))) : wpList P ops Q (op :: rest) a (w.alloc (.cells c ty)) := by
  refine wpList_plain hgd fun _ hK => ?_
  unfold Oper.wp execOp
  simp only [ho, hx, hy, Instr.storeAt, Instr.sureAddr, Sem.run_bind, Sem.run_pure, Result.andThen_ok, run_storeVar_new w ty c c' hi hs h1]
  exact hK _ _ h
def OwnTok (w : World) (base : Nat) (v : Value) (ts : List Np.Tok) : Prop := w.ownsRow base 66 4 v ts.length (ts.flatMap fun t => (tokVal t).toList)
theorem Tryz.infoTok : (Tryz.prog.info? 66).map (fun i => (i.zero, i.size, i.bytes)) = some (some (.agg #[.int .i64 0, .string ⟨#[]⟩, .int .i64 0, .int .i64 0]), 4, 40) := by kernel_rfl
theorem ownTok_nil (w : World) (base : Nat) : OwnTok w base (.slice none 0 0) [] := ⟨rfl, .inl ⟨rfl, rfl⟩⟩
def RTok (_ : World) (_ : Nat) (e : List Value) (t : Np.Tok) : Prop := e = (tokVal t).toList
theorem rtok_kept : KeptR RTok := fun _ _ _ _ _ h _ => h
theorem rtok_more : MoreR RTok := fun _ _ _ _ _ h _ => h
/-- What Lex hands back. -/
def GivesLex (w : World) (x : List Np.Tok × Int × Nat) (e : Ending) (w' : World) : Prop :=
  ∃ v, e = .returned (.tuple #[v, .int .i64 x.2.1, .int .i64 x.2.2]) ∧ SlR RTok 4 w' w'.heap.size v x.1 ∧ Below w.heap.size w w'
theorem slr_nil' (w : World) (B : Nat) : SlR RTok 4 w B (.slice none 0 0) [] := ⟨none, 0, rfl, by simp, by simp, fun i x h => by simp at h⟩
/-- The tokens found, and those to come. -/
def addToks (ts : List Np.Tok) (x : List Np.Tok × Int × Nat) : List Np.Tok × Int × Nat := (ts ++ x.1, x.2)
def LexRel (w3 : World) (base : Nat) (s : ByteArray) (vt i : Value) (wr : World) : Prop :=
  ∃ (k : Nat) (ts : List Np.Tok) (A : Option Addr) (c : Nat), k ≤ s.size ∧ ts.length ≤ 2000 ∧ i = .int .i64 k ∧ vt = .slice A ts.length c ∧ Hid (OwnTok wr base vt ts) ∧ Hid (Below w3.heap.size w3 wr) ∧ Hid (Np.lexFrom s.data.toList 0 0 = addToks ts (Np.lexFrom (s.data.toList.drop k) k ts.length))
set_option maxRecDepth 100000 in
set_option maxHeartbeats 4000000 in
theorem lex_any (s : ByteArray) (hs : s.size ≤ 140737488355328) (w : World) (hE : ErrIn w) :
    Calls Tryz.prog 29 #[.string s] w (GivesLex w (Np.lex s.data.toList)) := by
  have HE := Lib.hid hE
  clear hE
  by_cases h8 : 8000 < s.size
  · have HL : Hid (Np.lex s.data.toList = ([], 2, 0)) := Lib.hid (by simp [Np.lex, h8])
    generalize Np.lex s.data.toList = x at *
    have h8' : (8000 : Int) < (s.size : Int) := by omega
    go_enter Tryz.func29, Tryz.ntmps29
    go_wp2_with fail
    go_ret3
    rw [HL.out]
    exact ⟨_, rfl, slr_nil' _ _, Below.refl _ _⟩
  · have HL : Hid (Np.lex s.data.toList = if (Np.lexFrom s.data.toList 0 0).2.1 = 0 then ((Np.lexFrom s.data.toList 0 0).1, 0, 0) else ([], (Np.lexFrom s.data.toList 0 0).2)) := Lib.hid (by unfold Np.lex; rw [if_neg (by rw [size_list]; exact h8)])
    generalize Np.lex s.data.toList = x at *
    have h8' : (s.size : Int) ≤ 8000 := by omega
    have h8d : decide ((8000 : Int) < (s.size : Int)) = false := by simp; omega
    have h8n : decide (8000 < s.size) = false := by simp; omega
    have hz := zero98
    go_enter Tryz.func29, Tryz.ntmps29
    go_wp2_with fail
    refine (classes_any _).mono ?_
    rintro e w1 ⟨rfl, hb1⟩
    have HB1 := Lib.hid hb1
    clear hb1
    go_wp2_with (first
      | (with_reducible refine wpList_store_new _ rfl 110 (.tmp 5) (.tmp 16) rfl (tabArr fun _ => 0) (tabArr clsI) rfl rfl (by rw [tabArr_size]; exact info98) (by rw [tabArr_size, tabArr_size]) (tabArr_one _) ?_))
    refine (endings_any s _ _).mono ?_
    rintro e w3 ⟨rfl, hb3, he3, hl3⟩
    simp only [World.size_alloc] at he3 hl3 hb3
    have hT : TabAt w1.heap.size w3 := (hb3.block _ (by omega)).trans (heap_alloc_new w1 _)
    have hEn : Ends (w1.heap.size + 1) w1.heap.size s w3 := ⟨he3, hT, hl3⟩
    have hbw : Below w.heap.size w w3 := (HB1.out.alloc HB1.out.size _).trans (hb3.mono (by have := HB1.out.size; omega))
    have hEr := HE.out.keep hbw
    have EN := Lib.hid hEn
    have ER := Lib.hid hEr
    have HW3 := Lib.hid hbw
    clear hb3 he3 hT hEn hbw hEr hl3
    have hlt3 : w1.heap.size < w3.heap.size := EN.out.tab.lt
    obtain ⟨i0, hi0, hz0, hz1, hz2⟩ := info_parts Tryz.infoTok
    go_wp2_with fail
    go_loopw [7, 8] (fun vt i wr => LexRel w3 w3.heap.size s vt i wr) (fun _ i _ => s.size - (intOf i).toNat)
    case atStart => exact ⟨0, [], none, 0, by omega, by simp, rfl, rfl, Lib.hid (ownTok_nil _ _), Lib.hid (Below.refl _ _), Lib.hid (by simp [addToks])⟩
    case round =>
      obtain ⟨k, ts, A, c, hk, h2000, rfl, rfl, HO, HB, HL3⟩ := hrel
      by_cases hlt : k < s.size
      · have hE := EN.out.keep HB.out
        obtain ⟨f, cap, hfn, eg, hcall⟩ := end_call (w1.heap.size + 1) w1.heap.size s (by omega) k hlt wr hE
        have HM := Lib.hid hE.at_.map
        have HF : Hid (Instr.findNow (.int .i64) (.int .i64 (Np.cls s[k])) (endMap (w1.heap.size + 1) 8).toList 0 = some (some (Np.cls s[k], .func (.func f) #[] cap))) := Lib.hid (by rw [endMap_find _ _ (Np.cls_lt _), hfn])
        have c2 : wr.cell? ⟨w1.heap.size, (s[k]).toNat, none⟩ = some (.int .i64 (Np.cls s[k])) := hE.tab.cell s[k]
        have h256 : ((s[k]).toNat : Int) < 256 := by have := UInt8.toNat_lt s[k]; omega
        have hkI : (k : Int) < (s.size : Int) := by omega
        have HC := Lib.hid hcall
        have hd : s.data.toList.drop k = s[k] :: s.data.toList.drop (k + 1) := List.drop_eq_getElem_cons (by rw [size_list]; exact hlt)
        have HD := Lib.hid hd
        have hwl : Np.width (s.data.toList.drop k) ≤ s.size - k := by have := Np.width_le (s.data.toList.drop k); rw [List.length_drop, size_list] at this; exact this
        generalize hwd : Np.width (s.data.toList.drop k) = n at *
        have HWD := Lib.hid hwd
        have h7 := Np.cls_lt s[k]
        generalize hcl : Np.cls s[k] = cl at *
        have HCL := Lib.hid hcl
        clear hE hfn hcall hd hwd hcl
        by_cases hgap : cl = 1 ∨ cl = 2
        · have hg0 : ((cl : Int) == 1) = true ∨ (((cl : Int) == 1) = false ∧ ((cl : Int) == 2) = true) := by simp; omega
          have HR : Hid (Np.lexFrom (s.data.toList.drop k) k ts.length = Np.lexFrom (s.data.toList.drop (k + n)) (k + n) ts.length ∧ 1 ≤ n) := Lib.hid (by
            rw [HD.out, Np.lexFrom_gap _ _ (by rw [HCL.out]; exact hgap), ← HD.out, HWD.out, List.drop_drop]
            refine ⟨rfl, ?_⟩
            have := Np.width_gap (r := s.data.toList.drop (k + 1)) (c := s[k]) (by rw [HCL.out]; exact hgap)
            rw [← HD.out, HWD.out] at this
            exact this)
          clear hgap
          rcases hg0 with g1 | ⟨g1, g2⟩
          all_goals
            go_wp2_with (first
              | (with_reducible refine wpList_lookup_int (o := ⟨some 30, .lookup 112 (.tmp 28) (.tmp 29) false, _, _, _, _⟩) _ rfl (.tmp 28) (.tmp 29) 112 rfl 109 115 .i64 Tryz.underlying112 Tryz.underlying109 (w1.heap.size + 1 + 1 + 1 + 1) (endMap (w1.heap.size + 1) 8) 8 rfl HM.out (cl : Int) rfl cl (.func (.func f) #[] cap) HF.out ?_))
            refine HC.out.mono ?_
            rintro e w4 ⟨rfl, hb4⟩
            have HB4 := Lib.hid hb4
            clear hb4
            go_wp2_with fail
            go_roundw
            case rel =>
              refine ⟨k + n, ts, A, c, by omega, h2000, rfl, rfl, Lib.hid (ownsRow_keep HO.out (fun g hg => HB4.out.block g (ownsRow_base HO.out g hg).2)), Lib.hid (HB.out.trans (HB4.out.mono HB.out.size)), Lib.hid ?_⟩
              rw [HL3.out, HR.out.1]
            case measure =>
              have := HR.out.2
              simp [intOf]; omega
        · have g1 : ((cl : Int) == 1) = false := by simp; omega
          have g2 : ((cl : Int) == 2) = false := by simp; omega
          have HG := Lib.hid (show ¬ (Np.cls s[k] = 1 ∨ Np.cls s[k] = 2) by rw [HCL.out]; exact hgap)
          clear hgap
          by_cases hn0 : n = 0
          · subst hn0
            have HX : Hid (x = ([], 10, k)) := Lib.hid (by
              have h1 := Np.lexFrom_bad (c := s[k]) (r := s.data.toList.drop (k + 1)) k ts.length HG.out (by rw [← HD.out]; exact HWD.out)
              rw [← HD.out] at h1
              rw [HL.out, HL3.out, h1]
              simp [addToks])
            go_wp2_with (first
              | (with_reducible refine wpList_lookup_int (o := ⟨some 30, .lookup 112 (.tmp 28) (.tmp 29) false, _, _, _, _⟩) _ rfl (.tmp 28) (.tmp 29) 112 rfl 109 115 .i64 Tryz.underlying112 Tryz.underlying109 (w1.heap.size + 1 + 1 + 1 + 1) (endMap (w1.heap.size + 1) 8) 8 rfl HM.out (cl : Int) rfl cl (.func (.func f) #[] cap) HF.out ?_))
            refine HC.out.mono ?_
            rintro e w4 ⟨rfl, hb4⟩
            have HB4 := Lib.hid hb4
            clear hb4
            rw [Nat.add_zero]
            go_wp2_with fail
            go_ret3
            rw [HX.out]
            exact ⟨_, rfl, slr_nil' _ _, HW3.out.trans ((HB.out.trans (HB4.out.mono HB.out.size)).mono HW3.out.size)⟩
          · have hne : ((((k + n : Nat) : Int)) == (k : Int)) = false := by simp; omega
            have hne2 : ((k : Int) + (n : Int) == (k : Int)) = false := by simp; omega
            have HN0 := Lib.hid (show Np.width (s[k] :: s.data.toList.drop (k + 1)) ≠ 0 by rw [← HD.out, HWD.out]; exact hn0)
            by_cases hfull : ts.length = 2000
            · have HX : Hid (x = ([], 2, k)) := Lib.hid (by
                have h1 := Np.lexFrom_limit (c := s[k]) (r := s.data.toList.drop (k + 1)) k HG.out HN0.out
                rw [← HD.out] at h1
                rw [HL.out, HL3.out, hfull, h1]
                simp [addToks])
              have hf2 : ((ts.length : Int) == 2000) = true := by simp; omega
              clear hfull
              go_wp2_with (first
                | (with_reducible refine wpList_lookup_int (o := ⟨some 30, .lookup 112 (.tmp 28) (.tmp 29) false, _, _, _, _⟩) _ rfl (.tmp 28) (.tmp 29) 112 rfl 109 115 .i64 Tryz.underlying112 Tryz.underlying109 (w1.heap.size + 1 + 1 + 1 + 1) (endMap (w1.heap.size + 1) 8) 8 rfl HM.out (cl : Int) rfl cl (.func (.func f) #[] cap) HF.out ?_))
              refine HC.out.mono ?_
              rintro e w4 ⟨rfl, hb4⟩
              have HB4 := Lib.hid hb4
              clear hb4
              go_wp2_with fail
              go_ret3
              rw [HX.out]
              exact ⟨_, rfl, slr_nil' _ _, HW3.out.trans ((HB.out.trans (HB4.out.mono HB.out.size)).mono HW3.out.size)⟩
            · have hf2 : ((ts.length : Int) == 2000) = false := by simp; omega
              have hex : (s.extract k (k + n)).data.toList = (s[k] :: s.data.toList.drop (k + 1)).take (Np.width (s[k] :: s.data.toList.drop (k + 1))) := by
                rw [ext_list, List.drop_take, ← HD.out, HWD.out, show k + n - k = n by omega]
              have hes : (s.extract k (k + n)).size = n := by rw [ByteArray.size_extract]; omega
              have HK := Lib.hid hfull
              have HEX := Lib.hid hex
              have HES := Lib.hid hes
              have hb1' : (k : Int) ≤ (k : Int) + (n : Int) := by omega
              have hb2' : (k : Int) + (n : Int) ≤ (s.size : Int) := by omega
              clear hfull hex hes
              have HTK : Hid (Np.tokOf cl (s.extract k (k + n)).data.toList = Np.tokOf (Np.cls s[k]) ((s[k] :: s.data.toList.drop (k + 1)).take (Np.width (s[k] :: s.data.toList.drop (k + 1))))) := Lib.hid (by rw [HEX.out, HCL.out])
              go_wp2_with (first
                | (with_reducible refine wpList_lookup_int (o := ⟨some 30, .lookup 112 (.tmp 28) (.tmp 29) false, _, _, _, _⟩) _ rfl (.tmp 28) (.tmp 29) 112 rfl 109 115 .i64 Tryz.underlying112 Tryz.underlying109 (w1.heap.size + 1 + 1 + 1 + 1) (endMap (w1.heap.size + 1) 8) 8 rfl HM.out (cl : Int) rfl cl (.func (.func f) #[] cap) HF.out ?_))
              refine HC.out.mono ?_
              rintro e w4 ⟨rfl, hb4⟩
              have HB4 := Lib.hid hb4
              clear hb4
              go_wp2_with fail
              refine (token_any cl (s.extract k (k + n)) (by rw [HES.out]; omega) (by rw [HES.out]; omega) w4 (ER.out.keep (HB.out.trans (HB4.out.mono HB.out.size)))).mono ?_
              rintro e w5 ⟨rfl, hb5⟩
              rw [HTK.out]
              have HB5 := Lib.hid hb5
              have hw5 : Below w3.heap.size w3 w5 := HB.out.trans ((HB4.out.trans (hb5.mono HB4.out.size)).mono HB.out.size)
              have HW5 := Lib.hid hw5
              clear hb5 hw5
              by_cases her : (Np.tokOf (Np.cls s[k]) ((s[k] :: s.data.toList.drop (k + 1)).take (Np.width (s[k] :: s.data.toList.drop (k + 1))))).1 = 0
              · have h1 := Np.lexFrom_tok (c := s[k]) (r := s.data.toList.drop (k + 1)) k ts.length HG.out HN0.out HK.out her
                rw [← HD.out, HWD.out, List.drop_drop] at h1
                have H1 := Lib.hid h1
                clear h1
                rw [← HD.out, HWD.out] at her ⊢
                generalize (Np.tokOf (Np.cls s[k]) ((s.data.toList.drop k).take n)) = tk at *
                obtain ⟨er, t⟩ := tk
                simp only at her H1 ⊢
                subst her
                simp only [tokVal]
                have hown5 : OwnTok w5 w3.heap.size (.slice A ts.length c) ts := ownsRow_keep HO.out (fun g hg => ((HB4.out.trans (HB5.out.mono HB4.out.size)).block g (ownsRow_base HO.out g hg).2))
                have HO5 := Lib.hid hown5
                clear hown5
                have hz3 := HW5.out.size
                go_wp2_with (at_builtin; go_must (refine wpList_append_own_at _ rfl _ _ 61 rfl w3.heap.size 66 i0 (.agg #[.int .i64 0, .string ⟨#[]⟩, .int .i64 0, .int .i64 0]) 4 40 Tryz.underlying61 hi0 hz0 hz1 hz2 rfl (by decide) _ _ _ rfl (World.ownsRow.alloc (World.ownsRow.alloc HO5.out _) _) ⟨w5.heap.size + 1, 0, none⟩ 1 1 [.int .i64 t.kind, .string (bytesOf t.text), .int .i64 t.n, .int .i64 k] rfl rfl (World.news_of_block (cs := #[.int .i64 t.kind, .string (bytesOf t.text), .int .i64 t.n, .int .i64 k]) (t := 66) (fr := (0, 0)) (heap_alloc2_new w5 _ _)) (by simp [Value.oneCell']) (by unfold maxLen; omega) (by omega) (by simp; omega) ?_); intro v6 w6 hown6 hg6 hiff6 hat6; clear hiff6)
                obtain ⟨A6, c6, rfl⟩ := ownsRow_form hown6
                have hot : OwnTok w6 w3.heap.size (.slice A6 (ts.length + 1) c6) (ts ++ [{ t with pos := (k : Int) }]) := by
                  have := hown6
                  unfold OwnTok
                  rw [List.length_append, List.length_singleton, List.flatMap_append]
                  exact this
                have hbb : Below w3.heap.size w3 w6 := ((HW5.out.alloc HW5.out.size _).alloc (by simp; omega) _).grown hg6 (by simp; omega) (fun g hg => (ownsRow_base HO5.out g hg).1)
                refine ⟨⟨k + n, ts ++ [{ t with pos := (k : Int) }], A6, c6, by omega, by have := HK.out; simp; omega, by go_num, by simp, Lib.hid (by simpa using hot), Lib.hid hbb, Lib.hid ?_⟩, by simp [intOf]; omega⟩
                rw [HL3.out, H1.out]
                simp [addToks]
              · have h1 := Np.lexFrom_err (c := s[k]) (r := s.data.toList.drop (k + 1)) k ts.length HG.out HN0.out HK.out her
                have HX : Hid (x = ([], (Np.tokOf (Np.cls s[k]) ((s[k] :: s.data.toList.drop (k + 1)).take (Np.width (s[k] :: s.data.toList.drop (k + 1))))).1, k)) := Lib.hid (by
                  rw [← HD.out] at h1 ⊢
                  rw [HL.out, HL3.out, h1]
                  rw [← HD.out] at her
                  simp [addToks, her])
                generalize (Np.tokOf (Np.cls s[k]) ((s[k] :: s.data.toList.drop (k + 1)).take (Np.width (s[k] :: s.data.toList.drop (k + 1))))) = tk at *
                obtain ⟨er, t⟩ := tk
                simp only at her HX ⊢
                have her' : (er != 0) = true := by simp [her]
                simp only [tokVal]
                clear her h1
                go_wp2_with fail
                go_ret3
                rw [HX.out]
                exact ⟨_, rfl, slr_nil' _ _, HW3.out.trans ((HW5.out.alloc HW5.out.size _).mono HW3.out.size)⟩
      · have : k = s.size := by omega
        subst this
        go_wp2_with fail
        go_ret3
        have hx : x = (ts, 0, 0) := by
          rw [HL.out, HL3.out, List.drop_of_length_le (by rw [size_list]; omega)]
          simp [addToks, Np.lexFrom]
        rw [hx]
        exact ⟨_, rfl, slr_of_own (xs := ts) (fun t => (tokVal t).toList) (by simp [tokVal]) HO.out (by omega) (fun _ _ => rfl), HW3.out.trans (HB.out.mono HW3.out.size)⟩
end Go.Proofs.YtnbolgdccdnjeaaGreatDoor
