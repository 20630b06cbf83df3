/- The reference lexer: tokens. -/
import Derived.Test.YtafpbfmhhpcalaaDoorRef2
namespace Go.Proofs.YtafpbfmhhpcalaaDoor
open Go.RowKit
/-- The token, with its place; nothing, if there is an error. -/
def refTok (x : Int × Np.Tok) (q : Int) : Np.Tok := if x.1 = 0 then { x.2 with pos := q } else Np.Tok.zero
theorem reft_ret {k : Int} {t : Np.Tok} {x : Int × Np.Tok} {vk : Int} {vs : ByteArray} {vn q : Int} (h : x = (k, t)) (hk : k = 0) (h1 : vk = t.kind) (h2 : vs = bytesOf t.text) (h3 : vn = t.n) : (Value.tuple #[.agg #[.int .i64 vk, .string vs, .int .i64 vn, .int .i64 q], .int .i64 0]) = .tuple #[.agg (tokVal (refTok x q)), .int .i64 x.1] := by
  subst h hk h1 h2 h3; simp [tokVal, refTok]
theorem reft_err {k : Int} {t : Np.Tok} {x : Int × Np.Tok} {q : Int} (h : x = (k, t)) (hk : k ≠ 0) : (Value.tuple #[.agg #[.int .i64 0, .string ⟨#[]⟩, .int .i64 0, .int .i64 0], .int .i64 k]) = .tuple #[.agg (tokVal (refTok x q)), .int .i64 x.1] := by
  subst h; simp [tokVal, refTok, hk, Np.Tok.zero, bytesOf]
theorem decFrom_snoc (s : ByteArray) (j : Nat) (h : j < s.size) : decFrom 0 (s.data.toList.take (j + 1)) = 10 * decFrom 0 (s.data.toList.take j) + ((s[j]).toNat - 48) := by
  rw [take_snoc s j h]; simp [decFrom, List.foldl_append]
theorem decFrom_app (a : List UInt8) : ∀ (b : List UInt8), decFrom 0 a ≤ decFrom 0 (a ++ b) := fun b => by
  have : decFrom 0 (a ++ b) = decFrom (decFrom 0 a) b := by simp [decFrom, List.foldl_append]
  rw [this]; exact decFrom_ge _ _
theorem cls6 (c : UInt8) : Np.cls c = 6 ↔ c = 34 := all_bytes (P := fun c => Np.cls c = 6 ↔ c = 34) (by decide +kernel) c
set_option maxRecDepth 100000 in
set_option maxHeartbeats 2000000 in
theorem refToken_any (s : ByteArray) (hs : s.size ≤ 100000) (h0 : 0 < s.size) (q : Int) (w : World) :
    Calls Tryd.prog 57 #[.string s, .int .i64 q] w fun e w' => e = .returned (.tuple #[.agg (tokVal (refTok (Np.tokOf (Np.cls s[0]) s.data.toList) q)), .int .i64 (Np.tokOf (Np.cls s[0]) s.data.toList).1]) ∧ Below w.heap.size w w' := by
  have hb1 : ∀ o, Below w.heap.size w (w.alloc o) := fun o => (Below.refl _ w).alloc (Nat.le_refl _) _
  have HB1 := Lib.hid hb1
  clear hb1
  by_cases h7 : Np.cls s[0] = 7
  · have H7 : Hid ((Np.cls s[0] == 7) = true) := Lib.hid (by simp [h7])
    have HT : Hid (Np.tokOf (Np.cls s[0]) s.data.toList = (0, ⟨3, s.data.toList, 0, 0⟩)) := Lib.hid (by rw [h7]; rfl)
    generalize Np.tokOf (Np.cls s[0]) s.data.toList = x at *
    clear h7
    go_enter Tryd.func57, Tryd.ntmps57
    go_wp2_with (go_at_call 89; refine (refSign_any s[0] _).mono ?_; rintro e w' ⟨rfl, rfl⟩; rw [H7.out])
    refine bodyPost_ret (v := .tuple #[.agg #[.int .i64 3, .string s, .int .i64 0, .int .i64 q], .int .i64 0]) (by simp [results, Tryd.results57, go_sem]) rfl ⟨congrArg Ending.returned (reft_ret HT.out rfl rfl (bytesOf_list s).symm rfl), ?_⟩
    repeat refine Below.setCell ?_ (by simp) _
    exact HB1.out _
  · have H7 : Hid ((Np.cls s[0] == 7) = false) := Lib.hid (by simp [h7])
    by_cases h6 : s[0] = 34
    · have h6c := (cls6 s[0]).2 h6
      have b6 : (((s[0]).toNat : Int) == 34) = true := by rw [h6]; rfl
      by_cases hl : 42 < s.size
      · have HT : Hid (Np.tokOf (Np.cls s[0]) s.data.toList = (3, Np.Tok.zero)) := Lib.hid (by rw [h6c]; simp [Np.tokOf, hl])
        generalize Np.tokOf (Np.cls s[0]) s.data.toList = x at *
        have hl' : (42 : Int) < (s.size : Int) := by omega
        clear h7 h6 h6c
        go_enter Tryd.func57, Tryd.ntmps57
        go_wp2_with (go_at_call 89; refine (refSign_any s[0] _).mono ?_; rintro e w' ⟨rfl, rfl⟩; rw [H7.out])
        refine bodyPost_ret (v := .tuple #[.agg #[.int .i64 0, .string ⟨#[]⟩, .int .i64 0, .int .i64 0], .int .i64 3]) (by simp [results, Tryd.results57, go_sem]) rfl ⟨congrArg Ending.returned (reft_err HT.out (by decide)), ?_⟩
        repeat refine Below.setCell ?_ (by simp) _
        exact HB1.out _
      · have HT : Hid (Np.tokOf (Np.cls s[0]) s.data.toList = (0, ⟨1, s.data.toList, 0, 0⟩)) := Lib.hid (by rw [h6c]; simp [Np.tokOf, hl])
        generalize Np.tokOf (Np.cls s[0]) s.data.toList = x at *
        have hl' : (s.size : Int) ≤ 42 := by omega
        clear h7 h6 h6c
        go_enter Tryd.func57, Tryd.ntmps57
        go_wp2_with (go_at_call 89; refine (refSign_any s[0] _).mono ?_; rintro e w' ⟨rfl, rfl⟩; rw [H7.out])
        refine bodyPost_ret (v := .tuple #[.agg #[.int .i64 1, .string s, .int .i64 0, .int .i64 q], .int .i64 0]) (by simp [results, Tryd.results57, go_sem]) rfl ⟨congrArg Ending.returned (reft_ret HT.out rfl rfl (bytesOf_list s).symm rfl), ?_⟩
        repeat refine Below.setCell ?_ (by simp) _
        exact HB1.out _
    · have h6c : ¬ Np.cls s[0] = 6 := fun e => h6 ((cls6 s[0]).1 e)
      have b6 : (((s[0]).toNat : Int) == 34) = false := byte_ne (n := 34) (by decide) h6
      by_cases hd : s.data.toList.all Np.isDig = true
      · have HDG := Lib.hid hd
        by_cases hz : 1 < s.size ∧ s[0] = 48
        · have HT : Hid (Np.tokOf (Np.cls s[0]) s.data.toList = (10, Np.Tok.zero)) := Lib.hid (by
            have : s.data.toList.head? = some 48 := by rw [head_list s h0, hz.2]
            simp [Np.tokOf, h7, h6c, hd, hz.1, this])
          generalize Np.tokOf (Np.cls s[0]) s.data.toList = x at *
          obtain ⟨z1, z2⟩ := hz
          have z1' : (1 : Int) < (s.size : Int) := by omega
          have z3 : (((s[0]).toNat : Int) == 48) = true := by rw [z2]; rfl
          clear h7 h6 h6c hd z2
          go_enter Tryd.func57, Tryd.ntmps57
          go_wp2_with (first
            | (go_at_call 89; refine (refSign_any s[0] _).mono ?_; rintro e w' ⟨rfl, rfl⟩; rw [H7.out])
            | (go_at_call 91; refine (refDigits_any s hs h0 _).mono ?_; rintro e w' ⟨rfl, rfl⟩; rw [HDG.out]))
          refine bodyPost_ret (v := .tuple #[.agg #[.int .i64 0, .string ⟨#[]⟩, .int .i64 0, .int .i64 0], .int .i64 10]) (by simp [results, Tryd.results57, go_sem]) rfl ⟨congrArg Ending.returned (reft_err HT.out (by decide)), ?_⟩
          repeat refine Below.setCell ?_ (by simp) _
          exact HB1.out _
        · have hz' : ¬ (1 < s.data.toList.length ∧ s.data.toList.head? = some 48) := fun h => hz ⟨by rw [← size_list]; exact h.1, by have := h.2; rw [head_list s h0] at this; exact Option.some.inj this⟩
          have HT : Hid (Np.tokOf (Np.cls s[0]) s.data.toList = if 1000000000 < decFrom 0 s.data.toList then (3, Np.Tok.zero) else (0, ⟨2, [], decFrom 0 s.data.toList, 0⟩)) := Lib.hid (by
            unfold Np.tokOf; rw [if_neg h7, if_neg h6c, if_neg (by rw [hd]; simp), if_neg hz']; rfl)
          generalize Np.tokOf (Np.cls s[0]) s.data.toList = x at *
          have HZF : Hid (1 < s.size → (((s[0]).toNat : Int) == 48) = false) := Lib.hid (fun h => byte_ne (n := 48) (by decide) (fun e => hz ⟨h, e⟩))
          clear h7 h6 h6c hd hz hz'
          by_cases hs1 : 1 < s.size
          all_goals
            (try have hs1' : (1 : Int) < (s.size : Int) := by omega)
            (try have hs2' : (s.size : Int) ≤ 1 := by omega)
            (try have hzf := HZF.out hs1)
            go_enter Tryd.func57, Tryd.ntmps57
            go_wp2_with (first
              | (go_at_call 89; refine (refSign_any s[0] _).mono ?_; rintro e w' ⟨rfl, rfl⟩; rw [H7.out])
              | (go_at_call 91; refine (refDigits_any s hs h0 _).mono ?_; rintro e w' ⟨rfl, rfl⟩; rw [HDG.out]))
            go_loop [6, 7] (fun n i => ∃ j : Nat, j ≤ s.size ∧ i = .int .i64 j ∧ n = .int .i64 (decFrom 0 (s.data.toList.take j)) ∧ decFrom 0 (s.data.toList.take j) ≤ 1000000000) (fun _ i => s.size - (intOf i).toNat)
            case atStart => exact ⟨0, by omega, rfl, rfl, by simp [decFrom]⟩
            case round =>
              obtain ⟨j, hj, rfl, rfl, hm⟩ := hrel
              by_cases hlt : j < s.size
              · have hdj : Np.isDig s[j] = true := List.all_eq_true.1 HDG.out s[j] (List.mem_of_getElem? (get_list s j hlt))
                rw [dig_int] at hdj
                simp only [decide_eq_true_eq] at hdj
                obtain ⟨d1, d2⟩ := hdj
                have HSN := Lib.hid (decFrom_snoc s j hlt)
                have HAP := Lib.hid (show decFrom 0 (s.data.toList.take (j + 1)) ≤ decFrom 0 s.data.toList by
                  have := decFrom_app (s.data.toList.take (j + 1)) (s.data.toList.drop (j + 1))
                  rwa [List.take_append_drop] at this)
                have hdn : ((s[j]).toNat : Int) - 48 = (((s[j]).toNat - 48 : Nat) : Int) := by omega
                generalize decFrom 0 (s.data.toList.take j) = n at *
                have hmI : (n : Int) ≤ 1000000000 := by omega
                by_cases hbig : 1000000000 < 10 * n + ((s[j]).toNat - 48)
                · have hbI : (1000000000 : Int) < 10 * (n : Int) + (((s[j]).toNat : Int) - 48) := by omega
                  have HX : Hid (x = (3, Np.Tok.zero)) := Lib.hid (by rw [HT.out, if_pos (by have := HAP.out; rw [HSN.out] at this; omega)])
                  clear hdn hbig hm
                  go_wp2_with fail
                  refine bodyPost_ret (v := .tuple #[.agg #[.int .i64 0, .string ⟨#[]⟩, .int .i64 0, .int .i64 0], .int .i64 3]) (by simp [results, Tryd.results57, go_sem]) rfl ⟨congrArg Ending.returned (reft_err HX.out (by decide)), ?_⟩
                  repeat refine Below.setCell ?_ (by simp) _
                  exact HB1.out _
                · have hbI : 10 * (n : Int) + (((s[j]).toNat : Int) - 48) ≤ 1000000000 := by omega
                  clear hdn
                  go_wp2_with fail
                  go_round
                  case rel => exact ⟨j + 1, by omega, by go_num, by rw [HSN.out]; congr 1; omega, by rw [HSN.out]; omega⟩
                  case measure => simp [intOf]; omega
              · have hje : j = s.size := by omega
                subst hje
                have HX : Hid (x = (0, ⟨2, [], decFrom 0 (s.data.toList.take s.size), 0⟩)) := Lib.hid (by
                  rw [take_all s _ (Nat.le_refl _)] at hm ⊢
                  rw [HT.out, if_neg (by omega)])
                generalize decFrom 0 (s.data.toList.take s.size) = n at *
                go_wp2_with fail
                refine bodyPost_ret (v := .tuple #[.agg #[.int .i64 2, .string ⟨#[]⟩, .int .i64 n, .int .i64 q], .int .i64 0]) (by simp [results, Tryd.results57, go_sem]) rfl ⟨congrArg Ending.returned (reft_ret HX.out rfl rfl rfl rfl), ?_⟩
                repeat refine Below.setCell ?_ (by simp) _
                exact HB1.out _
      · have hd' : s.data.toList.all Np.isDig = false := by simpa using hd
        have HDG := Lib.hid hd'
        by_cases hl : 60 < s.size
        · have HT : Hid (Np.tokOf (Np.cls s[0]) s.data.toList = (3, Np.Tok.zero)) := Lib.hid (by simp [Np.tokOf, h7, h6c, hd', hl])
          generalize Np.tokOf (Np.cls s[0]) s.data.toList = x at *
          have hl' : (60 : Int) < (s.size : Int) := by omega
          clear h7 h6 h6c hd hd'
          go_enter Tryd.func57, Tryd.ntmps57
          go_wp2_with (first
            | (go_at_call 89; refine (refSign_any s[0] _).mono ?_; rintro e w' ⟨rfl, rfl⟩; rw [H7.out])
            | (go_at_call 91; refine (refDigits_any s hs h0 _).mono ?_; rintro e w' ⟨rfl, rfl⟩; rw [HDG.out]))
          refine bodyPost_ret (v := .tuple #[.agg #[.int .i64 0, .string ⟨#[]⟩, .int .i64 0, .int .i64 0], .int .i64 3]) (by simp [results, Tryd.results57, go_sem]) rfl ⟨congrArg Ending.returned (reft_err HT.out (by decide)), ?_⟩
          repeat refine Below.setCell ?_ (by simp) _
          exact HB1.out _
        · have HT : Hid (Np.tokOf (Np.cls s[0]) s.data.toList = (0, ⟨1, s.data.toList, 0, 0⟩)) := Lib.hid (by simp [Np.tokOf, h7, h6c, hd', hl])
          generalize Np.tokOf (Np.cls s[0]) s.data.toList = x at *
          have hl' : (s.size : Int) ≤ 60 := by omega
          clear h7 h6 h6c hd hd'
          go_enter Tryd.func57, Tryd.ntmps57
          go_wp2_with (first
            | (go_at_call 89; refine (refSign_any s[0] _).mono ?_; rintro e w' ⟨rfl, rfl⟩; rw [H7.out])
            | (go_at_call 91; refine (refDigits_any s hs h0 _).mono ?_; rintro e w' ⟨rfl, rfl⟩; rw [HDG.out]))
          refine bodyPost_ret (v := .tuple #[.agg #[.int .i64 1, .string s, .int .i64 0, .int .i64 q], .int .i64 0]) (by simp [results, Tryd.results57, go_sem]) rfl ⟨congrArg Ending.returned (reft_ret HT.out rfl rfl (bytesOf_list s).symm rfl), ?_⟩
          repeat refine Below.setCell ?_ (by simp) _
          exact HB1.out _
end Go.Proofs.YtafpbfmhhpcalaaDoor
