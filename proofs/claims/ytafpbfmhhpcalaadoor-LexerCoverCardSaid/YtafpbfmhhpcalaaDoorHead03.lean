/- The examples of layer 3 answer as the document says. -/
import Derived.Test.YtafpbfmhhpcalaaDoorSame3
import Derived.Test.YtafpbfmhhpcalaaDoorLexEval
namespace Go.Proofs.YtafpbfmhhpcalaaDoor
open Go.RowKit
/-- A slice that was just laid. -/
theorem slr_new {α : Type} {R : World → Nat → List Value → α → Prop} {sz n : Nat} {W : World} {t : TypeId} {xs : List α} {cs : Array Value} (enc : α → List Value) (hlen : ∀ x ∈ xs, (enc x).length = sz) (hn : xs.length = n) (hcs : cs.toList = xs.flatMap enc) (hl : xs.length ≤ 140737488355328) (hR : ∀ W B, ∀ x ∈ xs, R W B (enc x) x) :
    SlR R sz (W.alloc (.cells cs t)) (W.alloc (.cells cs t)).heap.size (.slice (some ⟨W.heap.size, 0, none⟩) n n) xs := by
  have hpart : ∀ (l : List α) (i : Nat) (x : α) (j : Nat) (u : Value), (∀ y ∈ l, (enc y).length = sz) → l[i]? = some x → (enc x)[j]? = some u → (l.flatMap enc)[i * sz + j]? = some u := by
    intro l
    induction l with
    | nil => intro i x j u _ hi; simp at hi
    | cons y l ih =>
      intro i x j u hle hi hj
      rw [List.flatMap_cons]
      have hy : (enc y).length = sz := hle y (by simp)
      cases i with
      | zero =>
        simp at hi; subst hi
        rw [List.getElem?_append_left (by have := (List.getElem?_eq_some_iff.1 hj).1; omega)]
        simpa using hj
      | succ i =>
        rw [List.getElem?_append_right (by rw [hy, Nat.succ_mul]; omega), hy]
        have := ih i x j u (fun y hy => hle y (by simp [hy])) (by simpa using hi) hj
        rw [show (i + 1) * sz + j - sz = i * sz + j by rw [Nat.succ_mul]; omega]
        exact this
  subst hn
  refine ⟨_, _, rfl, Nat.le_refl _, hl, fun i x hx => ⟨W.heap.size, 0, enc x, rfl, by simp, hlen x (List.mem_of_getElem? hx), fun j u hj => ?_, hR _ _ x (List.mem_of_getElem? hx)⟩⟩
  have h1 := hpart xs i x j u hlen hx hj
  rw [← hcs] at h1
  rw [show 0 + i * sz + j = i * sz + j by omega]
  rw [World.cell?_alloc_new]
  simpa using h1
set_option maxRecDepth 100000 in
set_option maxHeartbeats 1000000 in
theorem fails_yes (s : ByteArray) (hs : s.size ≤ 140737488355328) (want : Int) (p : Nat) (hl : Np.lex s.data.toList = ([], want, p)) (w : World) (hE : ErrIn w) :
    Calls Tryd.prog 26 #[.string s, .int .i64 want, .int .i64 p] w fun e w' => e = .returned (.bool true) ∧ Below w.heap.size w w' := by
  have HL := Lib.hid hl
  have HE := Lib.hid hE
  clear hl hE
  go_enter Tryd.func26, Tryd.ntmps26
  go_wp2_with fail
  refine (lex_any s hs _ HE.out).mono ?_
  rw [HL.out]
  rintro e w1 ⟨v, rfl, ⟨A, c, rfl, _, _, _⟩, hb⟩
  have HB := Lib.hid hb
  clear hb
  go_wp2_with fail
  go_ret
  exact ⟨rfl, HB.out⟩
set_option maxRecDepth 100000 in
theorem mk1_any (s : ByteArray) (p : Int) (w : World) :
    Calls Tryd.prog 50 #[.string s, .int .i64 p] w fun e w' => e = .returned (.agg #[.int .i64 1, .string s, .int .i64 0, .int .i64 p]) ∧ Below w.heap.size w w' := by
  go_enter Tryd.func50, Tryd.ntmps50
  go_wp2_with fail
  exact bodyPost_ret (v := .agg #[.int .i64 1, .string s, .int .i64 0, .int .i64 p]) (by simp [results, Tryd.results50, go_sem]) rfl ⟨rfl, (Below.refl _ _).alloc (Nat.le_refl _) _⟩
set_option maxRecDepth 100000 in
theorem mk3_any (s : ByteArray) (p : Int) (w : World) :
    Calls Tryd.prog 51 #[.string s, .int .i64 p] w fun e w' => e = .returned (.agg #[.int .i64 3, .string s, .int .i64 0, .int .i64 p]) ∧ Below w.heap.size w w' := by
  go_enter Tryd.func51, Tryd.ntmps51
  go_wp2_with fail
  exact bodyPost_ret (v := .agg #[.int .i64 3, .string s, .int .i64 0, .int .i64 p]) (by simp [results, Tryd.results51, go_sem]) rfl ⟨rfl, (Below.refl _ _).alloc (Nat.le_refl _) _⟩
def want1 : List Np.Tok := [⟨1, [122, 111, 110, 101], 0, 0⟩, ⟨1, [120, 46], 0, 5⟩, ⟨3, [123], 0, 8⟩, ⟨3, [64], 0, 10⟩, ⟨1, [116, 101, 120, 116], 0, 12⟩, ⟨1, [34, 97, 32, 98, 34], 0, 17⟩, ⟨3, [59], 0, 22⟩, ⟨3, [125], 0, 24⟩]
def want2 : List Np.Tok := [⟨1, [48, 97], 0, 0⟩, ⟨2, [], 7, 3⟩, ⟨1, [46], 0, 9⟩, ⟨1, [42, 46, 97], 0, 11⟩]
theorem shift_zero (ts : List Np.Tok) : ts = ts.map (Np.shift 0) := by
  induction ts with
  | nil => rfl
  | cons t ts ih => rw [List.map_cons, ← ih]; simp [Np.shift]
set_option maxRecDepth 100000 in
set_option maxHeartbeats 4000000 in
theorem head03_any (w : World) (hE : ErrIn w) :
    Calls Tryd.prog 18 #[] w fun e w' => e = .returned (.bool true) ∧ Below w.heap.size w w' := by
  have HE := Lib.hid hE
  clear hE
  go_enter Tryd.func18, Tryd.ntmps18
  go_wp2_with fail
  refine (lex_any ⟨#[122, 111, 110, 101, 32, 120, 46, 32, 123, 32, 64, 32, 116, 101, 120, 116, 32, 34, 97, 32, 98, 34, 59, 32, 125]⟩ (by decide) _ HE.out).mono ?_
  rw [show Np.lex (⟨#[122, 111, 110, 101, 32, 120, 46, 32, 123, 32, 64, 32, 116, 101, 120, 116, 32, 34, 97, 32, 98, 34, 59, 32, 125]⟩ : ByteArray).data.toList = (want1, 0, 0) from Np.ex1]
  rintro e w1 ⟨v1, rfl, hx1, hb1⟩
  have HX1 := Lib.hid hx1
  have HB1 := Lib.hid hb1
  have hz1 := hb1.size
  obtain ⟨A1, p1, rfl, _, _, _⟩ := hx1
  clear hb1
  go_wp2_with fail
  refine (mk1_any ⟨#[122, 111, 110, 101]⟩ 0 _).mono ?_
  rintro e w2 ⟨rfl, hb⟩
  have Hs_w2 := Lib.hid hb
  clear hb
  go_wp2_with fail
  refine (mk1_any ⟨#[120, 46]⟩ 5 _).mono ?_
  rintro e w3 ⟨rfl, hb⟩
  have Hs_w3 := Lib.hid hb
  clear hb
  go_wp2_with fail
  refine (mk3_any ⟨#[123]⟩ 8 _).mono ?_
  rintro e w4 ⟨rfl, hb⟩
  have Hs_w4 := Lib.hid hb
  clear hb
  go_wp2_with fail
  refine (mk3_any ⟨#[64]⟩ 10 _).mono ?_
  rintro e w5 ⟨rfl, hb⟩
  have Hs_w5 := Lib.hid hb
  clear hb
  go_wp2_with fail
  refine (mk1_any ⟨#[116, 101, 120, 116]⟩ 12 _).mono ?_
  rintro e w6 ⟨rfl, hb⟩
  have Hs_w6 := Lib.hid hb
  clear hb
  go_wp2_with fail
  refine (mk1_any ⟨#[34, 97, 32, 98, 34]⟩ 17 _).mono ?_
  rintro e w7 ⟨rfl, hb⟩
  have Hs_w7 := Lib.hid hb
  clear hb
  go_wp2_with fail
  refine (mk3_any ⟨#[59]⟩ 22 _).mono ?_
  rintro e w8 ⟨rfl, hb⟩
  have Hs_w8 := Lib.hid hb
  clear hb
  go_wp2_with fail
  refine (mk3_any ⟨#[125]⟩ 24 _).mono ?_
  rintro e w9 ⟨rfl, hb⟩
  have Hs_w9 := Lib.hid hb
  clear hb
  have hbA : Below w1.heap.size w1 w9 := (((((((Hs_w2.out.trans (Hs_w3.out.mono (Hs_w2.out).size)).trans (Hs_w4.out.mono ((Hs_w2.out.trans (Hs_w3.out.mono (Hs_w2.out).size))).size)).trans (Hs_w5.out.mono (((Hs_w2.out.trans (Hs_w3.out.mono (Hs_w2.out).size)).trans (Hs_w4.out.mono ((Hs_w2.out.trans (Hs_w3.out.mono (Hs_w2.out).size))).size))).size)).trans (Hs_w6.out.mono ((((Hs_w2.out.trans (Hs_w3.out.mono (Hs_w2.out).size)).trans (Hs_w4.out.mono ((Hs_w2.out.trans (Hs_w3.out.mono (Hs_w2.out).size))).size)).trans (Hs_w5.out.mono (((Hs_w2.out.trans (Hs_w3.out.mono (Hs_w2.out).size)).trans (Hs_w4.out.mono ((Hs_w2.out.trans (Hs_w3.out.mono (Hs_w2.out).size))).size))).size))).size)).trans (Hs_w7.out.mono (((((Hs_w2.out.trans (Hs_w3.out.mono (Hs_w2.out).size)).trans (Hs_w4.out.mono ((Hs_w2.out.trans (Hs_w3.out.mono (Hs_w2.out).size))).size)).trans (Hs_w5.out.mono (((Hs_w2.out.trans (Hs_w3.out.mono (Hs_w2.out).size)).trans (Hs_w4.out.mono ((Hs_w2.out.trans (Hs_w3.out.mono (Hs_w2.out).size))).size))).size)).trans (Hs_w6.out.mono ((((Hs_w2.out.trans (Hs_w3.out.mono (Hs_w2.out).size)).trans (Hs_w4.out.mono ((Hs_w2.out.trans (Hs_w3.out.mono (Hs_w2.out).size))).size)).trans (Hs_w5.out.mono (((Hs_w2.out.trans (Hs_w3.out.mono (Hs_w2.out).size)).trans (Hs_w4.out.mono ((Hs_w2.out.trans (Hs_w3.out.mono (Hs_w2.out).size))).size))).size))).size))).size)).trans (Hs_w8.out.mono ((((((Hs_w2.out.trans (Hs_w3.out.mono (Hs_w2.out).size)).trans (Hs_w4.out.mono ((Hs_w2.out.trans (Hs_w3.out.mono (Hs_w2.out).size))).size)).trans (Hs_w5.out.mono (((Hs_w2.out.trans (Hs_w3.out.mono (Hs_w2.out).size)).trans (Hs_w4.out.mono ((Hs_w2.out.trans (Hs_w3.out.mono (Hs_w2.out).size))).size))).size)).trans (Hs_w6.out.mono ((((Hs_w2.out.trans (Hs_w3.out.mono (Hs_w2.out).size)).trans (Hs_w4.out.mono ((Hs_w2.out.trans (Hs_w3.out.mono (Hs_w2.out).size))).size)).trans (Hs_w5.out.mono (((Hs_w2.out.trans (Hs_w3.out.mono (Hs_w2.out).size)).trans (Hs_w4.out.mono ((Hs_w2.out.trans (Hs_w3.out.mono (Hs_w2.out).size))).size))).size))).size)).trans (Hs_w7.out.mono (((((Hs_w2.out.trans (Hs_w3.out.mono (Hs_w2.out).size)).trans (Hs_w4.out.mono ((Hs_w2.out.trans (Hs_w3.out.mono (Hs_w2.out).size))).size)).trans (Hs_w5.out.mono (((Hs_w2.out.trans (Hs_w3.out.mono (Hs_w2.out).size)).trans (Hs_w4.out.mono ((Hs_w2.out.trans (Hs_w3.out.mono (Hs_w2.out).size))).size))).size)).trans (Hs_w6.out.mono ((((Hs_w2.out.trans (Hs_w3.out.mono (Hs_w2.out).size)).trans (Hs_w4.out.mono ((Hs_w2.out.trans (Hs_w3.out.mono (Hs_w2.out).size))).size)).trans (Hs_w5.out.mono (((Hs_w2.out.trans (Hs_w3.out.mono (Hs_w2.out).size)).trans (Hs_w4.out.mono ((Hs_w2.out.trans (Hs_w3.out.mono (Hs_w2.out).size))).size))).size))).size))).size))).size)).trans (Hs_w9.out.mono (((((((Hs_w2.out.trans (Hs_w3.out.mono (Hs_w2.out).size)).trans (Hs_w4.out.mono ((Hs_w2.out.trans (Hs_w3.out.mono (Hs_w2.out).size))).size)).trans (Hs_w5.out.mono (((Hs_w2.out.trans (Hs_w3.out.mono (Hs_w2.out).size)).trans (Hs_w4.out.mono ((Hs_w2.out.trans (Hs_w3.out.mono (Hs_w2.out).size))).size))).size)).trans (Hs_w6.out.mono ((((Hs_w2.out.trans (Hs_w3.out.mono (Hs_w2.out).size)).trans (Hs_w4.out.mono ((Hs_w2.out.trans (Hs_w3.out.mono (Hs_w2.out).size))).size)).trans (Hs_w5.out.mono (((Hs_w2.out.trans (Hs_w3.out.mono (Hs_w2.out).size)).trans (Hs_w4.out.mono ((Hs_w2.out.trans (Hs_w3.out.mono (Hs_w2.out).size))).size))).size))).size)).trans (Hs_w7.out.mono (((((Hs_w2.out.trans (Hs_w3.out.mono (Hs_w2.out).size)).trans (Hs_w4.out.mono ((Hs_w2.out.trans (Hs_w3.out.mono (Hs_w2.out).size))).size)).trans (Hs_w5.out.mono (((Hs_w2.out.trans (Hs_w3.out.mono (Hs_w2.out).size)).trans (Hs_w4.out.mono ((Hs_w2.out.trans (Hs_w3.out.mono (Hs_w2.out).size))).size))).size)).trans (Hs_w6.out.mono ((((Hs_w2.out.trans (Hs_w3.out.mono (Hs_w2.out).size)).trans (Hs_w4.out.mono ((Hs_w2.out.trans (Hs_w3.out.mono (Hs_w2.out).size))).size)).trans (Hs_w5.out.mono (((Hs_w2.out.trans (Hs_w3.out.mono (Hs_w2.out).size)).trans (Hs_w4.out.mono ((Hs_w2.out.trans (Hs_w3.out.mono (Hs_w2.out).size))).size))).size))).size))).size)).trans (Hs_w8.out.mono ((((((Hs_w2.out.trans (Hs_w3.out.mono (Hs_w2.out).size)).trans (Hs_w4.out.mono ((Hs_w2.out.trans (Hs_w3.out.mono (Hs_w2.out).size))).size)).trans (Hs_w5.out.mono (((Hs_w2.out.trans (Hs_w3.out.mono (Hs_w2.out).size)).trans (Hs_w4.out.mono ((Hs_w2.out.trans (Hs_w3.out.mono (Hs_w2.out).size))).size))).size)).trans (Hs_w6.out.mono ((((Hs_w2.out.trans (Hs_w3.out.mono (Hs_w2.out).size)).trans (Hs_w4.out.mono ((Hs_w2.out.trans (Hs_w3.out.mono (Hs_w2.out).size))).size)).trans (Hs_w5.out.mono (((Hs_w2.out.trans (Hs_w3.out.mono (Hs_w2.out).size)).trans (Hs_w4.out.mono ((Hs_w2.out.trans (Hs_w3.out.mono (Hs_w2.out).size))).size))).size))).size)).trans (Hs_w7.out.mono (((((Hs_w2.out.trans (Hs_w3.out.mono (Hs_w2.out).size)).trans (Hs_w4.out.mono ((Hs_w2.out.trans (Hs_w3.out.mono (Hs_w2.out).size))).size)).trans (Hs_w5.out.mono (((Hs_w2.out.trans (Hs_w3.out.mono (Hs_w2.out).size)).trans (Hs_w4.out.mono ((Hs_w2.out.trans (Hs_w3.out.mono (Hs_w2.out).size))).size))).size)).trans (Hs_w6.out.mono ((((Hs_w2.out.trans (Hs_w3.out.mono (Hs_w2.out).size)).trans (Hs_w4.out.mono ((Hs_w2.out.trans (Hs_w3.out.mono (Hs_w2.out).size))).size)).trans (Hs_w5.out.mono (((Hs_w2.out.trans (Hs_w3.out.mono (Hs_w2.out).size)).trans (Hs_w4.out.mono ((Hs_w2.out.trans (Hs_w3.out.mono (Hs_w2.out).size))).size))).size))).size))).size))).size))).size))
  have HBA := Lib.hid hbA
  clear hbA
  go_wp2_with fail
  have hbC : ∀ o : Obj, Below w.heap.size w (w9.alloc o) := fun o => ((HB1.out.trans (HBA.out.mono HB1.out.size)).alloc (HB1.out.trans (HBA.out.mono HB1.out.size)).size o)
  have HBC := Lib.hid hbC
  clear hbC
  refine (lex_any ⟨#[48, 97, 32, 55, 32, 35, 32, 56, 10, 46, 32, 42, 46, 97]⟩ (by decide) _ (HE.out.keep (HBC.out _))).mono ?_
  rw [show Np.lex (⟨#[48, 97, 32, 55, 32, 35, 32, 56, 10, 46, 32, 42, 46, 97]⟩ : ByteArray).data.toList = (want2, 0, 0) from Np.ex2]
  rintro e v1 ⟨y1, rfl, hy1, hc1⟩
  have HY1 := Lib.hid hy1
  have HC1 := Lib.hid hc1
  obtain ⟨A2, p2, rfl, _, _, _⟩ := hy1
  clear hc1
  go_wp2_with fail
  refine (mk1_any ⟨#[48, 97]⟩ 0 _).mono ?_
  rintro e v2 ⟨rfl, hb⟩
  have Hs_v2 := Lib.hid hb
  clear hb
  go_wp2_with fail
  refine (mk1_any ⟨#[46]⟩ 9 _).mono ?_
  rintro e v3 ⟨rfl, hb⟩
  have Hs_v3 := Lib.hid hb
  clear hb
  go_wp2_with fail
  refine (mk1_any ⟨#[42, 46, 97]⟩ 11 _).mono ?_
  rintro e v4 ⟨rfl, hb⟩
  have Hs_v4 := Lib.hid hb
  clear hb
  have hbD : Below v1.heap.size v1 v4 := ((Hs_v2.out.trans (Hs_v3.out.mono (Hs_v2.out).size)).trans (Hs_v4.out.mono ((Hs_v2.out.trans (Hs_v3.out.mono (Hs_v2.out).size))).size))
  have HBD := Lib.hid hbD
  clear hbD
  go_wp2_with fail
  have bA : Below w1.heap.size w1 (w9.alloc (.cells #[.int .i64 1, .string ⟨#[122, 111, 110, 101]⟩, .int .i64 0, .int .i64 0, .int .i64 1, .string ⟨#[120, 46]⟩, .int .i64 0, .int .i64 5, .int .i64 3, .string ⟨#[123]⟩, .int .i64 0, .int .i64 8, .int .i64 3, .string ⟨#[64]⟩, .int .i64 0, .int .i64 10, .int .i64 1, .string ⟨#[116, 101, 120, 116]⟩, .int .i64 0, .int .i64 12, .int .i64 1, .string ⟨#[34, 97, 32, 98, 34]⟩, .int .i64 0, .int .i64 17, .int .i64 3, .string ⟨#[59]⟩, .int .i64 0, .int .i64 22, .int .i64 3, .string ⟨#[125]⟩, .int .i64 0, .int .i64 24] 58)) := HBA.out.alloc HBA.out.size _
  have bB : Below (w9.alloc (.cells #[.int .i64 1, .string ⟨#[122, 111, 110, 101]⟩, .int .i64 0, .int .i64 0, .int .i64 1, .string ⟨#[120, 46]⟩, .int .i64 0, .int .i64 5, .int .i64 3, .string ⟨#[123]⟩, .int .i64 0, .int .i64 8, .int .i64 3, .string ⟨#[64]⟩, .int .i64 0, .int .i64 10, .int .i64 1, .string ⟨#[116, 101, 120, 116]⟩, .int .i64 0, .int .i64 12, .int .i64 1, .string ⟨#[34, 97, 32, 98, 34]⟩, .int .i64 0, .int .i64 17, .int .i64 3, .string ⟨#[59]⟩, .int .i64 0, .int .i64 22, .int .i64 3, .string ⟨#[125]⟩, .int .i64 0, .int .i64 24] 58)).heap.size (w9.alloc (.cells #[.int .i64 1, .string ⟨#[122, 111, 110, 101]⟩, .int .i64 0, .int .i64 0, .int .i64 1, .string ⟨#[120, 46]⟩, .int .i64 0, .int .i64 5, .int .i64 3, .string ⟨#[123]⟩, .int .i64 0, .int .i64 8, .int .i64 3, .string ⟨#[64]⟩, .int .i64 0, .int .i64 10, .int .i64 1, .string ⟨#[116, 101, 120, 116]⟩, .int .i64 0, .int .i64 12, .int .i64 1, .string ⟨#[34, 97, 32, 98, 34]⟩, .int .i64 0, .int .i64 17, .int .i64 3, .string ⟨#[59]⟩, .int .i64 0, .int .i64 22, .int .i64 3, .string ⟨#[125]⟩, .int .i64 0, .int .i64 24] 58)) (v4.alloc (.cells #[.int .i64 1, .string ⟨#[48, 97]⟩, .int .i64 0, .int .i64 0, .int .i64 2, .string ⟨#[]⟩, .int .i64 7, .int .i64 3, .int .i64 1, .string ⟨#[46]⟩, .int .i64 0, .int .i64 9, .int .i64 1, .string ⟨#[42, 46, 97]⟩, .int .i64 0, .int .i64 11] 58)) := (HC1.out.trans (HBD.out.mono HC1.out.size)).alloc (HC1.out.trans (HBD.out.mono HC1.out.size)).size _
  have bV : Below v1.heap.size v1 (v4.alloc (.cells #[.int .i64 1, .string ⟨#[48, 97]⟩, .int .i64 0, .int .i64 0, .int .i64 2, .string ⟨#[]⟩, .int .i64 7, .int .i64 3, .int .i64 1, .string ⟨#[46]⟩, .int .i64 0, .int .i64 9, .int .i64 1, .string ⟨#[42, 46, 97]⟩, .int .i64 0, .int .i64 11] 58)) := HBD.out.alloc HBD.out.size _
  have q1 := slr_new (R := RTok) (W := w9) (t := 58) (xs := want1) (cs := #[.int .i64 1, .string ⟨#[122, 111, 110, 101]⟩, .int .i64 0, .int .i64 0, .int .i64 1, .string ⟨#[120, 46]⟩, .int .i64 0, .int .i64 5, .int .i64 3, .string ⟨#[123]⟩, .int .i64 0, .int .i64 8, .int .i64 3, .string ⟨#[64]⟩, .int .i64 0, .int .i64 10, .int .i64 1, .string ⟨#[116, 101, 120, 116]⟩, .int .i64 0, .int .i64 12, .int .i64 1, .string ⟨#[34, 97, 32, 98, 34]⟩, .int .i64 0, .int .i64 17, .int .i64 3, .string ⟨#[59]⟩, .int .i64 0, .int .i64 22, .int .i64 3, .string ⟨#[125]⟩, .int .i64 0, .int .i64 24]) (n := 8) (sz := 4) (fun t => (tokVal t).toList) (by simp [tokVal]) rfl rfl (by decide) (fun _ _ _ _ => rfl)
  have q2 := slr_new (R := RTok) (W := v4) (t := 58) (xs := want2) (cs := #[.int .i64 1, .string ⟨#[48, 97]⟩, .int .i64 0, .int .i64 0, .int .i64 2, .string ⟨#[]⟩, .int .i64 7, .int .i64 3, .int .i64 1, .string ⟨#[46]⟩, .int .i64 0, .int .i64 9, .int .i64 1, .string ⟨#[42, 46, 97]⟩, .int .i64 0, .int .i64 11]) (n := 4) (sz := 4) (fun t => (tokVal t).toList) (by simp [tokVal]) rfl rfl (by decide) (fun _ _ _ _ => rfl)
  have r1 := (q1.keep rtok_kept bB).more rtok_more bB.size
  have r0 := (HX1.out.keep rtok_kept (bA.trans (bB.mono bA.size))).more rtok_more (bA.trans (bB.mono bA.size)).size
  have r2 := (HY1.out.keep rtok_kept bV).more rtok_more bV.size
  have bW : Below w.heap.size w (v4.alloc (.cells #[.int .i64 1, .string ⟨#[48, 97]⟩, .int .i64 0, .int .i64 0, .int .i64 2, .string ⟨#[]⟩, .int .i64 7, .int .i64 3, .int .i64 1, .string ⟨#[46]⟩, .int .i64 0, .int .i64 9, .int .i64 1, .string ⟨#[42, 46, 97]⟩, .int .i64 0, .int .i64 11] 58)) := (HBC.out _).trans (bB.mono (HBC.out _).size)
  refine (same_yes _ _ want1 want1 0 (by decide) (by decide) (by decide) (shift_zero _) _ r0 r1).mono ?_
  rintro e u1 ⟨rfl, hb⟩
  have R2 := Lib.hid ((r2.keep rtok_kept hb).more rtok_more hb.size)
  have Q2 := Lib.hid ((q2.keep rtok_kept hb).more rtok_more hb.size)
  have BU1 := Lib.hid (bW.trans (hb.mono bW.size))
  clear hb bA bB bV q1 q2 r1 r0 r2 bW
  go_wp2_with fail
  refine (same_yes _ _ want2 want2 0 (by decide) (by decide) (by decide) (shift_zero _) _ R2.out Q2.out).mono ?_
  rintro e u2 ⟨rfl, hb⟩
  have BU2 := Lib.hid (BU1.out.trans (hb.mono BU1.out.size))
  clear hb
  go_wp2_with fail
  refine (fails_yes ⟨#[45, 97]⟩ (by decide) 10 0 Np.ex3 _ (HE.out.keep BU2.out)).mono ?_
  rintro e u3 ⟨rfl, hb⟩
  have BU3 := Lib.hid (BU2.out.trans (hb.mono BU2.out.size))
  clear hb
  go_wp2_with fail
  refine (fails_yes ⟨#[32, 46, 97]⟩ (by decide) 10 1 Np.ex4 _ (HE.out.keep BU3.out)).mono ?_
  rintro e u4 ⟨rfl, hb⟩
  have BU4 := Lib.hid (BU3.out.trans (hb.mono BU3.out.size))
  clear hb
  go_wp2_with fail
  refine (fails_yes ⟨#[97, 32, 48, 49]⟩ (by decide) 10 2 Np.ex5 _ (HE.out.keep BU4.out)).mono ?_
  rintro e u5 ⟨rfl, hb⟩
  have BU5 := Lib.hid (BU4.out.trans (hb.mono BU4.out.size))
  clear hb
  go_wp2_with fail
  refine (fails_yes ⟨#[49, 48, 48, 48, 48, 48, 48, 48, 48, 49]⟩ (by decide) 3 0 Np.ex6 _ (HE.out.keep BU5.out)).mono ?_
  rintro e u6 ⟨rfl, hb⟩
  have BU6 := Lib.hid (BU5.out.trans (hb.mono BU5.out.size))
  clear hb
  go_wp2_with fail
  refine (fails_yes ⟨#[34, 34]⟩ (by decide) 10 0 Np.ex7 _ (HE.out.keep BU6.out)).mono ?_
  rintro e u7 ⟨rfl, hb⟩
  have BU7 := Lib.hid (BU6.out.trans (hb.mono BU6.out.size))
  clear hb
  go_wp2_with fail
  go_ret
  exact ⟨rfl, BU7.out⟩
end Go.Proofs.YtafpbfmhhpcalaaDoor
