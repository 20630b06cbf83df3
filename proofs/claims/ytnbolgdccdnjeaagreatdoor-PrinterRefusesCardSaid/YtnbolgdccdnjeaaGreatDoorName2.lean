/- Contracts of package name: the labels of a text from the last one on; which texts are names. -/
import Derived.Test.YtnbolgdccdnjeaaGreatDoorName
import Derived.Test.YtnbolgdccdnjeaaGreatDoorIter
import Derived.RangeFuncNested
import Derived.RangeFuncBound
import Derived.RangeFuncCalls
import Derived.RangeFuncLeaves
import Derived.Shelf.Abstract
import Derived.Shelf.RegionOpen
import Derived.OwnWalkIn
import Derived.TacticsInMore
import Derived.LoopNIn
import Derived.LoopIn
namespace Go.Proofs.YtnbolgdccdnjeaaGreatDoor
open Go.RowKit Go.Shelf
attribute [local go_sem] Oper.semAt_some

abbrev strs (l : List UInt8) : Value := .string ⟨l.toArray⟩

def strLen : Value → Nat
  | .string s => s.size
  | _ => 0
def BackRel (t : ByteArray) (J : List (List UInt8) → (Nat → Prop) → World → Prop) (S : Nat → Prop) (W : World) (v : Value) (wr : World) : Prop :=
  ∃ (pre : List (List UInt8)) (r : ByteArray) (S1 : Nat → Prop), v = .string r ∧ r.size ≤ 140737488355328 ∧ Np.back t.data.toList = pre ++ (Np.splitDots r.data.toList).reverse ∧
    J pre S1 wr ∧ (∀ k, S1 k → k < wr.heap.size) ∧ W.heap.size ≤ wr.heap.size ∧ (∀ k, S1 k → S k ∨ W.heap.size ≤ k)

set_option maxHeartbeats 1000000 in
theorem backwards_iter (t : ByteArray) (ht : t.size ≤ 140737488355328) (n₀ : Nat) (w : World) :
    Iter Tryz.prog 103 (fun y => #[.string t, y]) (fun x : List UInt8 => #[strs x]) (Np.back t.data.toList) n₀ w := by
  intro l J Jx S W hW hJ hJx hY hS hS' h0
  refine callsIn_of_wp Tryz.func103 rfl trivial ?_ rfl
  simp only [Tryz.ntmps103, List.size_toArray, List.length_cons, List.length_nil, Nat.reduceAdd, Nat.reduceSub, Array.replicate_succ, Array.replicate_zero, List.push_toArray, List.append_toArray, List.nil_append, List.cons_append]
  gi_wp2_with fail
  · have he : (t.toList == [46]) = true := by assumption
    have he2 : t.data.toList = [46] := by rw [← ByteArray.toList_eq]; simpa using he
    have hb : Np.back t.data.toList = [] := by simp [Np.back, he2]
    refine bodyPost_ret (results_none rfl _ _ _) rfl ?_
    exact ⟨⟨_, rfl⟩, .inl ⟨S, by rw [hb]; exact h0, fun k e => .inl e⟩⟩
  · have he : (t.toList == [46]) = false := by assumption
    have hne : ¬ t.data.toList = [46] := by rw [← ByteArray.toList_eq]; simpa using he
    have hb : Np.back t.data.toList = (Np.splitDots t.data.toList).reverse := by simp [Np.back, hne]
    have HB := Lib.hid hb
    clear hb
    gi_loopw [4] (fun v wr => BackRel t J S W v wr) (fun v _ => strLen v)
    case atStart => exact ⟨[], t, S, rfl, ht, by simpa using HB.out, h0, hS', Nat.le_refl _, fun _ e => .inl e⟩
    case round =>
      obtain ⟨pre, r, S1, rfl, hr, hpre, hj, hlt, hsz, hsub⟩ := hrel
      have HP := Lib.hid hpre
      clear hpre
      gi_wp2_with fail
      refine ⟨trivial, rfl, ?_⟩
      refine (callsIn_wide.2 (lastIndexByte_any _ hr _ (by decide) (by decide) _)).mono ?_
      rintro e w' ⟨q, hq, rfl, rfl⟩
      rcases hq with ⟨rfl, hno⟩ | ⟨a, b, hab, hnb, rfl⟩
      · have hs1 : Np.splitDots r.data.toList = [r.data.toList] := Np.splitDots_none hno
        have hx : pre ++ [r.data.toList] <+: Np.back t.data.toList := by rw [HP.out, hs1]; exact List.prefix_refl _
        obtain ⟨fn, tmps, assign, body, hy, hR⟩ := hY pre r.data.toList S1 wr hx hj hlt hsz
        have hy2 : Sem.run Tryz.prog (Instr.yield l #[.string r]) wr = .ok (.round l fn tmps assign body) wr := hy
        clear hy
        have HX := Lib.hid hx
        clear hx
        have HS := Lib.hid hs1
        clear hs1 hno
        gi_wp2_with fail
        refine ⟨rfl, hR.mono ?_⟩
        rintro e W3 ⟨S3, hrd, hsub3, hlt3, (⟨rfl, hJ3⟩ | ⟨rfl, hJx3⟩)⟩
        all_goals
          gi_wp2_with fail
          refine bodyPost_ret (results_none rfl _ _ _) rfl ?_
        · refine ⟨⟨_, rfl⟩, .inl ⟨S3, ?_, fun k e => ?_⟩⟩
          · rw [HP.out, HS.out]; exact hJ3
          · rcases hsub3 k e with e | e
            · exact hsub k e
            · right; omega
        · refine ⟨⟨_, rfl⟩, .inr ⟨_, S3, HX.out, hJx3, fun k e => ?_⟩⟩
          rcases hsub3 k e with e | e
          · exact hsub k e
          · right; omega
      · have hsz2 : a.length + 1 + b.length = r.size := by rw [← size_list, hab]; simp; omega
        have hs1 : Np.splitDots r.data.toList = Np.splitDots a ++ [b] := by rw [hab]; exact (Np.splitDots_app a b).trans (by rw [Np.splitDots_none hnb])
        have hx : pre ++ [b] <+: Np.back t.data.toList := by rw [HP.out, hs1]; simp
        have hxb : (r.extract (a.length + 1) r.size).data.toList = b := by rw [ext_from, hab]; simp
        have hxa : (r.extract 0 a.length).data.toList = a := by rw [ext_to, hab]; simp
        have hsa : (r.extract 0 a.length).size = a.length := by rw [← size_list, hxa]
        obtain ⟨fn, tmps, assign, body, hy, hR⟩ := hY pre b S1 wr hx hj hlt hsz
        have hy2 : Sem.run Tryz.prog (Instr.yield l #[.string (r.extract (a.length + 1) r.size)]) wr = .ok (.round l fn tmps assign body) wr := by
          have : strs b = .string (r.extract (a.length + 1) r.size) := by show Value.string _ = _; congr 1; exact str_ext (by rw [hxb])
          simp only [this] at hy
          exact hy
        clear hy
        have HX := Lib.hid hx
        have HS := Lib.hid hs1
        have HA := Lib.hid hxa
        have HSA := Lib.hid hsa
        clear hx hs1 hxb hxa hsa hab hnb
        have hal : a.length ≤ 140737488355328 := by omega
        have hal2 : a.length + 1 ≤ r.size := by omega
        have H2 := Lib.hid hsz2
        clear hsz2
        gi_wp2_with fail
        refine ⟨rfl, hR.mono ?_⟩
        rintro e W3 ⟨S3, hrd, hsub3, hlt3, (⟨rfl, hJ3⟩ | ⟨rfl, hJx3⟩)⟩
        · have hrs := hrd.size
          gi_wp2_with fail
          go_roundw
          case rel =>
            refine ⟨pre ++ [b], r.extract 0 a.length, S3, rfl, by rw [HSA.out]; exact hal, ?_, hJ3, hlt3, by omega, fun k e => ?_⟩
            · rw [HP.out, HS.out, HA.out]; simp
            · rcases hsub3 k e with e | e
              · exact hsub k e
              · right; omega
          case measure => show (r.extract 0 a.length).size < r.size; rw [HSA.out]; omega
        · gi_wp2_with fail
          refine bodyPost_ret (results_none rfl _ _ _) rfl ?_
          refine ⟨⟨_, rfl⟩, .inr ⟨_, S3, HX.out, hJx3, fun k e => ?_⟩⟩
          rcases hsub3 k e with e | e
          · exact hsub k e
          · right; omega
end Go.Proofs.YtnbolgdccdnjeaaGreatDoor
