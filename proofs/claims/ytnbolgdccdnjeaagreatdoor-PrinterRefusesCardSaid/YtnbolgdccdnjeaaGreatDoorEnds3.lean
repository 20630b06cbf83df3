/- A call of a function that was found in the map. -/
import Derived.Test.YtnbolgdccdnjeaaGreatDoorEnds2
import Derived.Shelf.Abstract
namespace Go.Proofs.YtnbolgdccdnjeaaGreatDoor
open Go.RowKit Go.Shelf
theorem wpList_call_fn {P : Program} (w : World) {ops : Array Oper} {rest : List Oper} {o : Oper} {a : Act} {Q : Exit → Act → World → Prop} (hg : o.guard = none) (x y : Operand) (ts : Array TypeId)
    (hop : o.op = Op.call { callee := Callee.value x, args := #[y], argTypes := ts }) (f : FuncId) (cap : Array Value) (hx : a.eval x = .func (.func f) #[] cap) (v : Value) (hy : a.eval y = v)
    (eg : ∀ args w, (callFunc f args).run P w = .ok (.enter f args) w) (u : Value) (hC : Calls P f (#[v] ++ cap) w fun e w' => e = .returned u ∧ Below w.heap.size w w')
    (hK : ∀ w', Below w.heap.size w w' → wpList P ops Q rest (a.put o.dst u) w') : wpList P ops Q (o :: rest) a w := by
  refine wpList_plain hg fun K hK' => ?_
  unfold Oper.wp
  simp [execOp, hop, resolve, invoke, hx, hy, eg, Deferred.ofValue]
  rw [Oper.upon_enter]
  refine hC.mono ?_
  rintro e w' ⟨rfl, hb⟩
  exact hK' _ _ (hK w' hb)
theorem none_any (p : Int) (w : World) : Calls Tryz.prog 112 #[.int .i64 p] w fun e w' => e = .returned (.int .i64 p) ∧ Below w.heap.size w w' := by
  go_enter Tryz.func112, Tryz.ntmps112
  go_wp2_with fail
  go_ret
  exact ⟨rfl, Below.refl _ _⟩
theorem one_any (p : Nat) (hp : p ≤ 100000) (w : World) : Calls Tryz.prog 113 #[.int .i64 p] w fun e w' => e = .returned (.int .i64 ((p + 1 : Nat) : Int)) ∧ Below w.heap.size w w' := by
  go_enter Tryz.func113, Tryz.ntmps113
  go_wp2_with fail
  go_ret
  exact ⟨ret_int (by omega), Below.refl _ _⟩
/-- The function for the class of the byte at p finds the end of what begins there. -/
theorem end_call (N bo : Nat) (s : ByteArray) (hs : s.size ≤ 100000) (p : Nat) (hp : p < s.size) (w : World) (hE : Ends N bo s w) :
    ∃ f cap, endFn N (Np.cls s[p]) = .func (.func f) #[] cap ∧ (∀ args w, (callFunc f args).run Tryz.prog w = .ok (.enter f args) w) ∧
      Calls Tryz.prog f (#[.int .i64 p] ++ cap) w fun e w' => e = .returned (.int .i64 ((p + Np.width (s.data.toList.drop p) : Nat) : Int)) ∧ Below w.heap.size w w' := by
  have hd : s.data.toList.drop p = s[p] :: s.data.toList.drop (p + 1) := List.drop_eq_getElem_cons (by rw [size_list]; exact hp)
  have h7 := Np.cls_lt s[p]
  rcases (by omega : Np.cls s[p] = 0 ∨ Np.cls s[p] = 1 ∨ Np.cls s[p] = 2 ∨ Np.cls s[p] = 3 ∨ Np.cls s[p] = 4 ∨ Np.cls s[p] = 5 ∨ Np.cls s[p] = 6 ∨ Np.cls s[p] = 7) with h | h | h | h | h | h | h | h
  · rw [h]
    refine ⟨112, #[], rfl, enters_of Tryz.func112 (by kernel_rfl) rfl, ?_⟩
    rw [hd, Np.width, h]
    exact none_any _ _
  · rw [h]
    refine ⟨113, #[], rfl, enters_of Tryz.func113 (by kernel_rfl) rfl, ?_⟩
    rw [hd, Np.width, h]
    exact one_any p (by omega) _
  · rw [h]
    refine ⟨114, #[.pointer (some ⟨N, 0, none⟩)], rfl, enters_of Tryz.func114 (by kernel_rfl) rfl, ?_⟩
    rw [hd, Np.width, h, ← hd]
    exact comment_any N bo s hs p (by omega) w hE
  · rw [h]
    refine ⟨111, #[.pointer (some ⟨N, 0, none⟩), .pointer (some ⟨N + 1, 0, none⟩)], rfl, enters_of Tryz.func111 (by kernel_rfl) rfl, ?_⟩
    rw [hd, Np.width, h, ← hd]
    exact run_any N bo s hs p (by omega) w hE
  · rw [h]
    refine ⟨112, #[], rfl, enters_of Tryz.func112 (by kernel_rfl) rfl, ?_⟩
    rw [hd, Np.width, h]
    exact none_any _ _
  · rw [h]
    refine ⟨116, #[.pointer (some ⟨N + 1 + 1, 0, none⟩)], rfl, enters_of Tryz.func116 (by kernel_rfl) rfl, ?_⟩
    rw [hd, Np.width, h, ← hd]
    exact dot_any N bo s hs p hp w hE
  · rw [h]
    refine ⟨117, #[.pointer (some ⟨N, 0, none⟩)], rfl, enters_of Tryz.func117 (by kernel_rfl) rfl, ?_⟩
    rw [hd, Np.width, h]
    exact quote_any N bo s hs p hp w hE
  · rw [h]
    refine ⟨113, #[], rfl, enters_of Tryz.func113 (by kernel_rfl) rfl, ?_⟩
    rw [hd, Np.width, h]
    exact one_any p (by omega) _
end Go.Proofs.YtnbolgdccdnjeaaGreatDoor
