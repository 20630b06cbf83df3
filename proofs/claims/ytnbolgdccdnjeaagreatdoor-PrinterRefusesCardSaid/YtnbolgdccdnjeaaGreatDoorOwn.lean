/- Rows of the call's own: append with the place of what comes back; an owned row read as a list. No condition. -/
import Derived.Test.YtnbolgdccdnjeaaGreatDoorIter
import Derived.Test.YtnbolgdccdnjeaaGreatDoorBase
import Derived.OwnWalkIn
import Derived.Maps.AppendAt
namespace Go.Proofs.YtnbolgdccdnjeaaGreatDoor
open Go.RowKit

theorem wpListIn_append_at {F : Fence} {n : Nat} {P : Program} (w : World) {ops : Array Oper} {rest : List Oper} {o : Oper} {a : Act} {Q : Exit → Act → World → Prop}
    (hg : o.guard = none) (s x : Operand) (t : TypeId) (hop : o.op = Op.call { callee := Callee.builtin Builtin.append, args := #[s, x], argTypes := #[t, t] })
    (base : Nat) (e : TypeId) (i : TypeInfo) (z : Value) (size bytes : Nat) (h1 : P.underlying t = some (.slice e)) (h2 : P.info? e = some i) (h3 : i.zero = some z) (h4 : i.size = size) (h5 : i.bytes = bytes) (h6 : z.cells.size = size) (h7 : 0 < size)
    (v : Value) (k : Nat) (xs : List Value) (hs : a.eval s = v) (hown : w.ownsRow base e size v k xs) (ad : Addr) (m c : Nat) (news : List Value) (hx : a.eval x = .slice (some ad) m c) (hn : news.length = m * size)
    (hc : ∀ j u, news[j]? = some u → w.cell? (ad.add j) = some u) (h1c : ∀ u ∈ news, u.oneCell' = true) (b1 : k + m ≤ maxLen) (b2 : (k + m) * bytes ≤ 140737488355328) (b3 : base ≤ w.heap.size)
    (hK : ∀ v' w', w'.ownsRow base e size v' (k + m) (xs ++ news) → w.grownBy w' v.ownBlock → (v'.ownBlock = v.ownBlock ∨ v'.ownBlock = some w.heap.size) → wpListIn F n P ops Q rest (a.put o.dst v') w') :
    wpListIn F n P ops Q (o :: rest) a w := by
  obtain ⟨v', w', hrun, r1, r2, _, r4⟩ := run_append_own_at (P := P) w base t o.type e i z size bytes h1 h2 h3 h4 h5 h6 h7 v k xs hown ad m c news hn hc h1c b1 b2 b3
  refine wpListIn_plain hg fun K hK' => ⟨by simp [Oper.about, hop, resolve, Target.leads, Sem.run_pure], ?_⟩
  rw [Oper.semAt_plain F _ _ (by rw [hop]; intro c hc'; cases hc')]
  simp [execOp, hop, resolve, invoke, builtin, hs, hx, hrun, Result.andThen]
  exact hK' _ _ (hK v' w' r1 r2 r4)

theorem ownsRow_it {B : Nat} {S : Nat → Prop} {W W' : World} {base : Nat} {e : TypeId} {size : Nat} {v : Value} {k : Nat} {xs : List Value} (h : W.ownsRow base e size v k xs) (hs : ItStep B S W W') (hS : ∀ g, v.ownBlock = some g → S g) : W'.ownsRow base e size v k xs := by
  refine ⟨h.1, ?_⟩
  rcases h.2 with hn | ⟨g, cap, cur, rfl, hb, hg, rest⟩
  · exact .inl hn
  · exact .inr ⟨g, cap, cur, rfl, hb, (hs.keep g (Array.getElem?_eq_some_iff.1 hg).1 (.inr (hS g rfl))).trans hg, rest⟩
theorem ownsRow_keep {W W' : World} {base : Nat} {e : TypeId} {size : Nat} {v : Value} {k : Nat} {xs : List Value} (h : W.ownsRow base e size v k xs) (hs : ∀ g, v.ownBlock = some g → W'.heap[g]? = W.heap[g]?) : W'.ownsRow base e size v k xs := by
  refine ⟨h.1, ?_⟩
  rcases h.2 with hn | ⟨g, cap, cur, rfl, hb, hg, rest⟩
  · exact .inl hn
  · exact .inr ⟨g, cap, cur, rfl, hb, (hs g rfl).trans hg, rest⟩

/-- An owned row, read as a list: each element is a run of sz cells. -/
theorem slr_of_own {α : Type} {R : World → Nat → List Value → α → Prop} {sz : Nat} {W : World} {base : Nat} {e : TypeId} {v : Value} {xs : List α} (enc : α → List Value) (hlen : ∀ x ∈ xs, (enc x).length = sz)
    (h : W.ownsRow base e sz v xs.length (xs.flatMap enc)) (hl : xs.length ≤ 140737488355328) (hR : ∀ x ∈ xs, R W W.heap.size (enc x) x) : SlR R sz W W.heap.size v xs := by
  have hpart : ∀ (l : List α) (i : Nat) (x : α) (j : Nat) (u : Value), (∀ y ∈ l, (enc y).length = sz) → l[i]? = some x → (enc x)[j]? = some u → (l.flatMap enc)[i * sz + j]? = some u := by
    intro l
    induction l with
    | nil => intro i x j u _ hi; simp at hi
    | cons y l ih =>
      intro i x j u hle hi hj
      rw [List.flatMap_cons]
      have hy : (enc y).length = sz := hle y (by simp)
      cases i with
      | zero =>
        simp at hi; subst hi
        rw [List.getElem?_append_left (by have := (List.getElem?_eq_some_iff.1 hj).1; omega)]
        simpa using hj
      | succ i =>
        rw [List.getElem?_append_right (by rw [hy, Nat.succ_mul]; omega), hy]
        have := ih i x j u (fun y hy => hle y (by simp [hy])) (by simpa using hi) hj
        rw [show (i + 1) * sz + j - sz = i * sz + j by rw [Nat.succ_mul]; omega]
        exact this
  rcases h.2 with ⟨rfl, h0⟩ | ⟨g, cap, cur, rfl, hb, hg, hnc, _, _, htake⟩
  · have : xs = [] := List.eq_nil_of_length_eq_zero h0
    subst this
    exact ⟨none, 0, rfl, by simp, by simp, fun i x hx => by simp at hx⟩
  · refine ⟨_, cap, rfl, hnc, hl, fun i x hx => ⟨g, 0, enc x, rfl, (Array.getElem?_eq_some_iff.1 hg).1, hlen x (List.mem_of_getElem? hx), fun j u hj => ?_, hR x (List.mem_of_getElem? hx)⟩⟩
    have h1 := hpart xs i x j u hlen hx hj
    have h2 := h.cells (g := g) rfl _ _ h1
    have hadd : (⟨g, 0, none⟩ : Addr).add (i * sz + j) = ⟨g, 0 + i * sz + j, none⟩ := by unfold Addr.add; split <;> simp_all
    rw [hadd] at h2
    exact h2

def RInt (_ : World) (_ : Nat) (e : List Value) (x : Int) : Prop := e = [.int .i64 x]
theorem rint_kept : KeptR RInt := fun _ _ _ _ _ h _ => h
theorem rint_more : MoreR RInt := fun _ _ _ _ _ h _ => h
theorem map_flat {α : Type} (f : α → Value) (l : List α) : l.map f = l.flatMap fun x => [f x] := by induction l <;> simp_all

theorem ownsRow_form {W : World} {base : Nat} {e : TypeId} {size : Nat} {v : Value} {k : Nat} {xs : List Value} (h : W.ownsRow base e size v k xs) : ∃ A cap, v = .slice A k cap := by
  rcases h.2 with ⟨rfl, rfl⟩ | ⟨g, cap, _, rfl, _⟩
  · exact ⟨none, 0, rfl⟩
  · exact ⟨_, cap, rfl⟩
theorem ownsRow_base {W : World} {base : Nat} {e : TypeId} {size : Nat} {v : Value} {k : Nat} {xs : List Value} (h : W.ownsRow base e size v k xs) : ∀ g, v.ownBlock = some g → base ≤ g ∧ g < W.heap.size := h.lt

/-- 'out = append(out, ..)' in a round, out in the box lb, its row from lb + 1 on: what the round leaves. F: the other blocks of the body's. -/
theorem appended_rd {W w1 : World} {lb : Nat} {t e : TypeId} {size : Nat} {v v' : Value} {k m : Nat} {xs ys : List Value} {tmp : Obj} {S F : Nat → Prop}
    (hS : ∀ i, S i ↔ F i ∨ i = lb ∨ v.ownBlock = some i) (hF : ∀ i, F i → i < lb) (hv : Boxed W lb t v) (hrow : W.ownsRow (lb + 1) e size v k xs)
    (hown' : w1.ownsRow (lb + 1) e size v' m ys) (hgrow : (W.alloc tmp).grownBy w1 v.ownBlock) (hat : v'.ownBlock = v.ownBlock ∨ v'.ownBlock = some (W.alloc tmp).heap.size) :
    Boxed w1 lb t v ∧ Boxed (w1.setCell ⟨lb, 0, none⟩ v') lb t v' ∧ (w1.setCell ⟨lb, 0, none⟩ v').ownsRow (lb + 1) e size v' m ys ∧ RdStep S W (w1.setCell ⟨lb, 0, none⟩ v') ∧
      (∀ i, (F i ∨ i = lb ∨ v'.ownBlock = some i) → S i ∨ W.heap.size ≤ i) ∧ (∀ i, (F i ∨ i = lb ∨ v'.ownBlock = some i) → i < (w1.setCell ⟨lb, 0, none⟩ v').heap.size) ∧
      (∀ i, i < lb → (w1.setCell ⟨lb, 0, none⟩ v').heap[i]? = W.heap[i]?) := by
  have hlt := hv.lt
  have hb := ownsRow_base hrow
  have hb' := ownsRow_base hown'
  have hne : some lb ≠ v.ownBlock := fun e => by have := (hb lb e.symm).1; omega
  have hv1 : Boxed w1 lb t v := (hv.alloc tmp).kept hgrow hne
  have hsz : W.heap.size + 1 ≤ w1.heap.size := by have := hgrow.size; simpa using this
  have hset : (w1.setCell ⟨lb, 0, none⟩ v').heap.size = w1.heap.size := by simp [World.setCell]
  refine ⟨hv1, hv1.set v', ownsRow_keep hown' (fun g hg => Below.heap_setCell _ _ _ _ (fun e => by have := (hb' g hg).1; simp at e; omega)), ?_, fun i hi => ?_, fun i hi => ?_, fun i hi => ?_⟩
  · refine RdStep.setCell (RdStep.grown ((RdStep.refl S W).alloc tmp) hgrow (fun k ek => .inl ((hS k).2 (.inr (.inr ek))))) (.inl ((hS _).2 (.inr (.inl rfl)))) _
  · rcases hi with hi | hi | hi
    · exact .inl ((hS _).2 (.inl hi))
    · exact .inl ((hS _).2 (.inr (.inl hi)))
    · rcases hat with h | h
      · rw [h] at hi; exact .inl ((hS _).2 (.inr (.inr hi)))
      · rw [h] at hi; simp at hi; right; omega
  · rw [hset]
    rcases hi with hi | hi | hi
    · have := hF i hi; omega
    · omega
    · exact (hb' i hi).2
  · rw [Below.heap_setCell _ _ _ _ (by simp; omega), hgrow.block i (by simp; omega) (fun e => by have := (hb i e.symm).1; omega), Below.heap_alloc _ _ _ (by omega)]

end Go.Proofs.YtnbolgdccdnjeaaGreatDoor
