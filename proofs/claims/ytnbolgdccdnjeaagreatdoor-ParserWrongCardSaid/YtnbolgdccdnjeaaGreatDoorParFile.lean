/- The reference's zone files, plain: what is written of few valid sets is read as these, in whatever order. No program in sight. -/
import Derived.Test.YtnbolgdccdnjeaaGreatDoorPB
import Derived.Test.YtnbolgdccdnjeaaGreatDoorPC
namespace Go.Proofs.YtnbolgdccdnjeaaGreatDoor.Np
def dataF (t : Int) : List Datum → List UInt8
  | [] => []
  | [d] => datumText t d
  | d :: e :: r => datumText t d ++ ([44, 32] ++ dataF t (e :: r))
def turnB {α : Type} (b : Bool) (l : List α) : List α := if b = true then l.reverse else l
theorem turnB_perm {α : Type} (b : Bool) (l : List α) : (turnB b l).Perm l := by
  unfold turnB
  split
  · exact List.reverse_perm l
  · exact List.Perm.refl l
theorem turnB_len {α : Type} (b : Bool) (l : List α) : (turnB b l).length = l.length := (turnB_perm b l).length_eq
/-- An entry up to its data; an entry; its line; the lines; a file up to its last line; a file. -/
def headF (s : DSet) : List UInt8 := s.name ++ [32] ++ wordOf s.type ++ [32, 108, 105, 102, 101, 32] ++ decimal s.life.toNat ++ [32]
def entF (b : Bool) (s : DSet) : List UInt8 := headF s ++ dataF s.type (turnB b s.data) ++ [59]
def lineF (b : Bool) (s : DSet) : List UInt8 := [32, 32] ++ entF b s ++ [10]
def setsF (b : Bool) (l : List DSet) : List UInt8 := l.flatMap (lineF b)
def preF (apex : List UInt8) (b : Bool) (l : List DSet) : List UInt8 := [122, 111, 110, 101, 32] ++ apex ++ [32, 123, 10] ++ setsF b l
def fileF (apex : List UInt8) (l : List DSet) (back data : Bool) : List UInt8 := preF apex data (turnB back l) ++ [125, 10]
def GoodW (apex : List UInt8) (s : DSet) : Prop := underL s.name apex = true ∧ validSet s = true ∧ s.type ≠ 8 ∧ s.name.all isDig = false ∧ (s.type = 2 ∨ s.type = 3 → ∀ d ∈ s.data, d.text.all isDig = false)
structure Small (apex : List UInt8) (l : List DSet) : Prop where
  few : l.length ≤ 20
  name : validName apex = true
  wild : isWild apex = false
  word : apex.all isDig = false
  good : ∀ x ∈ l, GoodW apex x
  keys : (l.map fun x => (x.name, x.type)).Nodup
theorem Small.turn {apex : List UInt8} {l : List DSet} (h : Small apex l) (b : Bool) : Small apex (turnB b l) where
  few := by rw [turnB_len]; exact h.few
  name := h.name
  wild := h.wild
  word := h.word
  good x hx := h.good x ((turnB_perm b l).mem_iff.1 hx)
  keys := ((turnB_perm b l).map _).nodup_iff.2 h.keys
/-! ### Tokens -/
theorem lx_dataF {t : Int} (h1 : 1 ≤ t) (h7 : t ≤ 7) : ∀ {ds : List Datum}, ds ≠ [] → (∀ d ∈ ds, validDatum (ruleOf t) d = true ∧ (t = 2 ∨ t = 3 → d.text.all isDig = false)) → Lx (dataF t ds ++ [59]) (dataToks t ds).flatten true
  | [], h, _ => absurd rfl h
  | [d], _, h => by
    have hd := h d (by simp)
    have := (lx_datum h1 h7 hd.1 hd.2).app (lx_punct (c := 59) (by decide)) (.inr ⟨59, _, rfl, by decide⟩)
    simpa [dataF, dataToks, signTok] using this
  | d :: e :: r, _, h => by
    have hd := h d (by simp)
    have ih := lx_dataF h1 h7 (ds := e :: r) (by simp) (fun x hx => h x (List.mem_cons_of_mem _ hx))
    have hb : Lx [32] [] true := lx_blank (by decide)
    have := (lx_datum h1 h7 hd.1 hd.2).app ((lx_punct (c := 44) (by decide)).app (hb.app ih (.inl rfl)) (.inl rfl)) (.inr ⟨44, _, rfl, by decide⟩)
    simpa [dataF, dataToks, signTok] using this
def lineToks (b : Bool) (s : DSet) : List Tok := entToks (wordTok s.name) [wordTok wLife, numTok s.life.toNat] s (turnB b s.data)
theorem goodW_parts {apex : List UInt8} {s : DSet} (h : GoodW apex s) : s.type ≤ 7 := by
  obtain ⟨_, v, n, _, _⟩ := h
  obtain ⟨_, v2, v3, _⟩ := valid_parts v
  omega
theorem lx_lineF {apex : List UInt8} {b : Bool} {s : DSet} (h : GoodW apex s) : Lx (lineF b s) (lineToks b s) true := by
  have h7 := goodW_parts h
  obtain ⟨g1, g2, g3, g4, g5⟩ := h
  obtain ⟨v1, v2, v3, v4, v5, v6, v7, v8⟩ := valid_parts g2
  have hds : turnB b s.data ≠ [] := fun e => by have := turnB_len b s.data; rw [e] at this; simp at this; omega
  have hD := lx_dataF v2 h7 hds (fun d hd => by
    have hm := (turnB_perm b s.data).mem_iff.1 hd
    exact ⟨goodData_all v8 d hm, fun ht => g5 ht d hm⟩)
  have hb : Lx [32] [] true := lx_blank (by decide)
  have hf : Lx [10] [] true := lx_blank (by decide)
  have hW := lx_word (List.mem_append_left [[108, 105, 102, 101], [122, 111, 110, 101]] (word_mem v2 h7))
  have hL := lx_word (x := [108, 105, 102, 101]) (by simp)
  have hN := lx_num (n := s.life.toNat) (by omega)
  have k1 := hD.app hf (.inl rfl)
  have k2 := hN.app (hb.app k1 (.inl rfl)) (.inr ⟨32, _, rfl, by decide⟩)
  have k3 := hL.app (hb.app k2 (.inl rfl)) (.inr ⟨32, _, rfl, by decide⟩)
  have k4 := hW.app (hb.app k3 (.inl rfl)) (.inr ⟨32, _, rfl, by decide⟩)
  have k5 := (lx_name v1 g4).app (hb.app k4 (.inl rfl)) (.inr ⟨32, _, rfl, by decide⟩)
  have k6 := hb.app (hb.app k5 (.inl rfl)) (.inl rfl)
  have e1 : lineF b s = [32] ++ ([32] ++ (s.name ++ ([32] ++ (wordOf s.type ++ ([32] ++ ([108, 105, 102, 101] ++ ([32] ++ (decimal s.life.toNat ++ ([32] ++ ((dataF s.type (turnB b s.data) ++ [59]) ++ [10])))))))))) := by
    simp [lineF, entF, headF]
  have e2 : lineToks b s = [] ++ ([] ++ ([wordTok s.name] ++ ([] ++ ([wordTok (wordOf s.type)] ++ ([] ++ ([wordTok [108, 105, 102, 101]] ++ ([] ++ ([numTok s.life.toNat] ++ ([] ++ ((dataToks s.type (turnB b s.data)).flatten ++ [])))))))))) := by
    simp [lineToks, entToks, wLife]
  rw [e1, e2]
  exact k6
theorem lx_setsF {apex : List UInt8} {b : Bool} : ∀ {l : List DSet}, (∀ x ∈ l, GoodW apex x) → Lx (setsF b l) (l.flatMap (lineToks b)) true
  | [], _ => lx_nil
  | x :: l, h => by
    have := (lx_lineF (b := b) (h x (by simp))).app (lx_setsF (b := b) (l := l) (fun y hy => h y (List.mem_cons_of_mem _ hy))) (.inl rfl)
    simpa [setsF] using this
def preToks (apex : List UInt8) (b : Bool) (l : List DSet) : List Tok := [wordTok wZone, wordTok apex, signTok 123] ++ l.flatMap (lineToks b)
theorem lx_preF {apex : List UInt8} {b : Bool} {l : List DSet} (h : Small apex l) : Lx (preF apex b l) (preToks apex b l) true := by
  have hb : Lx [32] [] true := lx_blank (by decide)
  have hf : Lx [10] [] true := lx_blank (by decide)
  have hZ := lx_word (x := [122, 111, 110, 101]) (by simp)
  have k1 := hf.app (lx_setsF (b := b) h.good) (.inl rfl)
  have k2 := (lx_punct (c := 123) (by decide)).app k1 (.inl rfl)
  have k3 := (lx_name h.name h.word).app (hb.app k2 (.inl rfl)) (.inr ⟨32, _, rfl, by decide⟩)
  have k4 := hZ.app (hb.app k3 (.inl rfl)) (.inr ⟨32, _, rfl, by decide⟩)
  have e1 : preF apex b l = [122, 111, 110, 101] ++ ([32] ++ (apex ++ ([32] ++ ([123] ++ ([10] ++ setsF b l))))) := by
    simp [preF]
  have e2 : preToks apex b l = [wordTok [122, 111, 110, 101]] ++ ([] ++ ([wordTok apex] ++ ([] ++ ([⟨3, [123], 0, 0⟩] ++ ([] ++ l.flatMap (lineToks b)))))) := by
    simp [preToks, wZone, signTok]
  rw [e1, e2]
  exact k4
/-! ### How many -/
theorem lineToks_len {apex : List UInt8} {b : Bool} {s : DSet} (h : GoodW apex s) : (lineToks b s).length ≤ 28 := by
  have h7 := goodW_parts h
  obtain ⟨v1, v2, v3, v4, v5, v6, v7, v8⟩ := valid_parts h.2.1
  unfold lineToks entToks
  simp only [List.length_cons, List.length_append, List.length_nil, dataToks_len v2 h7, turnB_len]
  split <;> omega
theorem flat_len {α β : Type} (f : α → List β) (n : Nat) : ∀ (l : List α), (∀ x ∈ l, (f x).length ≤ n) → (l.flatMap f).length ≤ l.length * n
  | [], _ => by simp
  | x :: l, h => by
    have h1 := h x (by simp)
    have h2 := flat_len f n l (fun y hy => h y (List.mem_cons_of_mem _ hy))
    rw [List.flatMap_cons, List.length_append, List.length_cons, Nat.succ_mul]
    omega
theorem preToks_len {apex : List UInt8} {b : Bool} {l : List DSet} (h : Small apex l) : (preToks apex b l).length ≤ 563 := by
  have h1 := flat_len (lineToks b) 28 l (fun x hx => lineToks_len (h.good x hx))
  have h2 := h.few
  unfold preToks
  rw [List.length_append]
  simp only [List.length_cons, List.length_nil]
  omega
theorem dataF_len (t : Int) : ∀ (ds : List Datum), (dataF t ds).length = (ds.map fun d => (datumText t d).length + 2).sum - 2
  | [] => rfl
  | [d] => by simp [dataF]
  | d :: e :: r => by
    have ih := dataF_len t (e :: r)
    rw [dataF, List.length_append, List.length_append, ih]
    simp only [List.map_cons, List.sum_cons, List.length_cons, List.length_nil]
    omega
theorem lineF_len (b : Bool) (s : DSet) : (lineF b s).length = (lineF false s).length := by
  have hp := ((turnB_perm b s.data).map fun d => (datumText s.type d).length + 2).sum_nat
  unfold lineF entF
  simp only [List.length_append, dataF_len]
  rw [hp]
  rfl
theorem setsF_len {b : Bool} {l m : List DSet} (h : l.Perm m) : (setsF b l).length = (setsF false m).length := by
  have e : ∀ (b : Bool) (l : List DSet), (setsF b l).length = (l.map fun s => (lineF false s).length).sum := by
    intro b l
    induction l with
    | nil => rfl
    | cons x l ih =>
      unfold setsF at ih ⊢
      rw [List.flatMap_cons, List.length_append, ih, lineF_len, List.map_cons, List.sum_cons]
  rw [e, e]
  exact (h.map _).sum_nat
theorem fileF_len (apex : List UInt8) (l : List DSet) (back data : Bool) : (fileF apex l back data).length = (fileF apex l false false).length := by
  have h := setsF_len (b := data) ((turnB_perm back l).trans (turnB_perm false l).symm)
  unfold fileF preF
  simp only [List.length_append, h]
/-! ### What is read -/
def sg (s : DSet) : Signed := ⟨s, []⟩
def zoneF (apex : List UInt8) (l : List DSet) : Zone := ⟨apex, sortS (l.map sg)⟩
theorem ent_line {apex : List UInt8} {b : Bool} {s : DSet} (h : GoodW apex s) {ts : List Tok} (hc : ts.map core = (lineToks b s).map core) : Ent apex (sg s) ts := by
  have h7 := goodW_parts h
  exact ⟨rfl, wordTok s.name, _, turnB b s.data, ⟨h.2.1, h.1, h7, .inr rfl, .inr rfl, turnB_perm b s.data⟩, hc⟩
theorem keys_sg {l : List DSet} (h : (l.map fun x => (x.name, x.type)).Nodup) : ((l.map sg).map fun x : Signed => (x.set.name, x.set.type)).Nodup := by
  rw [List.map_map]; exact h
theorem sort_turn {apex : List UInt8} {l m : List DSet} (h : Small apex m) (hp : l.Perm m) : sortS (l.map sg) = sortS (m.map sg) := by
  have hk := keys_sg h.keys
  exact sortS_eq ((hp.map sg).trans (sortS_perm _).symm) (sortS_strict hk)
theorem zone_file {apex : List UInt8} {b : Bool} {l m : List DSet} (h : Small apex m) (hp : l.Perm m) {ts : List Tok} (hc : ts.map core = (preToks apex b l ++ [signTok 125]).map core) : ZoneT (zoneF apex m) ts := by
  obtain ⟨u, e, rfl, h1, h2⟩ := core_split hc
  obtain ⟨hd, v, rfl, h3, h4⟩ := core_split h1
  obtain ⟨tss, rfl, h5, h6⟩ := core_flat _ _ _ h4
  have he : ∃ e0, e = [e0] ∧ core e0 = signTok 125 := by
    cases e with
    | nil => simp at h2
    | cons a e => cases e with
      | nil =>
        have h3 : core a = core (signTok 125) := by simpa using h2
        exact ⟨a, rfl, h3⟩
      | cons b e => simp at h2
  obtain ⟨e0, rfl, he⟩ := he
  refine ⟨h.name, h.wild, hd, tss, e0, l.map sg, by simp, h3, he, by simp [h5], fun i x w hx hw => ?_, keys_sg ((hp.map _).nodup_iff.2 h.keys), sort_turn h hp⟩
  rw [List.getElem?_map] at hx
  cases hl : l[i]? with
  | none => rw [hl] at hx; cases hx
  | some s =>
    rw [hl] at hx
    cases hx
    exact ent_line (h.good s (hp.mem_iff.1 (List.mem_of_getElem? hl))) (h6 i s w hl hw)
theorem file_parse {apex : List UInt8} {l : List DSet} (h : Small apex l) (back data : Bool) (h8 : (fileF apex l false false).length ≤ 8000) : parse (fileF apex l back data) = ([zoneF apex l], []) := by
  have hl : (fileF apex l back data).length ≤ 8000 := by rw [fileF_len]; exact h8
  have ht := h.turn back
  have hn := preToks_len (b := data) ht
  have hb : Lx [10] [] true := lx_blank (by decide)
  have hx := (lx_preF (b := data) ht).app ((lx_punct (c := 125) (by decide)).app hb (.inl rfl)) (.inl rfl)
  obtain ⟨ts, e1, e2⟩ := (hx [] 0 0 (.inl rfl) (by omega)).1 (by simp; omega)
  rw [List.append_nil] at e2
  have e3 : lexFrom (fileF apex l back data) 0 0 = (ts, 0, 0) := by
    have : fileF apex l back data = preF apex data (turnB back l) ++ ([125] ++ [10]) := rfl
    rw [this, e2]; simp [lexFrom]
  have e4 := lex_of hl e3
  have hz := zone_file (b := data) h (turnB_perm back l) (ts := ts) (by rw [e1]; rfl)
  have := file_reads (size := (fileF apex l back data).length) [] [] [zoneF apex l] [ts] [] [] rfl (fun i z u hz' hu => by
    cases i with
    | zero => simp at hz' hu; subst hz'; subst hu; exact hz
    | succ i => simp at hz') (by simp) (by simp)
  have hnil : fileR (fileF apex l back data).length (([zoneF apex l].map (·.apex)).reverse ++ []) ([] ++ [zoneF apex l]) [] [] = ([zoneF apex l], []) := by rw [fileR, if_pos rfl, List.nil_append]
  rw [hnil, List.flatten_cons, List.flatten_nil, List.append_nil, List.append_nil] at this
  unfold parse
  rw [e4]
  simp only [ne_eq, not_true_eq_false, if_false]
  rw [this]
  simp
theorem zoneF_mem {apex : List UInt8} {l : List DSet} {x : DSet} (hx : x ∈ l) : ∃ (k : Nat), k < (zoneF apex l).sets.length ∧ (zoneF apex l).sets[k]? = some (sg x) := by
  have : sg x ∈ (zoneF apex l).sets := (sortS_perm _).mem_iff.2 (List.mem_map_of_mem hx)
  obtain ⟨k, hk, e⟩ := List.mem_iff_getElem.1 this
  exact ⟨k, hk, by rw [List.getElem?_eq_getElem hk, e]⟩
theorem zoneF_len {apex : List UInt8} {l : List DSet} : (zoneF apex l).sets.length = l.length := by
  have := (sortS_perm (l.map sg)).length_eq
  simpa [zoneF] using this
theorem zoneF_from {apex : List UInt8} {l : List DSet} {x : Signed} (hx : x ∈ (zoneF apex l).sets) : ∃ s ∈ l, x = sg s := by
  have := (sortS_perm _).mem_iff.1 hx
  obtain ⟨s, hs, e⟩ := List.mem_map.1 this
  exact ⟨s, hs, e.symm⟩
end Go.Proofs.YtnbolgdccdnjeaaGreatDoor.Np
