/-
  Arguments as they are handed in: slices read as rows. Generic over the program.
-/
import Derived.Test.YtkdgoghmkmpfnaaRown
import Derived.Deep.Slices
import Derived.SizedLaws
import Derived.ProofKit
namespace Go.Vc
open Go Go.RowKit Go.IntWalk Go.Deep

/-- what an element's reading tells: its cells are those of a value of 'α' -/
def ElemE (α : Type) [Enc α] (P : Program) (e : TypeId) : Prop :=
  ∀ {H : Type} (enc : TypeId × Value → H) (w : World) (base : Nat) (sp : Nat → Bool) (hd : Bool) (n : Nat) (cs : List Value) (d : DataW H) (pl : List MemPlace), DataW.trod enc P w base sp hd n e cs = some (d, pl) → ∃ x : α, cs = Enc.enc x
def ElemR (α : Type) [Rep α] (P : Program) (e : TypeId) : Prop :=
  ∀ {H : Type} (enc : TypeId × Value → H) (w : World) (base : Nat) (sp : Nat → Bool) (hd : Bool) (n : Nat) (cs : List Value) (d : DataW H) (pl : List MemPlace), DataW.trod enc P w base sp hd n e cs = some (d, pl) → (∀ m ∈ d.weights P e, m ≤ reachBytes) → ∃ x : α, Rep.rep w cs x
section
variable {P : Program} {H : Type} {enc : TypeId × Value → H} {w : World} {base : Nat} {sp : Nat → Bool} {hd : Bool} {t e : TypeId}
theorem elem_int (hu : P.underlying e = some (.int .i64)) : ElemE Int P e := fun _ _ _ _ _ _ _ _ _ h => by
  obtain ⟨n, h1, _⟩ := DataW.trod_int hu h
  exact ⟨n, h1⟩
theorem elem_str (hu : P.underlying e = some .string) : ElemE Str P e := fun _ _ _ _ _ _ _ _ _ h => by
  obtain ⟨s, h1, _⟩ := DataW.trod_string hu h
  exact ⟨s.data.toList, by rw [h1]; cases s; rfl⟩
theorem at_of_cells {w : World} {base : Nat} {a : Addr} {n : Nat} {cs : List Value} (h : w.cells? base a n = some cs) (hn : 0 < n) : a = ⟨a.block, a.off, none⟩ ∧ At w a.block a.off cs := by
  obtain ⟨_, h1, h2⟩ := World.cells?_some h
  have hs : ∀ (b : Addr) (v : Value), w.cell? b = some v → b.spot = none := by
    intro b v hb
    unfold World.cell? at hb
    split at hb
    · split at hb
      · cases hb
      · rename_i h3; simpa using h3
    · cases hb
  have h0 := h2 0 hn
  have hc0 : ∃ v, cs[0]? = some v := ⟨cs[0]'(by omega), by simp [h1, hn]⟩
  obtain ⟨v, hv⟩ := hc0
  rw [hv, show a.add 0 = a by unfold Addr.add; rw [if_pos rfl]] at h0
  have ha := hs _ v h0
  have hae : a = ⟨a.block, a.off, none⟩ := by cases a; simp_all
  refine ⟨hae, fun j u hj => ?_⟩
  have hjn : j < n := by
    rcases Nat.lt_or_ge j n with h4 | h4
    · exact h4
    · rw [List.getElem?_eq_none (by omega)] at hj; cases hj
  have h4 := h2 j hjn
  rw [hj, hae, add_lit] at h4
  exact h4
/-- a slice of plain elements -/
theorem openE {α : Type} [Enc α] (hu : P.underlying t = some (.slice e)) (hc : P.cellsOf e = Enc.n α) (hb : 1 ≤ P.bytesOf e) (hel : ElemE α P e) {fuel : Nat} {ao : Option Addr} {len cap : Nat} {d : DataW H} {pl : List MemPlace}
    (h : DataW.trod enc P w base sp hd fuel t [.slice ao len cap] = some (d, pl)) (hw : ∀ m ∈ d.weights P t, m ≤ reachBytes) : ∃ b off, ∃ l : List α, len = l.length ∧ RowE w ao b off cap l := by
  rcases open_slice hu h with ⟨h1, _⟩ | ⟨a, len', cap', m, n, D, Pl, h1, _, hl, _, hm, hx, hall⟩
  · simp only [List.cons.injEq, Value.slice.injEq, and_true] at h1
    obtain ⟨rfl, rfl, rfl⟩ := h1
    exact ⟨0, 0, [], rfl, RowE.nil _ _ _ _ _⟩
  · simp only [List.cons.injEq, Value.slice.injEq, and_true] at h1
    obtain ⟨rfl, rfl, rfl⟩ := h1
    have hlm : len ≤ m := by rw [hm]; split <;> omega
    have ha : 0 < len → a = ⟨a.block, a.off, none⟩ := fun h0 => by
      obtain ⟨cs, h2, _⟩ := hall 0 (by omega)
      rw [Nat.zero_mul, show a.add 0 = a by unfold Addr.add; rw [if_pos rfl], hc] at h2
      exact (at_of_cells h2 (Enc.pos (α := α))).1
    have hex : ∀ i, i < len → ∃ x : α, At w a.block (a.off + i * Enc.n α) (Enc.enc x) := fun i hi => by
      obtain ⟨cs, h2, h3⟩ := hall i (by omega)
      obtain ⟨x, hx2⟩ := hel enc w base sp hd n cs _ _ h3
      rw [hc, ha (by omega), add_lit] at h2
      exact ⟨x, by rw [← hx2]; exact (at_of_cells h2 (Enc.pos (α := α))).2⟩
    have hbd : len ≤ 140737488355328 := by
      have h2 : d = _ := congrArg Prod.fst hx
      have h3 := hw ((((List.range len).map D).length + ((List.range (m - len)).map fun j => D (len + j)).length) * P.bytesOf e) (by rw [h2]; simp [DataW.weights, hu])
      simp only [List.length_map, List.length_range] at h3
      have h4 : len * 1 ≤ (len + (m - len)) * P.bytesOf e := Nat.mul_le_mul (by omega) hb
      have h5 := reachBytes_lt
      omega
    by_cases h0 : len = 0
    · subst h0; exact ⟨0, 0, [], rfl, ⟨by simp, by simp, by simp⟩⟩
    · obtain ⟨x0, _⟩ := hex 0 (by omega)
      obtain ⟨f, hf⟩ : ∃ f : Nat → α, ∀ i, i < len → At w a.block (a.off + i * Enc.n α) (Enc.enc (f i)) := by
        classical
        exact ⟨fun i => if hi : i < len then Classical.choose (hex i hi) else x0, fun i hi => by simp only [dif_pos hi]; exact Classical.choose_spec (hex i hi)⟩
      refine ⟨a.block, a.off, (List.range len).map f, by simp, ⟨by simp; omega, fun _ => congrArg some (ha (by omega)), fun i cs hi => ?_⟩⟩
      have hil : i < len := by
        rcases Nat.lt_or_ge i len with h6 | h6
        · exact h6
        · rw [List.getElem?_eq_none (by simpa using h6)] at hi; cases hi
      simp [hil] at hi
      subst hi
      exact ⟨Enc.len _, hf i hil⟩
theorem weights_elem {ds : List (DataW H)} {d : DataW H} (h : d ∈ ds) {m : Nat} (hm : m ∈ d.weights P e) : m ∈ DataW.weightsAll P e ds := by
  induction ds with
  | nil => cases h
  | cons x r ih =>
    simp only [DataW.weightsAll, List.mem_append]
    rcases List.mem_cons.1 h with rfl | h1
    · exact .inl hm
    · exact .inr (ih h1)
/-- a slice of elements with memory behind them -/
theorem openR {α : Type} [Rep α] (hu : P.underlying t = some (.slice e)) (hc : P.cellsOf e = Rep.n α) (hb : 1 ≤ P.bytesOf e) (hel : ElemR α P e) {fuel : Nat} {ao : Option Addr} {len cap : Nat} {d : DataW H} {pl : List MemPlace}
    (h : DataW.trod enc P w base sp hd fuel t [.slice ao len cap] = some (d, pl)) (hw : ∀ m ∈ d.weights P t, m ≤ reachBytes) : ∃ b off, ∃ l : List α, len = l.length ∧ RowR w ao b off cap l := by
  rcases open_slice hu h with ⟨h1, _⟩ | ⟨a, len', cap', m, n, D, Pl, h1, _, hl, _, hm, hx, hall⟩
  · simp only [List.cons.injEq, Value.slice.injEq, and_true] at h1
    obtain ⟨rfl, rfl, rfl⟩ := h1
    exact ⟨0, 0, [], rfl, RowR.nil _ _ _ _ _⟩
  · simp only [List.cons.injEq, Value.slice.injEq, and_true] at h1
    obtain ⟨rfl, rfl, rfl⟩ := h1
    have hlm : len ≤ m := by rw [hm]; split <;> omega
    have hd2 : d = _ := congrArg Prod.fst hx
    have ha : 0 < len → a = ⟨a.block, a.off, none⟩ := fun h0 => by
      obtain ⟨cs, h2, _⟩ := hall 0 (by omega)
      rw [Nat.zero_mul, show a.add 0 = a by unfold Addr.add; rw [if_pos rfl], hc] at h2
      exact (at_of_cells h2 (Rep.pos (α := α))).1
    have hex : ∀ i, i < len → ∃ y : List Value × α, At w a.block (a.off + i * Rep.n α) y.1 ∧ Rep.rep w y.1 y.2 := fun i hi => by
      obtain ⟨cs, h2, h3⟩ := hall i (by omega)
      obtain ⟨x, hx2⟩ := hel enc w base sp hd n cs _ _ h3 (fun q hq => hw q (by
        rw [hd2]
        simp only [DataW.weights, hu, List.mem_cons, List.mem_append]
        exact .inr (.inl (weights_elem (List.mem_map.2 ⟨i, List.mem_range.2 hi, rfl⟩) hq))))
      rw [hc, ha (by omega), add_lit] at h2
      exact ⟨(cs, x), (at_of_cells h2 (Rep.pos (α := α))).2, hx2⟩
    have hbd : len ≤ 140737488355328 := by
      have h3 := hw ((((List.range len).map D).length + ((List.range (m - len)).map fun j => D (len + j)).length) * P.bytesOf e) (by rw [hd2]; simp [DataW.weights, hu])
      simp only [List.length_map, List.length_range] at h3
      have h4 : len * 1 ≤ (len + (m - len)) * P.bytesOf e := Nat.mul_le_mul (by omega) hb
      have h5 := reachBytes_lt
      omega
    by_cases h0 : len = 0
    · subst h0; exact ⟨0, 0, [], rfl, RowR.nil _ _ _ _ _⟩
    · obtain ⟨y0, _⟩ := hex 0 (by omega)
      obtain ⟨f, hf⟩ : ∃ f : Nat → List Value × α, ∀ i, i < len → At w a.block (a.off + i * Rep.n α) (f i).1 ∧ Rep.rep w (f i).1 (f i).2 := by
        classical
        exact ⟨fun i => if hi : i < len then Classical.choose (hex i hi) else y0, fun i hi => by simp only [dif_pos hi]; exact Classical.choose_spec (hex i hi)⟩
      have hgl : ∀ (i : Nat) {β : Type} (g : Nat → β) (z : β), ((List.range len).map g)[i]? = some z → i < len ∧ g i = z := by
        intro i β g z hz
        have hil : i < len := by
          rcases Nat.lt_or_ge i len with h6 | h6
          · exact h6
          · rw [List.getElem?_eq_none (by simpa using h6)] at hz; cases hz
        simp [hil] at hz
        exact ⟨hil, hz⟩
      refine ⟨a.block, a.off, (List.range len).map (fun i => (f i).2), by simp, (List.range len).map (fun i => (f i).1), ⟨by simp; omega, fun _ => congrArg some (ha (by omega)), fun i cs hi => ?_⟩, by simp, fun i cs x h1 h2 => ?_⟩
      · obtain ⟨hil, rfl⟩ := hgl i _ _ hi
        exact ⟨Rep.len (hf i hil).2, (hf i hil).1⟩
      · obtain ⟨hil, rfl⟩ := hgl i _ _ h1
        obtain ⟨_, rfl⟩ := hgl i _ _ h2
        exact (hf i hil).2
theorem elem_side {f0 f1 : Field} {se : TypeId} (ht : P.underlying e = some (.struct #[f0, f1])) (h2 : P.cellsOf e = 2) (o0 : f0.offset = 0) (c0 : P.cellsOf f0.type = 1) (o1 : f1.offset = 1) (c1 : P.cellsOf f1.type = 1)
    (u0 : P.underlying f0.type = some (.int .i64)) (u1 : P.underlying f1.type = some (.slice se)) (us : P.underlying se = some .string) (cs0 : P.cellsOf se = 1) (bs0 : 1 ≤ P.bytesOf se) : ElemR Side P e := by
  intro H enc w base sp hd n cs d pl h hw
  obtain ⟨y0, y1, m, hx, hl, h3, h4⟩ := ChangeShapes.trod_struct2 ht h
  rw [o0, c0] at h3
  rw [o1, c1] at h4
  rw [h2] at hl
  match cs, hl with
  | [v, u], _ =>
    obtain ⟨k, h5, _⟩ := DataW.trod_int u0 h3
    simp only [List.drop_zero, List.take_succ_cons, List.take_zero, List.cons.injEq, and_true] at h5
    subst h5
    simp only [List.drop_succ_cons, List.drop_zero, List.take_succ_cons, List.take_zero] at h4
    have hd2 : d = .agg [y0.1, y1.1] := congrArg Prod.fst hx
    have hw1 : ∀ q ∈ y1.1.weights P f1.type, q ≤ reachBytes := fun q hq => hw q (by rw [hd2]; simp [DataW.weights, ht, DataW.weightsEach, hq])
    rcases open_slice u1 h4 with ⟨h6, _⟩ | ⟨a, len, cap, _, _, _, _, h6, _⟩
    · simp only [List.cons.injEq, and_true] at h6
      subst h6
      exact ⟨⟨k, []⟩, none, 0, 0, 0, rfl, RowE.nil _ _ _ _ _⟩
    · simp only [List.cons.injEq, and_true] at h6
      subst h6
      obtain ⟨b, off, l, rfl, hr⟩ := openE (α := Str) u1 cs0 bs0 (elem_str us) (d := y1.1) (pl := y1.2) (by simpa using h4) hw1
      exact ⟨⟨k, l⟩, _, b, off, cap, rfl, hr⟩
end
end Go.Vc
