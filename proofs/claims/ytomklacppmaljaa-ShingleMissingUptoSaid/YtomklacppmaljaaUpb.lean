/-
  Arguments as they are handed in, with the bulk of what they hold (the second form of the statements).
-/
import Derived.Test.YtomklacppmaljaaLb
import Derived.Test.YtomklacppmaljaaRows
import Derived.Test.YtomklacppmaljaaSg
namespace Go.Proofs.Ytomklacppmaljaa
open Go Go.RowKit Go.Vc Go.IntWalk Go.Deep
theorem bulk_sum {H : Type} {α : Type} {sz : α → Nat} {f : Nat → α} {D : Nat → DataW H} : ∀ (l : List Nat), (∀ i ∈ l, sz (f i) ≤ Rows.uptoBulk (D i)) → ((l.map f).map sz).sum ≤ Rows.uptoBulkAll (l.map D)
  | [], _ => by simp [Rows.uptoBulkAll]
  | i :: l, h => by
    have h1 := h i (by simp)
    have h2 := bulk_sum l (fun j hj => h j (by simp [hj]))
    simp only [List.map_cons, List.sum_cons, Rows.uptoBulkAll]; omega
theorem openEB {α : Type} [Enc α] {sz : α → Nat} {P : Program} {H : Type} {enc : TypeId × Value → H} {w : World} {base : Nat} {sp : Nat → Bool} {hd : Bool} {t e : TypeId} (hu : P.underlying t = some (.slice e)) (hc : P.cellsOf e = Enc.n α) (hb : 1 ≤ P.bytesOf e)
    (hel : ∀ (n : Nat) (cs : List Value) (d : DataW H) (pl : List MemPlace), DataW.trod enc P w base sp hd n e cs = some (d, pl) → ∃ x : α, cs = Enc.enc x ∧ sz x ≤ Rows.uptoBulk d)
    {fuel : Nat} {ao : Option Addr} {len cap : Nat} {d : DataW H} {pl : List MemPlace}
    (h : DataW.trod enc P w base sp hd fuel t [.slice ao len cap] = some (d, pl)) (hw : ∀ m ∈ d.weights P t, m ≤ reachBytes) : ∃ b off, ∃ l : List α, len = l.length ∧ RowE w ao b off cap l ∧ (l.map sz).sum ≤ Rows.uptoBulk d := by
  rcases open_slice hu h with ⟨h1, _⟩ | ⟨a, len', cap', m, n, D, Pl, h1, _, hl, _, hm, hx, hall⟩
  · simp only [List.cons.injEq, Value.slice.injEq, and_true] at h1
    obtain ⟨rfl, rfl, rfl⟩ := h1
    exact ⟨0, 0, [], rfl, RowE.nil _ _ _ _ _, by simp⟩
  · simp only [List.cons.injEq, Value.slice.injEq, and_true] at h1
    obtain ⟨rfl, rfl, rfl⟩ := h1
    have hlm : len ≤ m := by rw [hm]; split <;> omega
    have hd2 : d = _ := congrArg Prod.fst hx
    have ha : 0 < len → a = ⟨a.block, a.off, none⟩ := fun h0 => by
      obtain ⟨cs, h2, _⟩ := hall 0 (by omega)
      rw [Nat.zero_mul, show a.add 0 = a by unfold Addr.add; rw [if_pos rfl], hc] at h2
      exact (at_of_cells h2 (Enc.pos (α := α))).1
    have hex : ∀ i, i < len → ∃ x : α, At w a.block (a.off + i * Enc.n α) (Enc.enc x) ∧ sz x ≤ Rows.uptoBulk (D i) := fun i hi => by
      obtain ⟨cs, h2, h3⟩ := hall i (by omega)
      obtain ⟨x, hx2, hq⟩ := hel n cs _ _ h3
      rw [hc, ha (by omega), add_lit] at h2
      exact ⟨x, by rw [← hx2]; exact (at_of_cells h2 (Enc.pos (α := α))).2, hq⟩
    have hbd : len ≤ 140737488355328 := by
      have h3 := hw ((((List.range len).map D).length + ((List.range (m - len)).map fun j => D (len + j)).length) * P.bytesOf e) (by rw [hd2]; simp [DataW.weights, hu])
      simp only [List.length_map, List.length_range] at h3
      have h4 : len * 1 ≤ (len + (m - len)) * P.bytesOf e := Nat.mul_le_mul (by omega) hb
      have h5 := reachBytes_lt
      omega
    by_cases h0 : len = 0
    · subst h0; exact ⟨0, 0, [], rfl, ⟨by simp, by simp, by simp⟩, by simp⟩
    · obtain ⟨x0, _⟩ := hex 0 (by omega)
      obtain ⟨f, hf⟩ : ∃ f : Nat → α, ∀ i, i < len → At w a.block (a.off + i * Enc.n α) (Enc.enc (f i)) ∧ sz (f i) ≤ Rows.uptoBulk (D i) := by
        classical
        exact ⟨fun i => if hi : i < len then Classical.choose (hex i hi) else x0, fun i hi => by simp only [dif_pos hi]; exact Classical.choose_spec (hex i hi)⟩
      refine ⟨a.block, a.off, (List.range len).map f, by simp, ⟨by simp; omega, fun _ => congrArg some (ha (by omega)), fun i cs hi => ?_⟩, ?_⟩
      · have hil : i < len := by
          rcases Nat.lt_or_ge i len with h6 | h6
          · exact h6
          · rw [List.getElem?_eq_none (by simpa using h6)] at hi; cases hi
        simp [hil] at hi
        subst hi
        exact ⟨Enc.len _, (hf i hil).1⟩
      · have h7 := bulk_sum (sz := sz) (f := f) (D := D) (List.range len) (fun i hi => (hf i (List.mem_range.1 hi)).2)
        rw [hd2]
        simp only [Rows.uptoBulk]; omega
/-- how much a gram holds -/
def gz (x : Gram) : Nat := 1 + (x.fst.length + x.snd.length)
def gsz (l : List Gram) : Nat := (l.map gz).sum
theorem elem_gram {P : Program} {e : TypeId} {f0 f1 f2 : Field} (ht : P.underlying e = some (.struct #[f0, f1, f2])) (h2 : P.cellsOf e = 3) (o0 : f0.offset = 0) (c0 : P.cellsOf f0.type = 1) (o1 : f1.offset = 1) (c1 : P.cellsOf f1.type = 1) (o2 : f2.offset = 2) (c2 : P.cellsOf f2.type = 1)
    (u0 : P.underlying f0.type = some .string) (u1 : P.underlying f1.type = some .string) (u2 : P.underlying f2.type = some (.int .i64)) {H : Type} {enc : TypeId × Value → H} {w : World} {base : Nat} {sp : Nat → Bool} {hd : Bool} {n : Nat} {cs : List Value} {d : DataW H} {pl : List MemPlace}
    (h : DataW.trod enc P w base sp hd n e cs = some (d, pl)) : ∃ x : Gram, cs = Enc.enc x ∧ gz x ≤ Rows.uptoBulk d := by
  obtain ⟨xs, m, _, hxd, hl, hlen, hf⟩ := DataW.trod_struct ht h
  match xs, hlen with
  | [y0, y1, y2], _ =>
    have h3 := hf 0 f0 rfl
    have h4 := hf 1 f1 rfl
    have h5 := hf 2 f2 rfl
    rw [o0, c0] at h3
    rw [o1, c1] at h4
    rw [o2, c2] at h5
    rw [h2] at hl
    match cs, hl with
    | [v0, v1, v2], _ =>
      obtain ⟨s, e0, e0a, _⟩ := DataW.trod_string u0 (by simpa using h3)
      obtain ⟨s1, e1, e1a, _⟩ := DataW.trod_string u1 (by simpa using h4)
      obtain ⟨i, e2, _⟩ := DataW.trod_int u2 (by simpa using h5)
      simp only [List.cons.injEq, and_true] at e0 e1 e2
      subst e0; subst e1; subst e2
      refine ⟨⟨s.data.toList, s1.data.toList, i⟩, by cases s; cases s1; rfl, ?_⟩
      have hd2 : d = .agg [y0.1, y1.1, y2.1] := congrArg Prod.fst hxd
      have hy0 : y0.1 = .lit (.string s.data.toList) := congrArg Prod.fst e0a
      have hy1 : y1.1 = .lit (.string s1.data.toList) := congrArg Prod.fst e1a
      rw [hd2, hy0, hy1]
      simp only [Rows.uptoBulk, Rows.uptoBulkAll, gz]; omega
theorem gsz_len : ∀ l : List Gram, l.length ≤ gsz l
  | [] => Nat.le_refl _
  | x :: l => by
    have h := gsz_len l
    have e : gsz (x :: l) = gz x + gsz l := by simp [gsz]
    rw [e, List.length_cons]; unfold gz; omega
theorem gsz_append (a b : List Gram) : gsz (a ++ b) = gsz a + gsz b := by unfold gsz; rw [List.map_append, List.sum_append]
theorem gsz_succ {l : List Gram} {k : Nat} (h : k < l.length) : gsz (l.take (k + 1)) = gsz (l.take k) + gz (l.getD k default) := by unfold gsz; rw [take_succD l k h]; simp
theorem gsz_take (l : List Gram) (k : Nat) : gsz (l.take k) ≤ gsz l := by
  have h := gsz_append (l.take k) (l.drop k)
  rw [List.take_append_drop] at h; omega
theorem bulk_bound {H : Type} {l : List (DataW H)} (hk : Rows.uptoSmall H l = true) : Rows.uptoBulkAll l ≤ 1048576 := of_decide_eq_true hk
theorem bulk_part {H : Type} {d : DataW H} {l : List (DataW H)} (h : d ∈ l) : Rows.uptoBulk d ≤ Rows.uptoBulkAll l := by
  induction l with
  | nil => cases h
  | cons x r ih =>
    simp only [Rows.uptoBulkAll]
    rcases List.mem_cons.1 h with e | e
    · subst e; omega
    · have := ih e; omega
end Go.Proofs.Ytomklacppmaljaa
