/-
  Classes of endings in memory: slices of structs that hold slices. Generic over the program.
-/
import Derived.Test.YtomklacppmaljaaPu
import Derived.Test.YtomklacppmaljaaLb
namespace Go.Vc
open Go Go.RowKit Go.IntWalk Go.Deep
instance : Enc Ende := ⟨2, fun x => [S x.strip, S x.add], fun _ => rfl, fun _ => rfl, by decide⟩
def BdE (x : Ende) : Prop := x.strip.length ≤ 140737488351232 ∧ x.add.length ≤ 140737488351232
def BdC (x : Clas) : Prop := x.name.length ≤ 140737488351232 ∧ (∀ y ∈ x.ends, BdE y) ∧ x.ends.length ≤ 4398046510976
instance : Rep Clas where
  n := 2
  rep w cs x := (∃ ao b off cap, cs = [S x.name, .slice ao x.ends.length cap] ∧ RowE w ao b off cap x.ends) ∧ BdC x
  len := fun ⟨⟨_, _, _, _, h, _⟩, _⟩ => by rw [h]; rfl
  evo0 := fun ⟨⟨ao, b, off, cap, h, hr⟩, hb⟩ he => ⟨⟨ao, b, off, cap, h, hr.evo0 he⟩, hb⟩
  pos := by decide
theorem clas_at {w : World} {ao : Option Addr} {b off cap : Nat} {l : List Clas} (h : RowR w ao b off cap l) (k : Nat) (hk : k < l.length) :
    ∃ ao' b' off' cap', At w b (off + k * 2) [S (l.getD k default).name, .slice ao' (l.getD k default).ends.length cap'] ∧ RowE w ao' b' off' cap' (l.getD k default).ends := by
  obtain ⟨cs, h1, ⟨ao', b', off', cap', h2, h3⟩, _⟩ := h.atD k hk
  exact ⟨ao', b', off', cap', h2 ▸ h1, h3⟩
theorem clas_atK {w : World} {E : List Nat} {ao : Option Addr} {b off cap : Nat} {l : List Clas} (h : RowRK w E ao b off cap l) (k : Nat) (hk : k < l.length) :
    ∃ ao' b' off' cap', ∀ w', Evo w w' E → At w' b (off + k * 2) [S (l.getD k default).name, .slice ao' (l.getD k default).ends.length cap'] ∧ RowE w' ao' b' off' cap' (l.getD k default).ends := by
  obtain ⟨cs, h1⟩ := h.atD k hk
  obtain ⟨ao', b', off', cap', h2, h3⟩ := (h1 w (Evo.refl _ _)).2.1
  refine ⟨ao', b', off', cap', fun w' he => ⟨h2 ▸ (h1 w' he).1, ?_⟩⟩
  obtain ⟨ao2, b2, off2, cap2, h4, h5⟩ := (h1 w' he).2.1
  rw [h2] at h4
  simp only [List.cons.injEq, Value.slice.injEq, and_true, true_and] at h4
  obtain ⟨rfl, rfl⟩ := h4
  exact rowE_same h5 h3
theorem clas_bd {w : World} {ao : Option Addr} {b off cap : Nat} {l : List Clas} (h : RowR w ao b off cap l) : ∀ x ∈ l, BdC x := fun x hx => by
  obtain ⟨css, _, hl, hr⟩ := h
  obtain ⟨i, hi⟩ := List.getElem?_of_mem hx
  have hi2 : i < l.length := (List.getElem?_eq_some_iff.1 hi).1
  exact (hr i (css[i]'(by omega)) x (by simp [hl, hi2]) hi).2
theorem clas_bdD {w : World} {ao : Option Addr} {b off cap : Nat} {l : List Clas} (h : RowR w ao b off cap l) (k : Nat) : (l.getD k default).name.length ≤ 140737488351232 := by
  rcases Nat.lt_or_ge k l.length with hk | hk
  · exact (clas_bd h _ (by simp [List.getD, hk])).1
  · rw [List.getD_eq_getElem?_getD, List.getElem?_eq_none hk]; exact Nat.zero_le _
/-- what an element's reading tells of an ending -/
theorem elem_ende {P : Program} {e : TypeId} {f0 f1 : Field} (ht : P.underlying e = some (.struct #[f0, f1])) (h2 : P.cellsOf e = 2) (o0 : f0.offset = 0) (c0 : P.cellsOf f0.type = 1) (o1 : f1.offset = 1) (c1 : P.cellsOf f1.type = 1)
    (u0 : P.underlying f0.type = some .string) (u1 : P.underlying f1.type = some .string) {H : Type} {enc : TypeId × Value → H} {w : World} {base : Nat} {sp : Nat → Bool} {hd : Bool} {n : Nat} {cs : List Value} {d : DataW H} {pl : List MemPlace}
    (h : DataW.trod enc P w base sp hd n e cs = some (d, pl)) (hw : ∀ m ∈ d.weights P e, m ≤ reachBytes) : ∃ x : Ende, cs = Enc.enc x ∧ BdE x := by
  obtain ⟨y0, y1, m, hxd, hl, h3, h4⟩ := ChangeShapes.trod_struct2 ht h
  rw [o0, c0] at h3
  rw [o1, c1] at h4
  rw [h2] at hl
  match cs, hl with
  | [v0, v1], _ =>
    obtain ⟨s, e0, e0a, _⟩ := DataW.trod_string u0 (by simpa using h3)
    obtain ⟨t, e1, e1a, _⟩ := DataW.trod_string u1 (by simpa using h4)
    simp only [List.cons.injEq, and_true] at e0 e1
    subst e0; subst e1
    have hd2 : d = .agg [y0.1, y1.1] := congrArg Prod.fst hxd
    have hy0 : y0.1 = .lit (.string s.data.toList) := congrArg Prod.fst e0a
    have hy1 : y1.1 = .lit (.string t.data.toList) := congrArg Prod.fst e1a
    have h5 : reachBytes = 140737488351232 := rfl
    have h6 := hw s.data.toList.length (by rw [hd2, hy0]; simp [DataW.weights, ht, DataW.weightsEach])
    have h7 := hw t.data.toList.length (by rw [hd2, hy1]; simp [DataW.weights, ht, DataW.weightsEach])
    exact ⟨⟨s.data.toList, t.data.toList⟩, by cases s; cases t; rfl, by show s.data.toList.length ≤ _; omega, by show t.data.toList.length ≤ _; omega⟩
/-- how many elements a slice has that was handed in -/
theorem open_len {P : Program} {H : Type} {enc : TypeId × Value → H} {w : World} {base : Nat} {sp : Nat → Bool} {hd : Bool} {t e : TypeId} (hu : P.underlying t = some (.slice e)) {fuel : Nat} {ao : Option Addr} {len cap : Nat} {d : DataW H} {pl : List MemPlace}
    (h : DataW.trod enc P w base sp hd fuel t [.slice ao len cap] = some (d, pl)) (hw : ∀ m ∈ d.weights P t, m ≤ reachBytes) : len * P.bytesOf e ≤ reachBytes := by
  rcases open_slice hu h with ⟨h1, _⟩ | ⟨a, len', cap', m, n, D, Pl, h1, _, hl, _, hm, hx, hall⟩
  · simp only [List.cons.injEq, Value.slice.injEq, and_true] at h1
    obtain ⟨rfl, rfl, rfl⟩ := h1
    simp
  · simp only [List.cons.injEq, Value.slice.injEq, and_true] at h1
    obtain ⟨rfl, rfl, rfl⟩ := h1
    have hd2 : d = _ := congrArg Prod.fst hx
    have h3 := hw ((((List.range len).map D).length + ((List.range (m - len)).map fun j => D (len + j)).length) * P.bytesOf e) (by rw [hd2]; simp [DataW.weights, hu])
    simp only [List.length_map, List.length_range] at h3
    exact Nat.le_trans (Nat.mul_le_mul (by omega) (Nat.le_refl _)) h3
theorem elem_clas {P : Program} {e se : TypeId} {f0 f1 g0 g1 : Field} (ht : P.underlying e = some (.struct #[f0, f1])) (h2 : P.cellsOf e = 2) (o0 : f0.offset = 0) (c0 : P.cellsOf f0.type = 1) (o1 : f1.offset = 1) (c1 : P.cellsOf f1.type = 1)
    (u0 : P.underlying f0.type = some .string) (u1 : P.underlying f1.type = some (.slice se)) (cs0 : P.cellsOf se = 2) (bs0 : P.bytesOf se = 32)
    (ht2 : P.underlying se = some (.struct #[g0, g1])) (o2 : g0.offset = 0) (c2 : P.cellsOf g0.type = 1) (o3 : g1.offset = 1) (c3 : P.cellsOf g1.type = 1) (u2 : P.underlying g0.type = some .string) (u3 : P.underlying g1.type = some .string) : ElemR Clas P e := by
  intro H enc w base sp hd n cs d pl h hw
  obtain ⟨y0, y1, m, hx, hl, h3, h4⟩ := ChangeShapes.trod_struct2 ht h
  rw [o0, c0] at h3
  rw [o1, c1] at h4
  rw [h2] at hl
  match cs, hl with
  | [v, u], _ =>
    obtain ⟨s, h5, h5a, _⟩ := DataW.trod_string u0 (by simpa using h3)
    simp only [List.cons.injEq, and_true] at h5
    subst h5
    simp only [List.drop_succ_cons, List.drop_zero, List.take_succ_cons, List.take_zero] at h4
    have hd2 : d = .agg [y0.1, y1.1] := congrArg Prod.fst hx
    have hy0 : y0.1 = .lit (.string s.data.toList) := congrArg Prod.fst h5a
    have h8 : reachBytes = 140737488351232 := rfl
    have h9 := hw s.data.toList.length (by rw [hd2, hy0]; simp [DataW.weights, ht, DataW.weightsEach])
    have hw1 : ∀ q ∈ y1.1.weights P f1.type, q ≤ reachBytes := fun q hq => hw q (by rw [hd2]; simp [DataW.weights, ht, DataW.weightsEach, hq])
    rcases open_slice u1 h4 with ⟨h6, _⟩ | ⟨a, len, cap, _, _, _, _, h6, _⟩
    · simp only [List.cons.injEq, and_true] at h6
      subst h6
      exact ⟨⟨s.data.toList, []⟩, ⟨none, 0, 0, 0, by cases s; rfl, RowE.nil _ _ _ _ _⟩, by show s.data.toList.length ≤ _; omega, by simp, Nat.zero_le _⟩
    · simp only [List.cons.injEq, and_true] at h6
      subst h6
      have hln := open_len u1 (d := y1.1) (pl := y1.2) (by simpa using h4) hw1
      rw [bs0] at hln
      obtain ⟨b, off, l, rfl, hr, hq⟩ := openEQ (α := Ende) u1 cs0 (by omega) (fun n cs d pl h hw => elem_ende ht2 cs0 o2 c2 o3 c3 u2 u3 h hw) (d := y1.1) (pl := y1.2) (by simpa using h4) hw1
      exact ⟨⟨s.data.toList, l⟩, ⟨_, b, off, cap, by cases s; rfl, hr⟩, by show s.data.toList.length ≤ _; omega, hq, by show l.length ≤ _; omega⟩
theorem getD_in {α : Type} [Inhabited α] {l : List α} {k : Nat} (h : k < l.length) : l.getD k default ∈ l := by
  have e : l.getD k default = l[k] := by simp [List.getD, h]
  rw [e]; exact List.getElem_mem _
theorem ends_bd {c : List Clas} (h : ∀ x ∈ c, BdC x) (n : Str) (k : Nat) : BdE ((endsL c n).getD k default) := by
  have h0 : BdE default := ⟨Nat.zero_le _, Nat.zero_le _⟩
  by_cases h1 : 0 ≤ findC c n
  · rw [ends_at h1]
    rcases Nat.lt_or_ge k (c.getD (findC c n).toNat default).ends.length with h2 | h2
    · have h3 := findC_lt c n
      have h4 : (findC c n).toNat < c.length := by omega
      exact (h _ (getD_in h4)).2.1 _ (getD_in h2)
    · rw [List.getD_eq_getElem?_getD, List.getElem?_eq_none h2]; exact h0
  · rw [ends_none h1]; exact h0
theorem ends_len {c : List Clas} (h : ∀ x ∈ c, BdC x) (n : Str) : (endsL c n).length ≤ 4398046510976 := by
  by_cases h1 : 0 ≤ findC c n
  · rw [ends_at h1]
    have h3 := findC_lt c n
    exact (h _ (getD_in (by omega : (findC c n).toNat < c.length))).2.2
  · rw [ends_none h1]; exact Nat.zero_le _
theorem ends_ifbd {c : List Clas} {q : Str} (h : ∀ k, BdE ((endsL c q).getD k default)) (k : Nat) : BdE ((if q = [] then ([] : List Ende) else endsL c q).getD k default) := by
  by_cases hq : q = []
  · rw [if_pos hq]; exact ⟨Nat.zero_le _, Nat.zero_le _⟩
  · rw [if_neg hq]; exact h k
theorem ends_iflen {c : List Clas} {q : Str} {n : Nat} (h : (endsL c q).length ≤ n) : (if q = [] then ([] : List Ende) else endsL c q).length ≤ n := by
  by_cases hq : q = []
  · rw [if_pos hq]; exact Nat.zero_le _
  · rw [if_neg hq]; exact h
theorem clas_lit {w : World} {b : Nat} {ls : List Ende} {n cap : Nat} {m : Str} (h : RowE w (some ⟨b, 0, none⟩) b 0 cap ls) (hn : n = ls.length) (hb : BdC ⟨m, ls⟩) : Rep.rep w [S m, .slice (some ⟨b, 0, none⟩) n cap] (⟨m, ls⟩ : Clas) := ⟨⟨_, b, 0, cap, by rw [hn], h⟩, hb⟩
theorem clas_nil (w : World) {m : Str} (hb : BdC ⟨m, []⟩) : Rep.rep w [S m, .slice none 0 0] (⟨m, []⟩ : Clas) := ⟨⟨none, 0, 0, 0, rfl, RowE.nil _ _ _ _ _⟩, hb⟩
end Go.Vc
