/-
  A region that draws: two lists of strings, a number from 0 on for either, an ending out of both. What holds whatever has come up.
-/
import Derived.Test.YtomklacppmaljaaPw
import Derived.Test.YtomklacppmaljaaDrg
namespace Go.Vc
open Go Go.RowKit Go.IntWalk
def M9 : List Nat := [9, 31, 32, 33, 34, 35, 36, 37, 38, 39, 40, 41]
def slot9 (j : Nat) : Nat := [31, 32, 33, 34, 35, 36, 37, 38, 39, 40, 41, 9].getD j 0
def cn9 (l : Array Bool) : Nat := (l.getD 2 false).toNat + (l.getD 7 false).toNat
def Phi9 (z bs EN : Nat) : Nat → Fr → World → Prop
  | 0, g, w => ∃ b, (z ≤ b ∧ b < w.heap.size) ∧ g 31 = .slice (some ⟨b, 0, none⟩) 5 5 ∧ RowE w (some ⟨b, 0, none⟩) b 0 5 stripsL
  | 1, g, _ => g 32 = .pointer (some ⟨bs, 0, none⟩)
  | 2, g, _ => ∃ r, g 33 = .int .i64 r ∧ 0 ≤ r ∧ r < 5
  | 3, g, w => ∃ b j s, (z ≤ b ∧ b < w.heap.size) ∧ g 34 = .pointer (some ⟨b, j, none⟩) ∧ At w b j [S s] ∧ s ∈ stripsL
  | 4, g, _ => ∃ s, g 35 = S s ∧ s ∈ stripsL
  | 5, g, w => ∃ b, (z ≤ b ∧ b < w.heap.size) ∧ g 36 = .slice (some ⟨b, 0, none⟩) 6 6 ∧ RowE w (some ⟨b, 0, none⟩) b 0 6 addsL
  | 6, g, _ => g 37 = .pointer (some ⟨bs, 0, none⟩)
  | 7, g, _ => ∃ r, g 38 = .int .i64 r ∧ 0 ≤ r ∧ r < 6
  | 8, g, w => ∃ b j s, (z ≤ b ∧ b < w.heap.size) ∧ g 39 = .pointer (some ⟨b, j, none⟩) ∧ At w b j [S s] ∧ s ∈ addsL
  | 9, g, _ => ∃ s, g 40 = S s ∧ s ∈ addsL
  | 10, g, _ => ∃ s t, g 41 = .agg #[S s, S t] ∧ s ∈ stripsL ∧ t ∈ addsL
  | 11, g, w => ∃ b, (z ≤ b ∧ b < w.heap.size) ∧ g 9 = .pointer (some ⟨b, 0, none⟩) ∧ ∃ s t, Blk w b EN [S s, S t]
  | _, _, _ => True
def Fin9 (z EN : Nat) (g : Fr) (w : World) : Prop := ∃ b s t, (z ≤ b ∧ b < w.heap.size) ∧ g 9 = .pointer (some ⟨b, 0, none⟩) ∧ Blk w b EN [S s, S t] ∧ s ∈ stripsL ∧ t ∈ addsL
def I9 (wR : World) (bs EN T N2 : Nat) (c : Value) (l : Array Bool) (g : Fr) (w : World) : Prop :=
  Evo wR w [bs] ∧ Blk w bs T [c, .int .i64 (N2 + cn9 l : Nat)] ∧ ((l.getD 12 false = false ∧ ∀ j, l.getD j false = true → Phi9 wR.heap.size bs EN j g w) ∨ (l.getD 12 false = true ∧ Fin9 wR.heap.size EN g w ∧ ∀ j, j < 12 → l.getD j false = true))
theorem stab9 {z bs EN d : Nat} (hbs : bs < z) {g g' : Fr} {w w' : World} (he : Evo w w' [bs]) (hfr : ∀ q, elemN q M9 = true → q ≠ d → g' q = g q) : ∀ j, slot9 j ≠ d → Phi9 z bs EN j g w → Phi9 z bs EN j g' w' := by
  have hsz := he.size
  intro j hj h
  match j with
  | 0 => obtain ⟨b, h1, h2, h3⟩ := h; exact ⟨b, by omega, by rw [hfr 31 rfl hj]; exact h2, h3.evo he (by simp; omega)⟩
  | 1 => show g' 32 = _; rw [hfr 32 rfl hj]; exact h
  | 2 => obtain ⟨r, h2, h3⟩ := h; exact ⟨r, by rw [hfr 33 rfl hj]; exact h2, h3⟩
  | 3 => obtain ⟨b, q, s, h1, h2, h3, h4⟩ := h; exact ⟨b, q, s, by omega, by rw [hfr 34 rfl hj]; exact h2, h3.evo he (by simp; omega), h4⟩
  | 4 => obtain ⟨r, h2, h3⟩ := h; exact ⟨r, by rw [hfr 35 rfl hj]; exact h2, h3⟩
  | 5 => obtain ⟨b, h1, h2, h3⟩ := h; exact ⟨b, by omega, by rw [hfr 36 rfl hj]; exact h2, h3.evo he (by simp; omega)⟩
  | 6 => show g' 37 = _; rw [hfr 37 rfl hj]; exact h
  | 7 => obtain ⟨r, h2, h3⟩ := h; exact ⟨r, by rw [hfr 38 rfl hj]; exact h2, h3⟩
  | 8 => obtain ⟨b, q, s, h1, h2, h3, h4⟩ := h; exact ⟨b, q, s, by omega, by rw [hfr 39 rfl hj]; exact h2, h3.evo he (by simp; omega), h4⟩
  | 9 => obtain ⟨r, h2, h3⟩ := h; exact ⟨r, by rw [hfr 40 rfl hj]; exact h2, h3⟩
  | 10 => obtain ⟨s, t, h2, h3⟩ := h; exact ⟨s, t, by rw [hfr 41 rfl hj]; exact h2, h3⟩
  | 11 => obtain ⟨b, h1, h2, s, t, h3⟩ := h; exact ⟨b, by omega, by rw [hfr 9 rfl hj]; exact h2, s, t, h3.evo he (by simp; omega)⟩
  | _ + 12 => trivial
theorem slot9_ne {i j : Nat} (hi : i < 12) (hj : j < 12) (h : j ≠ i) : slot9 j ≠ slot9 i := by
  have : ∀ i, i < 12 → ∀ j, j < 12 → j ≠ i → slot9 j ≠ slot9 i := by decide
  exact this i hi j hj h
theorem cn9_set {l : Array Bool} {i : Nat} (h2 : i ≠ 2) (h7 : i ≠ 7) : cn9 (l.setIfInBounds i true) = cn9 l := by
  unfold cn9; rw [set_ne (Ne.symm h2), set_ne (Ne.symm h7)]
theorem cn9_2 {l : Array Bool} (h : l.getD 2 true = false) : cn9 (l.setIfInBounds 2 true) = cn9 l + 1 := by
  have h1 := un_false h
  unfold cn9; rw [set_eq h1.2, set_ne (by decide), h1.1]; simp; omega
theorem cn9_7 {l : Array Bool} (h : l.getD 7 true = false) : cn9 (l.setIfInBounds 7 true) = cn9 l + 1 := by
  have h1 := un_false h
  unfold cn9; rw [set_eq h1.2, set_ne (by decide), h1.1]; simp
theorem cn9_le (l : Array Bool) : cn9 l ≤ 2 := by
  unfold cn9
  have := Bool.toNat_le (l.getD 2 false); have := Bool.toNat_le (l.getD 7 false)
  omega
/-- what an operation may count on -/
theorem I9.deps {wR w : World} {bs EN T N2 : Nat} {c : Value} {l : Array Bool} {g : Fr} {i : Nat} (hi : i < 13) (hu : l.getD i true = false) (h : I9 wR bs EN T N2 c l g w) :
    Evo wR w [bs] ∧ Blk w bs T [c, .int .i64 (N2 + cn9 l : Nat)] ∧ l.getD 12 false = false ∧ ∀ j, l.getD j false = true → Phi9 wR.heap.size bs EN j g w := by
  obtain ⟨h1, h2, h3 | h3⟩ := h
  · exact ⟨h1, h2, h3.1, h3.2⟩
  · by_cases h12 : i = 12
    · subst h12
      rw [(un_false hu).1] at h3; exact absurd h3.1 (by simp)
    · have := h3.2.2 i (by omega); rw [(un_false hu).1] at this; cases this
/-- an operation has come up -/
theorem I9.step {wR w w' : World} {bs EN T N2 : Nat} {c : Value} {l : Array Bool} {g g' : Fr} {i : Nat} (hi : i < 12) (hu : l.getD i true = false) (hbs : bs < wR.heap.size) (h12 : l.getD 12 false = false) (hP : ∀ j, l.getD j false = true → Phi9 wR.heap.size bs EN j g w)
    (he1 : Evo w w' [bs]) (he : Evo wR w' [bs]) (hb : Blk w' bs T [c, .int .i64 (N2 + cn9 (l.setIfInBounds i true) : Nat)]) (hfr : ∀ q, elemN q M9 = true → q ≠ slot9 i → g' q = g q) (hn : Phi9 wR.heap.size bs EN i g' w') :
    I9 wR bs EN T N2 c (l.setIfInBounds i true) g' w' := by
  refine ⟨he, hb, .inl ⟨by rw [set_ne (by omega)]; exact h12, fun j hj => ?_⟩⟩
  by_cases hji : j = i
  · subst hji; exact hn
  · rw [set_ne hji] at hj
    by_cases hj12 : j < 12
    · exact stab9 hbs he1 hfr j (slot9_ne hi hj12 hji) (hP j hj)
    · match j, hj12 with
      | j + 12, _ => trivial
      | 0, h | 1, h | 2, h | 3, h | 4, h | 5, h | 6, h | 7, h | 8, h | 9, h | 10, h | 11, h => exact absurd (by decide) h
theorem I9.last {wR w' : World} {bs EN T N2 : Nat} {c : Value} {l : Array Bool} {g' : Fr} (hu : l.getD 12 true = false) (hall : ∀ j, j < 12 → l.getD j false = true)
    (he : Evo wR w' [bs]) (hb : Blk w' bs T [c, .int .i64 (N2 + cn9 (l.setIfInBounds 12 true) : Nat)]) (hn : Fin9 wR.heap.size EN g' w') : I9 wR bs EN T N2 c (l.setIfInBounds 12 true) g' w' :=
  ⟨he, hb, .inr ⟨set_eq (un_false hu).2, hn, fun j hj => by rw [set_ne (by omega)]; exact hall j hj⟩⟩
theorem I9.init {wR w : World} {bs EN T N2 : Nat} {c : Value} {g : Fr} (he : Evo wR w [bs]) (hb : Blk w bs T [c, .int .i64 (N2 : Nat)]) : I9 wR bs EN T N2 c (Array.replicate 13 false) g w :=
  ⟨he, hb, .inl ⟨rfl, fun j hj => by
    rcases Nat.lt_or_ge j 13 with h | h
    · simp [h] at hj
    · simp [Array.getElem?_eq_none (show (Array.replicate 13 false).size ≤ j by simpa using h)] at hj⟩⟩
theorem I9.done {wR w : World} {bs EN T N2 : Nat} {c : Value} {g : Fr} (h : I9 wR bs EN T N2 c (Array.replicate 13 true) g w) : Evo wR w [bs] ∧ Blk w bs T [c, .int .i64 (N2 + 2 : Nat)] ∧ Fin9 wR.heap.size EN g w := by
  obtain ⟨h1, h2, h3 | h3⟩ := h
  · exact absurd h3.1 (by decide)
  · exact ⟨h1, h2, h3.2.1⟩
theorem elem_in {w : World} {b j k : Nat} {l : List Str} {cap : Nat} (h : RowE w (some ⟨b, 0, none⟩) b 0 cap l) (hk : k < l.length) (hj : j = 0 + k * 1) : ∃ s, At w b j [S s] ∧ s ∈ l := by
  subst hj
  exact ⟨_, h.at k hk, List.getElem_mem hk⟩
theorem deps_all {o : Oper} {l : Array Bool} {m : Nat} (hd : ∀ e ∈ o.after, Region.binds .any e = true → l.getD e.on false = true) (h : (List.range m).all (depB o) = true) : ∀ j, j < m → l.getD j false = true := fun j hj =>
  dep_of hd j (List.all_eq_true.1 h j (List.mem_range.2 hj))
end Go.Vc
