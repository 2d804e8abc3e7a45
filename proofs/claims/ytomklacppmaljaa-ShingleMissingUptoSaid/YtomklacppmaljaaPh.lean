/-
  Plain: tags, placeholders, compatible fragments. No program in sight.
-/
import Derived.Test.YtomklacppmaljaaPa
import Derived.Sort.KeysCollected
import Derived.Sort.Walk0
namespace Go.Vc
open Go
def tagsL (f : List Item) : List Item := f.filter isTag
theorem tagsL_append (f g : List Item) : tagsL (f ++ g) = tagsL f ++ tagsL g := by simp [tagsL]
theorem tagsL_succ (f : List Item) (k : Nat) (h : k < f.length) : tagsL (f.take (k + 1)) = tagsL (f.take k) ++ (if isTag (f.getD k default) = true then [f.getD k default] else []) := by
  rw [take_succD f k h, tagsL_append]
  congr 1
  unfold tagsL
  by_cases ht : isTag (f.getD k default) = true
  · rw [if_pos ht, List.filter_cons_of_pos ht]; rfl
  · rw [if_neg ht, List.filter_cons_of_neg ht]; rfl
theorem tags_yes {f : List Item} {k : Nat} (h : k < f.length) (ht : isTag (f.getD k default) = true) : tagsL (f.take (k + 1)) = tagsL (f.take k) ++ [f.getD k default] := by rw [tagsL_succ f k h, if_pos ht]
theorem tags_no {f : List Item} {k : Nat} (h : k < f.length) (ht : ¬ isTag (f.getD k default) = true) : tagsL (f.take (k + 1)) = tagsL (f.take k) := by rw [tagsL_succ f k h, if_neg ht, List.append_nil]
theorem tagsL_len (f : List Item) : (tagsL f).length ≤ f.length := List.length_filter_le _ _
def slotsI (x : Item) : List Str := if x.kind = 5 then [x.text] else []
def slotsL (f : List Item) : List Str := f.flatMap slotsI
theorem slotsL_append (f g : List Item) : slotsL (f ++ g) = slotsL f ++ slotsL g := by simp [slotsL]
theorem slotsL_one (x : Item) : slotsL [x] = slotsI x := by simp [slotsL]
theorem slots_yes {f : List Item} {k : Nat} (h : k < f.length) (hk : (f.getD k default).kind = 5) : slotsL (f.take (k + 1)) = slotsL (f.take k) ++ [(f.getD k default).text] := by
  rw [take_succD f k h, slotsL_append, slotsL_one]; unfold slotsI; rw [if_pos hk]
theorem slots_no {f : List Item} {k : Nat} (h : k < f.length) (hk : ¬ (f.getD k default).kind = 5) : slotsL (f.take (k + 1)) = slotsL (f.take k) := by
  rw [take_succD f k h, slotsL_append, slotsL_one]; unfold slotsI; rw [if_neg hk, List.append_nil]
theorem slotsL_len (f : List Item) : (slotsL f).length ≤ f.length := by
  induction f with
  | nil => simp [slotsL]
  | cons x f ih =>
    have h : slotsL (x :: f) = slotsI x ++ slotsL f := by simp [slotsL]
    have h2 : (slotsI x).length ≤ 1 := by unfold slotsI; split <;> simp
    rw [h, List.length_append, List.length_cons]; omega
/-! ### sorted -/
def sortS (l : List Str) : List Str := l.mergeSort (fun x y => decide (x ≤ y))
theorem sortS_len (l : List Str) : (sortS l).length = l.length := by unfold sortS; simp
theorem sleq_iff (a b : Str) : (blt a b || a == b) = true ↔ a ≤ b := by
  have h1 : blt a b = decide (a < b) := by unfold blt; exact Go.Proofs.bytesLess_eq a b
  rw [h1, Bool.or_eq_true, decide_eq_true_iff, beq_iff_eq]
  constructor
  · rintro (h | h)
    · exact List.le_of_lt h
    · subst h; exact List.le_refl _
  · intro h
    rcases List.le_total b a with h2 | h2
    · exact .inr (List.le_antisymm h h2)
    · by_cases e : a = b
      · exact .inr e
      · exact .inl (by
          rcases Decidable.em (a < b) with h3 | h3
          · exact h3
          · exact absurd (List.le_antisymm h (List.not_lt.1 h3)) e)
def insS : List Str → Str → List Str
  | [], s => [s]
  | y :: l, s => if y ≤ s then y :: insS l s else s :: y :: l
theorem insS_at : ∀ (l : List Str) (s : Str) (k : Nat), k ≤ l.length → (∀ j, j < k → l.getD j default ≤ s) → (k = l.length ∨ ¬ l.getD k default ≤ s) → l.take k ++ [s] ++ l.drop k = insS l s
  | [], s, k, hk, _, _ => by
    have : k = 0 := by simpa using hk
    subst this; rfl
  | y :: l, s, 0, _, _, h => by
    have h1 : ¬ y ≤ s := by
      rcases h with h | h
      · simp at h
      · simpa using h
    unfold insS; rw [if_neg h1]; rfl
  | y :: l, s, k + 1, hk, h0, h => by
    have h1 : y ≤ s := by simpa using h0 0 (by omega)
    have ih := insS_at l s k (by simpa using hk) (fun j hj => by simpa using h0 (j + 1) (by omega)) (h.imp (fun e => by simpa using e) (fun e => by simpa using e))
    unfold insS; rw [if_pos h1, ← ih]; rfl
theorem insS_perm : ∀ (l : List Str) (s : Str), (insS l s).Perm (l ++ [s])
  | [], s => List.Perm.refl _
  | y :: l, s => by
    unfold insS
    split
    · exact (insS_perm l s).cons y
    · show (s :: (y :: l)).Perm ((y :: l) ++ [s])
      exact (List.perm_append_comm (l₁ := [s]) (l₂ := y :: l))
theorem insS_mem {l : List Str} {s x : Str} (h : x ∈ insS l s) : x ∈ l ∨ x = s := by
  have := (insS_perm l s).mem_iff.1 h
  simpa using this
theorem insS_sorted : ∀ {l : List Str} (s : Str), l.Pairwise (fun a b => a ≤ b) → (insS l s).Pairwise (fun a b => a ≤ b)
  | [], s, _ => List.pairwise_singleton _ _
  | y :: l, s, h => by
    obtain ⟨h1, h2⟩ := List.pairwise_cons.1 h
    unfold insS
    split
    · rename_i hy
      refine List.pairwise_cons.2 ⟨fun x hx => ?_, insS_sorted s h2⟩
      rcases insS_mem hx with h3 | h3
      · exact h1 x h3
      · rw [h3]; exact hy
    · rename_i hy
      have hs : s ≤ y := (List.le_total s y).resolve_right hy
      refine List.pairwise_cons.2 ⟨fun x hx => ?_, h⟩
      rcases List.mem_cons.1 hx with rfl | h3
      · exact hs
      · exact List.le_trans hs (h1 x h3)
theorem fold_ins (l : List Str) : l.foldl insS [] = sortS l := by
  have key : ∀ l : List Str, (l.foldl insS []).Perm l ∧ (l.foldl insS []).Pairwise (fun a b => a ≤ b) := fun l => by
    refine snoc_cases (Q := fun l => (l.foldl insS []).Perm l ∧ (l.foldl insS []).Pairwise (fun a b => a ≤ b)) ⟨List.Perm.refl _, List.Pairwise.nil⟩ (fun l x ih => ?_) _ l rfl
    rw [List.foldl_append]
    exact ⟨(insS_perm _ x).trans (ih.1.append (List.Perm.refl [x])), insS_sorted x ih.2⟩
  obtain ⟨h1, h2⟩ := key l
  have h3 := mergeSort_of_perm h1
  have h4 : (l.foldl insS []).mergeSort leB = l.foldl insS [] := List.mergeSort_of_pairwise (h2.imp (fun h => by simpa [leB] using h))
  show _ = l.mergeSort leB
  rw [← h3, h4]
theorem fold_ins_succ {f : List Item} {k : Nat} (h : k < f.length) (hk : (f.getD k default).kind = 5) : (slotsL (f.take (k + 1))).foldl insS [] = insS ((slotsL (f.take k)).foldl insS []) (f.getD k default).text := by
  rw [slots_yes h hk, List.foldl_append]; rfl
theorem fold_ins_len (l : List Str) : (l.foldl insS []).length = l.length := by rw [fold_ins, sortS_len]
/-! ### how often -/
theorem cnt_succ (l : List Item) (k : Nat) (h : k < l.length) (x : Item) : ((l.take (k + 1)).count x : Int) = ((l.take k).count x : Nat) + if l.getD k default = x then 1 else 0 := by
  rw [take_succD l k h, List.count_append, List.count_singleton]
  by_cases e : l.getD k default = x
  · have e2 : (l.getD k default == x) = true := by simpa using e
    rw [if_pos e, if_pos e2]; omega
  · have e2 : ¬ (l.getD k default == x) = true := by simpa using e
    rw [if_neg e, if_neg e2]; omega
theorem perm_of_counts : ∀ {A B : List Item}, A.length = B.length → (∀ x ∈ A, A.count x ≤ B.count x) → A.Perm B
  | [], B, hl, _ => by
    have : B = [] := List.eq_nil_of_length_eq_zero (by simpa using hl.symm)
    subst this; exact List.Perm.refl _
  | a :: A, B, hl, h => by
    have ha : a ∈ B := by
      have h1 := h a (by simp)
      rw [List.count_cons_self] at h1
      exact List.count_pos_iff.1 (by omega)
    have hp := List.perm_cons_erase ha
    refine (List.Perm.cons a ?_).trans hp.symm
    refine perm_of_counts (by rw [List.length_erase_of_mem ha, ← hl]; simp) (fun x hx => ?_)
    have h1 := h x (by simp [hx])
    rw [List.count_cons] at h1
    rw [List.count_erase]
    by_cases e : a = x
    · subst e; simp at h1 ⊢; omega
    · have e2 : (a == x) = false := by simpa using e
      rw [e2] at h1 ⊢
      simpa using h1
def sC (f : List Item) : List Int := ((shapeL f).getD ([], [])).1
def sO (f : List Item) : List Int := ((shapeL f).getD ([], [])).2
def compatL (a b : List Item) : Bool := ((shapeL a).isSome && (shapeL b).isSome && decide (sC a = sC b) && decide (sO a = sO b)) && (decide (sortS (slotsL a) = sortS (slotsL b)) && (tagsL a).isPerm (tagsL b))
theorem compat_iff (a b : List Item) : compatL a b = true ↔ (((shapeL a).isSome = true ∧ (shapeL b).isSome = true) ∧ sC a = sC b) ∧ sO a = sO b ∧ sortS (slotsL a) = sortS (slotsL b) ∧ (tagsL a).Perm (tagsL b) := by
  unfold compatL
  simp only [Bool.and_eq_true, decide_eq_true_eq, List.isPerm_iff]
  constructor
  · rintro ⟨⟨h1, h2⟩, h3, h4⟩; exact ⟨h1, h2, h3, h4⟩
  · rintro ⟨h1, h2, h3, h4⟩; exact ⟨⟨h1, h2⟩, h3, h4⟩
theorem compat_no {a b : List Item} (h : ((¬ (shapeL a).isSome = true ∨ ¬ (shapeL b).isSome = true) ∨ ¬ sC a = sC b) ∨ ¬ sO a = sO b) : compatL a b = false := by
  rw [← Bool.not_eq_true, compat_iff]
  rintro ⟨⟨⟨h1, h2⟩, h3⟩, h4, _⟩
  rcases h with ((h | h) | h) | h
  · exact h h1
  · exact h h2
  · exact h h3
  · exact h h4
theorem compat_noS {a b : List Item} (h : ¬ sortS (slotsL a) = sortS (slotsL b)) : compatL a b = false := by
  rw [← Bool.not_eq_true, compat_iff]
  exact fun h1 => h h1.2.2.1
theorem compat_noT {a b : List Item} (h : ¬ (tagsL a).Perm (tagsL b)) : compatL a b = false := by
  rw [← Bool.not_eq_true, compat_iff]
  exact fun h1 => h h1.2.2.2
theorem compat_noC {a b : List Item} {x : Item} (h : ¬ ((tagsL a).count x : Int) = ((tagsL b).count x : Nat)) : compatL a b = false := compat_noT (fun hp => h (by rw [hp.count_eq]))
theorem compat_noL {a b : List Item} (h : ¬ ((tagsL a).length : Int) = ((tagsL b).length : Nat)) : compatL a b = false := compat_noT (fun hp => h (by rw [hp.length_eq]))
theorem compat_yes {a b : List Item} (h : ¬ (((¬ (shapeL a).isSome = true ∨ ¬ (shapeL b).isSome = true) ∨ ¬ sC a = sC b) ∨ ¬ sO a = sO b)) (hp : (tagsL a).Perm (tagsL b)) : compatL a b = decide (sortS (slotsL a) = sortS (slotsL b)) := by
  rw [Bool.eq_iff_iff, compat_iff, decide_eq_true_iff]
  have h1 := not_or.1 h
  have h2 := not_or.1 h1.1
  have h3 := not_or.1 h2.1
  constructor
  · rintro ⟨_, _, h4, _⟩; exact h4
  · intro h4; exact ⟨⟨⟨Classical.not_not.1 h3.1, Classical.not_not.1 h3.2⟩, Classical.not_not.1 h2.2⟩, Classical.not_not.1 h1.2, h4, hp⟩
theorem perm_counts {A B : List Item} (h : ∀ x, (A.count x : Int) - (B.count x : Nat) = 0) : A.Perm B := List.perm_iff_count.2 (fun x => by have := h x; omega)
theorem bump_first {m : List (Item × Int)} {c : Item → Int} {a : Item} (h : ∀ x, (getM m x).getD 0 = c x) (d : Int) : ∀ x, (getM (setM (setM m a ((getM m a).getD 0)) a ((getM m a).getD 0 + d)) x).getD 0 = c x + if a = x then d else 0 := fun x => by
  rw [getM_setM, getM_setM]
  by_cases e : a = x
  · subst e; simp [h]
  · simp [e, h]
theorem bump_then {m : List (Item × Int)} {c : Item → Int} {a : Item} (h : ∀ x, (getM m x).getD 0 = c x) (d : Int) : ∀ x, (getM (setM (setM m a ((getM m a).getD 0)) a ((getM (setM m a ((getM m a).getD 0)) a).getD 0 + d)) x).getD 0 = c x + if a = x then d else 0 := fun x => by
  rw [getM_setM, getM_setM, getM_setM, if_pos rfl]
  by_cases e : a = x
  · subst e; simp [h]
  · simp [e, h]
/-! ### what is no text -/
def skelB (x : Item) : Bool := decide (¬ x.kind = 1)
def skel (f : List Item) : List Item := f.filter skelB
theorem skel_append (f g : List Item) : skel (f ++ g) = skel f ++ skel g := by simp [skel]
theorem skel_text {x : Item} (h : x.kind = 1) : skel [x] = [] := by unfold skel; rw [List.filter_cons_of_neg (by simp [skelB, h])]; rfl
theorem skel_other {x : Item} (h : ¬ x.kind = 1) : skel [x] = [x] := by unfold skel; rw [List.filter_cons_of_pos (by simp [skelB, h])]; rfl
theorem skel_norm (f : List Item) : skel (normL f) = skel f := by
  refine norm_ind (Q := fun f n => skel n = skel f) rfl (fun l x ih => ?_) f
  rw [skel_append]
  rcases norm_cases (normL l) x with ⟨h1, h2, e⟩ | ⟨h1, e⟩ | ⟨h1, e⟩ | ⟨h1, m, q, e0, hq, e⟩
  · rw [e, skel_text h1, List.append_nil, ih]
  · rw [e, skel_append, skel_text h1, skel_text (x := ⟨1, x.text, 0⟩) rfl, ih]
  · rw [e, skel_append, ih]
  · rw [e, skel_append, skel_text h1, skel_text (x := ⟨1, q.text ++ x.text, 0⟩) rfl, List.append_nil, List.append_nil, ← ih, e0, skel_append, skel_text hq, List.append_nil]
theorem tags_skel (f : List Item) : tagsL (skel f) = tagsL f := by
  unfold tagsL skel
  rw [List.filter_filter]
  congr 1
  funext x
  by_cases h : isTag x = true
  · have : ¬ x.kind = 1 := fun e => notag_of (.inl e) h
    simp [h, skelB, this]
  · rw [Bool.not_eq_true] at h; simp [h]
theorem slots_skel : ∀ f : List Item, slotsL (skel f) = slotsL f
  | [] => rfl
  | x :: f => by
    have e : slotsL (x :: f) = slotsI x ++ slotsL f := by simp [slotsL]
    have e2 : skel (x :: f) = skel [x] ++ skel f := by rw [← skel_append]; rfl
    rw [e, e2, slotsL_append, slots_skel f]
    congr 1
    by_cases h : x.kind = 1
    · rw [skel_text h]; unfold slotsI; rw [if_neg (by omega)]; rfl
    · rw [skel_other h, slotsL_one]
theorem shape_skel (f : List Item) : shapeL (skel f) = shapeL f := by
  refine snoc_cases (Q := fun f => shapeL (skel f) = shapeL f) rfl (fun l x ih => ?_) _ f rfl
  rw [skel_append, shape_snoc]
  by_cases h : x.kind = 1
  · rw [skel_text h, List.append_nil, ih, shape_other (by omega) (by omega)]
  · rw [skel_other h, shape_snoc, ih]
theorem compat_skel {a b : List Item} (h : skel a = skel b) : compatL a b = (shapeL a).isSome := by
  have h1 : shapeL a = shapeL b := by rw [← shape_skel a, ← shape_skel b, h]
  have h2 : slotsL a = slotsL b := by rw [← slots_skel a, ← slots_skel b, h]
  have h3 : tagsL a = tagsL b := by rw [← tags_skel a, ← tags_skel b, h]
  rw [Bool.eq_iff_iff, compat_iff]
  unfold sC sO
  rw [h1, h2, h3]
  exact ⟨fun h => h.1.1.1, fun h => ⟨⟨⟨h, h⟩, rfl⟩, rfl, rfl, List.Perm.refl _⟩⟩
def tgtW (t : Str) : List Str := [[114, 111, 116], [100, 97, 115, 32, 65, 117, 116, 111], [], [101, 105, 110, 32] ++ t, t]
theorem tgtW_bd (t : Str) : ∀ j, ((tgtW t).getD j default).length ≤ t.length + 8
  | 0 => by show 3 ≤ _; omega
  | 1 => by show 8 ≤ _; omega
  | 2 => by show 0 ≤ _; omega
  | 3 => by show ([101, 105, 110, 32] ++ t : Str).length ≤ _; rw [List.length_append]; show 4 + _ ≤ _; omega
  | 4 => by show t.length ≤ _; omega
  | _ + 5 => Nat.zero_le _
/-- a step of making a target -/
theorem skel_step {f f2 : List Item} {x : Item} {t : Str} (h2 : skel f2 = skel f) (ht : ¬ x.kind = 1 → t = x.text) : skel (normL (f2 ++ [⟨x.kind, t, x.id⟩])) = skel f ++ skel [x] := by
  rw [skel_norm, skel_append, h2]
  congr 1
  by_cases h : x.kind = 1
  · rw [skel_text h, skel_text (x := ⟨x.kind, t, x.id⟩) h]
  · rw [ht h]
theorem skel_succ (f : List Item) (k : Nat) (h : k < f.length) : skel (f.take (k + 1)) = skel (f.take k) ++ skel [f.getD k default] := by rw [take_succD f k h, skel_append]
theorem skel_add {f : List Item} (t : Str) (i : Int) : skel (normL (f ++ [⟨1, t, i⟩])) = skel f := by rw [skel_norm, skel_append, skel_text (x := ⟨1, t, i⟩) rfl, List.append_nil]
end Go.Vc
