/-
  Plain: shapes of slices; joining compatible fragments. No program in sight.
-/
import Derived.Test.YtkdgoghmkmpfnaaPh
namespace Go.Vc
open Go
theorem fold_none (g : List Item) : g.foldl shapeStep none = none := by
  induction g with
  | nil => rfl
  | cons x g ih => rw [List.foldl_cons]; exact ih
theorem shape_append (a b : List Item) : shapeL (a ++ b) = b.foldl shapeStep (shapeL a) := by unfold shapeL; rw [List.foldl_append]
theorem shape_prefix {a b : List Item} (h : (shapeL (a ++ b)).isSome = true) : (shapeL a).isSome = true := by
  rw [shape_append] at h
  cases e : shapeL a with
  | none => rw [e, fold_none] at h; cases h
  | some p => rfl
theorem suffix_go : ∀ (g : List Item) (c c' p s' : List Int), (g.foldl shapeStep (some (c, p ++ s'))).isSome = true → (g.foldl shapeStep (some (c', s'))).isSome = true
  | [], _, _, _, _, _ => rfl
  | x :: g, c, c', p, s', h => by
    rw [List.foldl_cons] at h ⊢
    by_cases h2 : x.kind = 2
    · rw [shape_open rfl h2] at h ⊢
      rw [List.append_assoc] at h
      exact suffix_go g c c' p (s' ++ [x.id]) h
    · by_cases h3 : x.kind = 3
      · by_cases hs : s'.length = 0
        · have e : s' = [] := List.eq_nil_of_length_eq_zero hs
          subst e
          rw [List.append_nil] at h
          rw [shape_free rfl h3 rfl]
          by_cases hp : p.length = 0
          · rw [shape_free rfl h3 hp] at h
            exact suffix_go g (c ++ [x.id]) (c' ++ [x.id]) p [] (by rw [List.append_nil]; exact h)
          · by_cases he : p.getD (p.length - 1) default = x.id
            · rw [shape_match rfl h3 hp he] at h
              exact suffix_go g c (c' ++ [x.id]) (p.take (p.length - 1)) [] (by rw [List.append_nil]; exact h)
            · rw [shape_cross rfl h3 hp he, fold_none] at h; cases h
        · have hl : ¬ (p ++ s').length = 0 := by rw [List.length_append]; omega
          have e : (p ++ s').getD ((p ++ s').length - 1) default = s'.getD (s'.length - 1) default := by
            rw [List.length_append, List.getD_eq_getElem?_getD, List.getElem?_append_right (by omega), List.getD_eq_getElem?_getD]
            congr 2; omega
          by_cases he : s'.getD (s'.length - 1) default = x.id
          · rw [shape_match rfl h3 hl (by rw [e]; exact he)] at h
            rw [shape_match rfl h3 hs he]
            have e2 : (p ++ s').take ((p ++ s').length - 1) = p ++ s'.take (s'.length - 1) := by
              rw [List.length_append, List.take_append, List.take_of_length_le (by omega)]
              congr 2; omega
            rw [e2] at h
            exact suffix_go g c c' p _ h
          · rw [shape_cross rfl h3 hl (by rw [e]; exact he), fold_none] at h; cases h
      · rw [shape_other h2 h3] at h ⊢
        exact suffix_go g c c' p s' h
theorem shape_suffix {a b : List Item} (h : (shapeL (a ++ b)).isSome = true) : (shapeL b).isSome = true := by
  rw [shape_append] at h
  cases e : shapeL a with
  | none => rw [e, fold_none] at h; cases h
  | some p =>
    obtain ⟨c, s⟩ := p
    rw [e] at h
    exact suffix_go b c [] s [] (by rw [List.append_nil]; exact h)
theorem skel_eqv {A B : List Item} (h : Eqv A B) : skel A = skel B := by rw [← skel_norm A, ← skel_norm B, h.norm]
theorem shape_eqv {A B : List Item} (h : Eqv A B) : shapeL A = shapeL B := by rw [← shape_skel A, ← shape_skel B, skel_eqv h]
/-- fragments of the slices' tags and placeholders -/
theorem join_ok {f a b s t : List Item} (he : Eqv (a ++ b) f) (hf : shapeL f = some ([], [])) (hs : skel s = skel a) (ht : skel t = skel b) :
    compatL a s = true ∧ compatL b t = true ∧ compatL f (normL (s ++ t)) = true := by
  have h1 : (shapeL (a ++ b)).isSome = true := by rw [shape_eqv he, hf]; rfl
  refine ⟨?_, ?_, ?_⟩
  · rw [compat_skel hs.symm]; exact shape_prefix h1
  · rw [compat_skel ht.symm]; exact shape_suffix h1
  · rw [compat_skel (by rw [skel_norm, skel_append, hs, ht, ← skel_append, skel_eqv he]), hf]; rfl
end Go.Vc
