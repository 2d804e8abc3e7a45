/-
  Plain: renumbering and pairing of fragments. No program in sight.
-/
import Derived.Test.YtkdgoghmkmpfnaaPk
namespace Go.Vc
open Go
theorem firstM_cons (a b : Int) (fr to_ : List Int) (n : Int) : firstM (a :: fr) (b :: to_) n = if a = n then some b else firstM fr to_ n := by
  unfold firstM; rw [List.zip_cons_cons, getM_cons]
theorem firstM_some {n i : Int} : ∀ {fr to_ : List Int}, firstM fr to_ n = some i → ∃ j, j < fr.length ∧ j < to_.length ∧ fr.getD j default = n ∧ to_.getD j default = i
  | [], _, h => by unfold firstM at h; rw [List.zip_nil_left] at h; cases h
  | _ :: _, [], h => by unfold firstM at h; rw [List.zip_nil_right] at h; cases h
  | a :: fr, b :: to_, h => by
    rw [firstM_cons] at h
    by_cases e : a = n
    · rw [if_pos e] at h
      exact ⟨0, by simp, by simp, e, by simpa using h⟩
    · rw [if_neg e] at h
      obtain ⟨j, h1, h2, h3, h4⟩ := firstM_some h
      exact ⟨j + 1, by simp; omega, by simp; omega, by simpa using h3, by simpa using h4⟩
theorem firstM_nodup : ∀ {fr to_ : List Int} {j : Nat}, fr.Nodup → j < fr.length → j < to_.length → firstM fr to_ (fr.getD j default) = some (to_.getD j default)
  | a :: fr, b :: to_, 0, _, _, _ => by rw [firstM_cons]; simp
  | a :: fr, b :: to_, j + 1, hn, h1, h2 => by
    rw [firstM_cons]
    obtain ⟨h3, h4⟩ := List.nodup_cons.1 hn
    have hj : j < fr.length := by simpa using h1
    have e : (a :: fr).getD (j + 1) default = fr.getD j default := by simp
    have e2 : (b :: to_).getD (j + 1) default = to_.getD j default := by simp
    rw [e, e2, if_neg, firstM_nodup h4 hj (by simpa using h2)]
    intro ha
    have : fr.getD j default ∈ fr := by
      have e3 : fr.getD j default = fr[j] := by simp [List.getD, hj]
      rw [e3]; exact List.getElem_mem hj
    rw [← ha] at this
    exact h3 this
/-! ### the numbers -/
theorem addL_nodup {o : List Int} (h : o.Nodup) (n : Int) : (addL o n).Nodup := by
  unfold addL
  split
  · exact h
  · rename_i h2
    exact List.nodup_append.2 ⟨h, by simp, fun a ha b hb e => by simp at hb; subst hb; subst e; exact h2 ha⟩
theorem numsStep_nodup {o : List Int} (h : o.Nodup) (x : Item) : (numsStep o x).Nodup := by
  unfold numsStep
  split
  · exact addL_nodup h _
  · exact h
theorem nums_nodup (f : List Item) : (numsL f).Nodup := by
  refine snoc_cases (Q := fun f => (numsL f).Nodup) List.nodup_nil (fun l x ih => ?_) _ f rfl
  rw [numsL_snoc]; exact numsStep_nodup ih x
theorem mem_numsStep {o : List Int} {x : Item} {n : Int} : n ∈ numsStep o x ↔ n ∈ o ∨ (isTag x = true ∧ x.id = n) := by
  unfold numsStep
  by_cases h : isTag x = true
  · rw [if_pos h, mem_addL]
    exact ⟨fun h1 => h1.imp id (fun h2 => ⟨h, h2.symm⟩), fun h1 => h1.imp id (fun h2 => h2.2.symm)⟩
  · rw [if_neg h]
    exact ⟨.inl, fun h1 => h1.elim id (fun h2 => absurd h2.1 h)⟩
theorem nums_mem {f : List Item} {n : Int} : n ∈ numsL f ↔ ∃ x ∈ f, isTag x = true ∧ x.id = n := by
  refine snoc_cases (Q := fun f => n ∈ numsL f ↔ ∃ x ∈ f, isTag x = true ∧ x.id = n) (by simp [numsL]) (fun l x ih => ?_) _ f rfl
  rw [numsL_snoc, mem_numsStep, ih]
  constructor
  · rintro (⟨y, h1, h2⟩ | h)
    · exact ⟨y, by simp [h1], h2⟩
    · exact ⟨x, by simp, h⟩
  · rintro ⟨y, h1, h2⟩
    rcases List.mem_append.1 h1 with h3 | h3
    · exact .inl ⟨y, h3, h2⟩
    · simp at h3; subst h3; exact .inr h2
/-! ### renaming as a map -/
def mapI (r : Int → Int) (x : Item) : Item := if isTag x = true then ⟨x.kind, x.text, r x.id⟩ else x
def mapT (r : Int → Int) (f : List Item) : List Item := f.map (mapI r)
theorem mapI_kind (r : Int → Int) (x : Item) : (mapI r x).kind = x.kind := by unfold mapI; split <;> rfl
theorem mapI_text (r : Int → Int) (x : Item) : (mapI r x).text = x.text := by unfold mapI; split <;> rfl
theorem mapI_tag (r : Int → Int) (x : Item) : isTag (mapI r x) = isTag x := by unfold isTag; rw [mapI_kind]
theorem mapI_id {r : Int → Int} {x : Item} (h : isTag x = true) : (mapI r x).id = r x.id := by unfold mapI; rw [if_pos h]
theorem mapI_other {r : Int → Int} {x : Item} (h : ¬ isTag x = true) : mapI r x = x := by unfold mapI; rw [if_neg h]
def renR (fr to_ : List Int) (n : Int) : Int := (firstM fr to_ n).getD 0
theorem renF_map {fr to_ : List Int} (hl : fr.length ≤ to_.length) (hn : fr.Nodup) : ∀ {f : List Item}, (∀ x ∈ f, isTag x = true → x.id ∈ fr) → renF fr to_ f = mapT (renR fr to_) f
  | [], _ => rfl
  | x :: f, h => by
    have ih := renF_map hl hn (f := f) (fun y hy => h y (by simp [hy]))
    have e : renF fr to_ (x :: f) = ren1 fr to_ x ++ renF fr to_ f := by simp [renF]
    rw [e, ih]
    show _ = mapI _ x :: mapT _ f
    by_cases ht : isTag x = true
    · obtain ⟨j, hj, ej⟩ := List.getElem_of_mem (h x (by simp) ht)
      have e2 : fr.getD j default = x.id := by simp [List.getD, hj, ej]
      have h3 := firstM_nodup (to_ := to_) hn hj (by omega)
      rw [e2] at h3
      rw [ren_some ht h3]
      unfold mapI renR
      rw [if_pos ht, h3]; rfl
    · rw [ren_other ht, mapI_other ht]; rfl
structure InjT (r : Int → Int) (f : List Item) : Prop where
  inj : ∀ x ∈ f, ∀ y ∈ f, isTag x = true → isTag y = true → r x.id = r y.id → x.id = y.id
theorem InjT.left {r : Int → Int} {f g : List Item} (h : InjT r (f ++ g)) : InjT r f := ⟨fun x hx y hy => h.inj x (by simp [hx]) y (by simp [hy])⟩
theorem mapT_append (r : Int → Int) (f g : List Item) : mapT r (f ++ g) = mapT r f ++ mapT r g := by simp [mapT]
theorem mapT_snoc (r : Int → Int) (f : List Item) (x : Item) : mapT r (f ++ [x]) = mapT r f ++ [mapI r x] := by simp [mapT]
theorem mapT_NA (r : Int → Int) : ∀ f : List Item, NA f → NA (mapT r f)
  | [], _ => trivial
  | [x], _ => ⟨fun h => h.2, trivial⟩
  | x :: y :: f, h => by
    refine ⟨fun h2 => h.1 ⟨?_, ?_⟩, mapT_NA r (y :: f) h.2⟩
    · rw [← mapI_kind r x]; exact h2.1
    · show y.kind = 1
      rw [← mapI_kind r y]; exact h2.2
theorem mapT_valid {r : Int → Int} {f : List Item} (h : VF f) (hi : InjT r f) (hb : ∀ x ∈ f, isTag x = true → 1 ≤ r x.id ∧ r x.id ≤ 999) : VF (mapT r f) := by
  refine ⟨fun y hy => ?_, mapT_NA r f h.na, ?_⟩
  · obtain ⟨x, hx, rfl⟩ := List.mem_map.1 hy
    have h1 := h.each x hx
    by_cases ht : isTag x = true
    · have h2 := hb x hx ht
      rcases (isTag_iff x).1 ht with (hk | hk) | hk
      · exact (formed_open (.inl (by rw [mapI_kind]; exact hk))).2 ⟨⟨by rw [mapI_text]; exact ((formed_open (.inl hk)).1 h1).1.1, by rw [mapI_id ht]; exact h2.1⟩, by rw [mapI_id ht]; exact h2.2⟩
      · exact (formed_close (by rw [mapI_kind]; exact hk)).2 ⟨⟨by rw [mapI_text]; exact ((formed_close hk).1 h1).1.1, by rw [mapI_id ht]; exact h2.1⟩, by rw [mapI_id ht]; exact h2.2⟩
      · exact (formed_open (.inr (by rw [mapI_kind]; exact hk))).2 ⟨⟨by rw [mapI_text]; exact ((formed_open (.inr hk)).1 h1).1.1, by rw [mapI_id ht]; exact h2.1⟩, by rw [mapI_id ht]; exact h2.2⟩
    · rw [mapI_other ht]; exact h1
  · unfold mapT
    rw [List.pairwise_map]
    refine h.qq.imp_of_mem (fun {a b} ha hb2 hq ht => ?_)
    rw [mapI_tag] at ht
    have h3 := hq ht
    rw [← Bool.not_eq_true, clash_iff] at h3 ⊢
    rw [mapI_tag, mapI_kind, mapI_kind, mapI_text, mapI_text, mapI_id ht]
    rintro ⟨⟨h4, h5⟩, h6⟩
    rw [mapI_id h4] at h5
    exact h3 ⟨⟨h4, hi.inj a ha b hb2 h4 ht h5⟩, h6⟩
theorem mapT_nums {r : Int → Int} (f : List Item) : InjT r f → numsL (mapT r f) = (numsL f).map r := by
  refine snoc_cases (Q := fun f => InjT r f → numsL (mapT r f) = (numsL f).map r) (fun _ => rfl) (fun l x ih hi => ?_) _ f rfl
  rw [mapT_snoc, numsL_snoc, numsL_snoc, ih hi.left]
  unfold numsStep
  rw [mapI_tag]
  by_cases ht : isTag x = true
  · rw [if_pos ht, if_pos ht, mapI_id ht]
    have e : (r x.id ∈ (numsL l).map r) ↔ x.id ∈ numsL l := by
      constructor
      · intro h
        obtain ⟨n, h1, h2⟩ := List.mem_map.1 h
        obtain ⟨y, hy, hyt, hyn⟩ := nums_mem.1 h1
        have : y.id = x.id := hi.inj y (by simp [hy]) x (by simp) hyt ht (by rw [hyn, h2])
        rw [← this, hyn]; exact h1
      · exact fun h => List.mem_map.2 ⟨_, h, rfl⟩
    by_cases hm : x.id ∈ numsL l
    · rw [addL_old hm, addL_old (e.2 hm)]
    · rw [addL_new hm, addL_new (fun h => hm (e.1 h))]; simp
  · rw [if_neg ht, if_neg ht]
def mapS (r : Int → Int) (o : Option (List Int × List Int)) : Option (List Int × List Int) := o.map (fun p => (p.1.map r, p.2.map r))
theorem shape_ids (f : List Item) : ∀ c s, shapeL f = some (c, s) → ∀ n ∈ s, ∃ x ∈ f, isTag x = true ∧ x.id = n := by
  refine snoc_cases (Q := fun f => ∀ c s, shapeL f = some (c, s) → ∀ n ∈ s, ∃ x ∈ f, isTag x = true ∧ x.id = n) (fun c s h n hn => ?_) (fun l x ih c s h n hn => ?_) _ f rfl
  · have h2 : some (([] : List Int), ([] : List Int)) = some (c, s) := h
    simp at h2; rw [h2.2] at hn; cases hn
  · rw [shape_snoc] at h
    have up : (∃ y ∈ l, isTag y = true ∧ y.id = n) → ∃ y ∈ l ++ [x], isTag y = true ∧ y.id = n := fun ⟨y, h1, h2⟩ => ⟨y, by simp [h1], h2⟩
    cases hs : shapeL l with
    | none => rw [hs] at h; cases h
    | some p =>
      obtain ⟨c0, s0⟩ := p
      have ih' := ih c0 s0 hs
      by_cases h2 : x.kind = 2
      · rw [shape_open hs h2] at h
        simp at h; rw [← h.2] at hn
        rcases List.mem_append.1 hn with h3 | h3
        · exact up (ih' n h3)
        · simp at h3; exact ⟨x, by simp, (isTag_iff x).2 (.inl (.inl h2)), h3.symm⟩
      · by_cases h3 : x.kind = 3
        · by_cases h4 : s0.length = 0
          · rw [shape_free hs h3 h4] at h
            simp at h; rw [← h.2] at hn; exact up (ih' n hn)
          · by_cases h5 : s0.getD (s0.length - 1) default = x.id
            · rw [shape_match hs h3 h4 h5] at h
              simp at h; rw [← h.2] at hn; exact up (ih' n (List.mem_of_mem_take hn))
            · rw [shape_cross hs h3 h4 h5] at h; cases h
        · rw [shape_other h2 h3, hs] at h
          simp at h; rw [← h.2] at hn; exact up (ih' n hn)
theorem mapT_shape {r : Int → Int} (f : List Item) : InjT r f → shapeL (mapT r f) = mapS r (shapeL f) := by
  refine snoc_cases (Q := fun f => InjT r f → shapeL (mapT r f) = mapS r (shapeL f)) (fun _ => rfl) (fun l x ih hi => ?_) _ f rfl
  have h0 := ih hi.left
  rw [mapT_snoc, shape_snoc, shape_snoc]
  cases hs : shapeL l with
  | none =>
    rw [hs] at h0
    have h1 : shapeL (mapT r l) = none := h0
    rw [shape_none h1, shape_none rfl]; rfl
  | some p =>
    obtain ⟨c0, s0⟩ := p
    rw [hs] at h0
    have h1 : shapeL (mapT r l) = some (c0.map r, s0.map r) := h0
    by_cases h2 : x.kind = 2
    · have ht := (isTag_iff x).2 (.inl (.inl h2))
      rw [shape_open h1 (by rw [mapI_kind]; exact h2), shape_open rfl h2, mapI_id ht]
      simp [mapS]
    · by_cases h3 : x.kind = 3
      · have ht := (isTag_iff x).2 (.inl (.inr h3))
        by_cases h4 : s0.length = 0
        · rw [shape_free h1 (by rw [mapI_kind]; exact h3) (by simpa using h4), shape_free rfl h3 h4, mapI_id ht]
          simp [mapS]
        · have hp : s0.length - 1 < s0.length := by omega
          have e : (s0.map r).getD ((s0.map r).length - 1) default = r (s0.getD (s0.length - 1) default) := by
            rw [List.length_map]
            simp [List.getD, List.getElem?_map, List.getElem?_eq_getElem hp]
          have hm : s0.getD (s0.length - 1) default ∈ s0 := by
            have e2 : s0.getD (s0.length - 1) default = s0[s0.length - 1] := by simp [List.getD, hp]
            rw [e2]; exact List.getElem_mem hp
          by_cases h5 : s0.getD (s0.length - 1) default = x.id
          · rw [shape_match h1 (by rw [mapI_kind]; exact h3) (by simpa using h4) (by rw [e, h5, mapI_id ht]), shape_match rfl h3 h4 h5]
            simp [mapS, List.map_take]
          · rw [shape_cross h1 (by rw [mapI_kind]; exact h3) (by simpa using h4) (by
              rw [e, mapI_id ht]
              intro h6
              obtain ⟨y, hy, hyt, hyn⟩ := shape_ids l c0 s0 hs _ hm
              rw [← hyn] at h6 h5
              exact h5 (hi.inj y (by simp [hy]) x (by simp) hyt ht h6)), shape_cross rfl h3 h4 h5]
            rfl
      · rw [shape_other (by rw [mapI_kind]; exact h2) (by rw [mapI_kind]; exact h3), shape_other h2 h3, h1]; rfl
theorem mapI_plain (r : Int → Int) (x : Item) : plainI (mapI r x) = plainI x := by unfold plainI; rw [mapI_kind, mapI_text]
theorem mapT_plain (r : Int → Int) (f : List Item) : plainL (mapT r f) = plainL f := by
  unfold plainL mapT
  rw [List.flatMap_map]
  congr 1
  funext x; exact mapI_plain r x
theorem mapT_length (r : Int → Int) (f : List Item) : lengthL (mapT r f) = lengthL f := by
  unfold lengthL mapT
  rw [List.map_map]
  congr 1
  refine List.map_congr_left (fun x _ => ?_)
  show widthL (mapI r x) = widthL x
  unfold widthL; rw [mapI_kind, mapI_text]
/-! ### renumbering -/
def renumR (f : List Item) : Int → Int := renR (numsL f) (upL (numsL f).length)
def renumL (f : List Item) : List Item := renL (numsL f) (upL (numsL f).length) f
theorem renumR_at {f : List Item} {j : Nat} (hj : j < (numsL f).length) : renumR f ((numsL f).getD j default) = (j : Int) + 1 := by
  unfold renumR renR
  rw [firstM_nodup (nums_nodup f) hj (by rw [upL_len]; exact hj), upL_at hj]; rfl
theorem nums_at {f : List Item} {x : Item} (hx : x ∈ f) (ht : isTag x = true) : ∃ j, j < (numsL f).length ∧ (numsL f).getD j default = x.id := by
  obtain ⟨j, hj, e⟩ := List.getElem_of_mem (nums_mem.2 ⟨x, hx, ht, rfl⟩)
  exact ⟨j, hj, by simp [List.getD, hj, e]⟩
theorem renumF (f : List Item) : renF (numsL f) (upL (numsL f).length) f = mapT (renumR f) f :=
  renF_map (by rw [upL_len]; exact Nat.le_refl _) (nums_nodup f) (fun x hx ht => nums_mem.2 ⟨x, hx, ht, rfl⟩)
theorem renum_inj (f : List Item) : InjT (renumR f) f := ⟨fun x hx y hy ht ht2 e => by
  obtain ⟨j, hj, ej⟩ := nums_at hx ht
  obtain ⟨k, hk, ek⟩ := nums_at hy ht2
  rw [← ej, ← ek, renumR_at hj, renumR_at hk] at e
  have : j = k := by omega
  subst this
  rw [← ej, ← ek]⟩
theorem renum_map {f : List Item} (h : VF f) (hl : (numsL f).length ≤ 999) : renumL f = mapT (renumR f) f ∧ VF (mapT (renumR f) f) := by
  have hv : VF (mapT (renumR f) f) := mapT_valid h (renum_inj f) (fun x hx ht => by
    obtain ⟨j, hj, ej⟩ := nums_at hx ht
    rw [← ej, renumR_at hj]; omega)
  refine ⟨?_, hv⟩
  unfold renumL renL
  rw [renumF]
  exact val_norm _ ((val_iff _).2 hv)
theorem renum_nums {f : List Item} : numsL (mapT (renumR f) f) = upL (numsL f).length := by
  rw [mapT_nums f (renum_inj f)]
  refine List.ext_getElem (by simp [upL_len]) (fun j h1 h2 => ?_)
  have hj : j < (numsL f).length := by simpa using h1
  have e := renumR_at hj
  have e2 : (numsL f).getD j default = (numsL f)[j] := by simp [List.getD, hj]
  rw [e2] at e
  rw [List.getElem_map, e]
  have e3 := upL_at hj
  simp [List.getD, h2] at e3
  exact e3.symm
theorem renum_again {g : List Item} {n : Nat} (h : VF g) (hn : numsL g = upL n) : renumL g = g := by
  have hl : (numsL g).length = n := by rw [hn, upL_len]
  have e : mapT (renumR g) g = g := by
    unfold mapT
    conv => rhs; rw [← List.map_id g]
    refine List.map_congr_left (fun x hx => ?_)
    by_cases ht : isTag x = true
    · obtain ⟨j, hj, ej⟩ := nums_at hx ht
      have h1 := renumR_at hj
      have h2 : (numsL g).getD j default = (j : Int) + 1 := by rw [hn]; exact upL_at (by omega)
      rw [ej] at h1 h2
      unfold mapI
      rw [if_pos ht, h1, ← h2]; rfl
    · exact mapI_other ht
  unfold renumL renL
  rw [renumF, e]
  exact val_norm _ ((val_iff _).2 h)
end Go.Vc
