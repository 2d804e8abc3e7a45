/-
  Plain: fragments that are made item by item: valid, and which tags are open. No program in sight.
-/
import Derived.Test.YtkdgoghmkmpfnaaPj
namespace Go.Vc
open Go
theorem valGo_snoc : ∀ (f b : List Item) (x : Item), valGo b (f ++ [x]) = 0 ↔ valGo b f = 0 ∧ checkL (b ++ f) x = 0
  | [], b, x => by
    rw [List.nil_append, List.append_nil]
    have e : valGo b [x] = if checkL b x = 0 then valGo (b ++ [x]) [] else checkL b x := by
      conv => lhs; unfold valGo
    have e0 : ∀ c : List Item, valGo c [] = 0 := fun c => by rw [valGo]
    rw [e, e0, e0]
    by_cases h : checkL b x = 0
    · rw [if_pos h]; simp [h]
    · rw [if_neg h]; simp [h]
  | y :: f, b, x => by
    rw [List.cons_append, valGo, valGo]
    by_cases h : checkL b y = 0
    · rw [if_pos h, if_pos h, valGo_snoc f (b ++ [y]) x, List.append_assoc]; rfl
    · rw [if_neg h, if_neg h]
      exact ⟨fun h2 => absurd h2 h, fun h2 => absurd h2.1 h⟩
theorem val_snoc (f : List Item) (x : Item) : valGo [] (f ++ [x]) = 0 ↔ valGo [] f = 0 ∧ checkL f x = 0 := valGo_snoc f [] x
theorem checkL_form {b : List Item} {x : Item} (h : checkL b x = 0) : formed b x = true := by
  unfold checkL at h
  split at h
  · rename_i h1; exact h1
  · cases h
theorem lastNT_of {b : List Item} (h : b = [] ∨ ¬ (b.getD (b.length - 1) default).kind = 1) : lastNT b := by
  unfold lastNT
  rintro ⟨h1, h2⟩
  rcases h with h | h
  · subst h; simp at h1
  · exact h h2
theorem lastNT_to {b : List Item} (h : lastNT b) : b = [] ∨ ¬ (b.getD (b.length - 1) default).kind = 1 := by
  by_cases hb : b = []
  · exact .inl hb
  · refine .inr fun h2 => h ⟨?_, h2⟩
    have := List.length_pos_iff.2 hb
    omega
theorem chk_text {b : List Item} {t : Str} (h0 : ¬ t = []) (h : lastNT b) : checkL b ⟨1, t, 0⟩ = 0 := chk_notag (.inl rfl) ((formed_textb rfl).2 ⟨⟨h0, rfl⟩, lastNT_to h⟩)
theorem val_norm (f : List Item) : valGo [] f = 0 → normL f = f := by
  refine snoc_cases (Q := fun f => valGo [] f = 0 → normL f = f) (fun _ => rfl) (fun l x ih h => ?_) _ f rfl
  obtain ⟨h1, h2⟩ := (val_snoc l x).1 h
  rw [normL_snoc, ih h1]
  by_cases hk : x.kind = 1
  · have h3 := (formed_textb hk).1 (checkL_form h2)
    rw [norm_add hk h3.1.1 (lastNT_of h3.2)]
    obtain ⟨k, t, i⟩ := x
    obtain rfl : k = 1 := hk
    obtain rfl : i = 0 := h3.1.2
    rfl
  · rw [norm_other hk]
structure FI (f op : List Item) (id : Int) : Prop where
  pos : 0 ≤ id
  val : valGo [] f = 0
  ids : ∀ y ∈ f, isTag y = true → y.id ≤ (id : Int)
  opn : ∀ o ∈ op, o.kind = 2 ∧ isName (nameL o.text) = true ∧ 1 ≤ o.id ∧ o.id ≤ (id : Int) ∧ ∀ y ∈ f, isTag y = true → y.id = o.id → y.kind = 2 ∧ nameL y.text = nameL o.text
  dis : op.Pairwise (fun a b => a.id ≠ b.id)
theorem FI.nil : FI [] [] 0 := ⟨by decide, rfl, by simp, by simp, List.Pairwise.nil⟩
theorem FI.norm {f op : List Item} {id : Int} (h : FI f op id) (x : Item) : normL (f ++ [x]) = normStep f x := by rw [normL_snoc, val_norm f h.val]
/-- members that are tags are the same -/
theorem FI.same {f g op : List Item} {id : Int} (h : FI f op id) (hv : valGo [] g = 0) (hm : ∀ y ∈ g, isTag y = true → y ∈ f) : FI g op id :=
  ⟨h.pos, hv, fun y hy ht => h.ids y (hm y hy ht) ht, fun o ho => by
    obtain ⟨h1, h2, h3, h4, h5⟩ := h.opn o ho
    exact ⟨h1, h2, h3, h4, fun y hy ht => h5 y (hm y hy ht) ht⟩, h.dis⟩
theorem notag1 (t : Str) (i : Int) : ¬ isTag (⟨1, t, i⟩ : Item) = true := by rw [isTag_iff]; simp
theorem FI.text {f op : List Item} {id : Int} (h : FI f op id) (t : Str) : FI (normStep f ⟨1, t, 0⟩) op id := by
  by_cases ht : t = []
  · rw [norm_empty rfl ht]; exact h
  · by_cases h3 : lastNT f
    · rw [norm_add (x := ⟨1, t, 0⟩) rfl ht h3]
      refine h.same ((val_snoc _ _).2 ⟨h.val, chk_text ht h3⟩) (fun y hy hy2 => ?_)
      rcases List.mem_append.1 hy with h4 | h4
      · exact h4
      · simp at h4; subst h4; exact absurd hy2 (notag1 _ _)
    · have h3' : (0 : Int) < (f.length : Nat) ∧ (f.getD (f.length - 1) default).kind = 1 := Decidable.byContradiction h3
      have hz : f ≠ [] := by intro e; subst e; simp at h3'
      obtain ⟨m, q, rfl⟩ : ∃ m q, f = m ++ [q] := ⟨f.dropLast, f.getLast hz, (List.dropLast_concat_getLast hz).symm⟩
      have hl : (m ++ [q]).length - 1 = m.length := by simp
      rw [hl, getD_snoc] at h3'
      rw [norm_snoc_text (x := ⟨1, t, 0⟩) h3'.2 rfl ht]
      obtain ⟨h1, h2⟩ := (val_snoc m q).1 h.val
      have h5 := (formed_textb h3'.2).1 (checkL_form h2)
      refine h.same ((val_snoc _ _).2 ⟨h1, chk_text (by simp [ht]) (lastNT_of h5.2)⟩) (fun y hy hy2 => ?_)
      rcases List.mem_append.1 hy with h4 | h4
      · exact List.mem_append_left _ h4
      · simp at h4; subst h4; exact absurd hy2 (notag1 _ _)
theorem FI.slot {f op : List Item} {id : Int} (h : FI f op id) {t : Str} (ht : isName t = true) : FI (normStep f ⟨5, t, 0⟩) op id := by
  rw [norm_other (by simp)]
  refine h.same ((val_snoc _ _).2 ⟨h.val, chk_notag (.inr rfl) ((formed_slot rfl).2 ⟨ht, rfl⟩)⟩) (fun y hy hy2 => ?_)
  rcases List.mem_append.1 hy with h4 | h4
  · exact h4
  · simp at h4; subst h4; exact absurd hy2 (notag_of (.inr rfl))
/-- a tag with a new number -/
theorem FI.new {f op : List Item} {id : Int} (h : FI f op id) {x : Item} (hk : x.kind ≠ 1) (hid : x.id = (id : Int) + 1) (hf : formed f x = true) : FI (normStep f x) op (id + 1) := by
  rw [norm_other hk]
  have hnc : f.any (clash x) = false := by
    rw [List.any_eq_false]
    intro y hy hc
    have h1 := (clash_iff x y).1 hc
    have := h.ids y hy h1.1.1
    omega
  have hp := h.pos
  refine ⟨by omega, (val_snoc _ _).2 ⟨h.val, check_ok hf (fun h2 => by rw [hnc] at h2; simp at h2)⟩, fun y hy ht => ?_, fun o ho => ?_, h.dis⟩
  · rcases List.mem_append.1 hy with h4 | h4
    · have := h.ids y h4 ht; omega
    · simp at h4; subst h4; omega
  · obtain ⟨h1, h2, h3, h4, h5⟩ := h.opn o ho
    refine ⟨h1, h2, h3, by omega, fun y hy ht hyo => ?_⟩
    rcases List.mem_append.1 hy with h6 | h6
    · exact h5 y h6 ht hyo
    · simp at h6; subst h6; omega
theorem content_name {s : Str} (h : isContent s = true) : isName (nameL s) = true := ((isContent_iff s).1 h).2.2.1
theorem FI.empty {f op : List Item} {id : Int} (h : FI f op id) {t : Str} (ht : isContent t = true) (hid : id + 1 ≤ 999) : FI (normStep f ⟨4, t, (id : Int) + 1⟩) op (id + 1) :=
  h.new (by simp) rfl ((formed_open (.inr rfl)).2 ⟨⟨ht, by have := h.pos; simp; omega⟩, by simp; omega⟩)
theorem FI.open_ {f op : List Item} {id : Int} (h : FI f op id) {t : Str} (ht : isContent t = true) (hid : id + 1 ≤ 999) : FI (normStep f ⟨2, t, (id : Int) + 1⟩) (op ++ [⟨2, t, (id : Int) + 1⟩]) (id + 1) := by
  have h1 := h.new (x := ⟨2, t, (id : Int) + 1⟩) (by simp) rfl ((formed_open (.inl rfl)).2 ⟨⟨ht, by have := h.pos; simp; omega⟩, by simp; omega⟩)
  have hp := h.pos
  refine ⟨h1.pos, h1.val, h1.ids, fun o ho => ?_, List.pairwise_append.2 ⟨h.dis, List.pairwise_singleton _ _, fun a ha b hb => ?_⟩⟩
  · rcases List.mem_append.1 ho with h2 | h2
    · exact h1.opn o h2
    · simp at h2; subst h2
      refine ⟨rfl, content_name ht, (by first | (simp; done) | (simp; omega)), (by first | (simp; done) | (simp; omega)), fun y hy hyt hyo => ?_⟩
      rw [norm_other (by simp)] at hy
      rcases List.mem_append.1 hy with h6 | h6
      · have := h.ids y h6 hyt
        simp only at hyo
        omega
      · simp at h6; subst h6; exact ⟨rfl, rfl⟩
  · simp at hb; subst hb
    have := (h.opn a ha).2.2.2.1
    simp only
    omega
theorem FI.closeNew {f op : List Item} {id : Int} (h : FI f op id) {t : Str} (ht : isName t = true) (hid : id + 1 ≤ 999) : FI (normStep f ⟨3, t, (id : Int) + 1⟩) op (id + 1) :=
  h.new (by simp) rfl ((formed_close rfl).2 ⟨⟨ht, by have := h.pos; simp; omega⟩, by simp; omega⟩)
/-- closing an open tag -/
theorem FI.close {f op : List Item} {id : Int} (h : FI f op id) {k : Nat} (hk : k < op.length) (hid : id ≤ 999) : FI (normStep f ⟨3, nameL (op.getD k default).text, (op.getD k default).id⟩) (op.take k ++ op.drop (k + 1)) id := by
  have e : op.getD k default = op[k] := by simp [List.getD, hk]
  rw [e, norm_other (by simp)]
  have hm : op[k] ∈ op := List.getElem_mem hk
  obtain ⟨h1, h2, h3, h4, h5⟩ := h.opn _ hm
  have hsp : op = op.take k ++ op[k] :: op.drop (k + 1) := by rw [← List.drop_eq_getElem_cons hk, List.take_append_drop]
  have hd := h.dis
  rw [hsp, List.pairwise_append, List.pairwise_cons] at hd
  have hnc : f.any (clash ⟨3, nameL op[k].text, op[k].id⟩) = false := by
    rw [List.any_eq_false]
    intro y hy hc
    have h6 := (clash_iff _ y).1 hc
    have h7 := h5 y hy h6.1.1 h6.1.2
    rcases h6.2 with (h8 | h8) | h8
    · exact h8 rfl
    · exact h8 h7.1
    · exact h8 h7.2
  have hsub : ∀ o ∈ op.take k ++ op.drop (k + 1), o ∈ op ∧ o.id ≠ op[k].id := fun o ho => by
    rcases List.mem_append.1 ho with h6 | h6
    · exact ⟨List.mem_of_mem_take h6, hd.2.2 o h6 _ (List.mem_cons_self ..)⟩
    · exact ⟨List.mem_of_mem_drop h6, fun e2 => hd.2.1.1 o h6 e2.symm⟩
  refine ⟨h.pos, (val_snoc _ _).2 ⟨h.val, check_ok ((formed_close rfl).2 ⟨⟨h2, h3⟩, by simp only; omega⟩) (fun h6 => by rw [hnc] at h6; simp at h6)⟩, fun y hy ht => ?_, fun o ho => ?_, ?_⟩
  · rcases List.mem_append.1 hy with h6 | h6
    · exact h.ids y h6 ht
    · simp at h6; subst h6; exact h4
  · obtain ⟨ho1, ho2⟩ := hsub o ho
    obtain ⟨g1, g2, g3, g4, g5⟩ := h.opn o ho1
    refine ⟨g1, g2, g3, g4, fun y hy ht hyo => ?_⟩
    rcases List.mem_append.1 hy with h6 | h6
    · exact g5 y h6 ht hyo
    · simp at h6; subst h6; exact absurd hyo.symm ho2
  · rw [List.pairwise_append]
    exact ⟨hd.1, hd.2.1.2, fun a ha b hb => hd.2.2 a ha b (List.mem_cons_of_mem _ hb)⟩
/-! ### the words of tags -/
def slotW : List Str := [[110], [110, 97, 109, 101], [120, 49]]
def emptyW : List Str := [[98, 114], [105, 109, 103, 32, 97]]
def openW : List Str := [[98], [105], [97, 32, 104, 61, 49]]
theorem slotW_ok : ∀ j, j < 3 → isName (slotW.getD j default) = true ∧ (slotW.getD j default).length ≤ 5 := by decide
theorem emptyW_ok : ∀ j, j < 2 → isContent (emptyW.getD j default) = true ∧ (emptyW.getD j default).length ≤ 5 := by decide
theorem openW_ok : ∀ j, j < 3 → isContent (openW.getD j default) = true ∧ (openW.getD j default).length ≤ 5 := by decide
theorem text5 {op : List Item} (h : ∀ o ∈ op, o.text.length ≤ 5) (k : Nat) : (op.getD k default).text.length ≤ 5 := by
  rcases Nat.lt_or_ge k op.length with h1 | h1
  · have e : op.getD k default = op[k] := by simp [List.getD, h1]
    rw [e]; exact h _ (List.getElem_mem h1)
  · have e : op.getD k default = default := by simp [List.getD, List.getElem?_eq_none h1]
    rw [e]; exact Nat.zero_le _
theorem FI.closeLast {f op : List Item} {id : Int} {j : Nat} (h0 : 0 < j) (hj : j ≤ op.length) (h : FI f (op.take j) id) (hid : id ≤ 999) :
    FI (f ++ [⟨3, nameL (op.getD (j - 1) default).text, (op.getD (j - 1) default).id⟩]) (op.take (j - 1)) id := by
  have h1 := h.close (k := j - 1) (by rw [List.length_take]; omega) hid
  have e1 : (op.take j).getD (j - 1) default = op.getD (j - 1) default := getD_take op default j (j - 1) (by omega)
  have e2 : (op.take j).take (j - 1) = op.take (j - 1) := by rw [List.take_take]; congr 1; omega
  have e3 : (op.take j).drop (j - 1 + 1) = [] := List.drop_eq_nil_of_le (by rw [List.length_take]; omega)
  rw [e1, e2, e3, List.append_nil, norm_other (by simp)] at h1
  exact h1
/-! ### shapes -/
def shapeStep (o : Option (List Int × List Int)) (x : Item) : Option (List Int × List Int) :=
  match o with
  | none => none
  | some (c, s) =>
    if x.kind = 2 then some (c, s ++ [x.id])
    else if x.kind = 3 then (if s.length = 0 then some (c ++ [x.id], s) else if s.getD (s.length - 1) default = x.id then some (c, s.take (s.length - 1)) else none)
    else some (c, s)
def shapeL (f : List Item) : Option (List Int × List Int) := f.foldl shapeStep (some ([], []))
theorem shape_snoc (f : List Item) (x : Item) : shapeL (f ++ [x]) = shapeStep (shapeL f) x := by unfold shapeL; rw [List.foldl_append]; rfl
theorem shape_succ (f : List Item) (k : Nat) (h : k < f.length) : shapeL (f.take (k + 1)) = shapeStep (shapeL (f.take k)) (f.getD k default) := by rw [take_succD f k h, shape_snoc]
theorem shape_other {o : Option (List Int × List Int)} {x : Item} (h2 : ¬ x.kind = 2) (h3 : ¬ x.kind = 3) : shapeStep o x = o := by
  unfold shapeStep
  cases o with
  | none => rfl
  | some p => obtain ⟨c, s⟩ := p; simp only [if_neg h2, if_neg h3]
theorem shape_open {o : Option (List Int × List Int)} {c s : List Int} {x : Item} (ho : o = some (c, s)) (h : x.kind = 2) : shapeStep o x = some (c, s ++ [x.id]) := by
  subst ho; unfold shapeStep; simp only [if_pos h]
theorem shape_none {o : Option (List Int × List Int)} {x : Item} (ho : o = none) : shapeStep o x = none := by subst ho; rfl
theorem shape_free {o : Option (List Int × List Int)} {c s : List Int} {x : Item} (ho : o = some (c, s)) (h : x.kind = 3) (hs : s.length = 0) : shapeStep o x = some (c ++ [x.id], s) := by
  subst ho; unfold shapeStep; simp only [if_neg (show ¬ x.kind = 2 by omega), if_pos h, if_pos hs]
theorem shape_match {o : Option (List Int × List Int)} {c s : List Int} {x : Item} (ho : o = some (c, s)) (h : x.kind = 3) (hs : ¬ s.length = 0) (he : s.getD (s.length - 1) default = x.id) : shapeStep o x = some (c, s.take (s.length - 1)) := by
  subst ho; unfold shapeStep; simp only [if_neg (show ¬ x.kind = 2 by omega), if_pos h, if_neg hs, if_pos he]
theorem shape_cross {o : Option (List Int × List Int)} {c s : List Int} {x : Item} (ho : o = some (c, s)) (h : x.kind = 3) (hs : ¬ s.length = 0) (he : ¬ s.getD (s.length - 1) default = x.id) : shapeStep o x = none := by
  subst ho; unfold shapeStep; simp only [if_neg (show ¬ x.kind = 2 by omega), if_pos h, if_neg hs, if_neg he]
theorem shape_norm (f : List Item) : shapeL (normL f) = shapeL f := by
  refine norm_ind (Q := fun f n => shapeL n = shapeL f) rfl (fun l x ih => ?_) f
  rw [shape_snoc]
  rcases norm_cases (normL l) x with ⟨h1, h2, e⟩ | ⟨h1, e⟩ | ⟨h1, e⟩ | ⟨h1, m, q, e0, hq, e⟩
  · rw [e, ih, shape_other (by omega) (by omega)]
  · rw [e, shape_snoc, ih, shape_other (by simp) (by simp), shape_other (by omega) (by omega)]
  · rw [e, shape_snoc, ih]
  · rw [e, shape_snoc, shape_other (by simp) (by simp), shape_other (x := x) (by omega) (by omega), ← ih, e0, shape_snoc, shape_other (by omega) (by omega)]
theorem shape_normStep (f : List Item) (x : Item) : shapeL (normStep f x) = shapeStep (shapeL f) x := by
  rcases norm_cases f x with ⟨h1, h2, e⟩ | ⟨h1, e⟩ | ⟨h1, e⟩ | ⟨h1, m, q, e0, hq, e⟩
  · rw [e, shape_other (by omega) (by omega)]
  · rw [e, shape_snoc, shape_other (by simp) (by simp), shape_other (by omega) (by omega)]
  · rw [e, shape_snoc]
  · rw [e, shape_snoc, shape_other (by simp) (by simp), shape_other (x := x) (by omega) (by omega), e0, shape_snoc, shape_other (by omega) (by omega)]
/-- with 'nested' nothing is closed but the last open tag -/
def NS (nb : Bool) (f op : List Item) : Prop := nb = true → shapeL f = some ([], op.map (fun o => o.id))
theorem NS.nil (nb : Bool) : NS nb [] [] := fun _ => rfl
theorem NS.other {nb : Bool} {f op : List Item} (h : NS nb f op) {x : Item} (h2 : ¬ x.kind = 2) (h3 : ¬ x.kind = 3) : NS nb (normStep f x) op := fun hn => by rw [shape_normStep, shape_other h2 h3, h hn]
theorem NS.otherB {nb : Bool} {f op : List Item} (h : NS nb f op) {x : Item} (h2 : (x.kind == 2) = false) (h3 : (x.kind == 3) = false) : NS nb (normStep f x) op := h.other (by simpa using h2) (by simpa using h3)
theorem NS.open_ {nb : Bool} {f op : List Item} (h : NS nb f op) (t : Str) (i : Int) : NS nb (normStep f ⟨2, t, i⟩) (op ++ [⟨2, t, i⟩]) := fun hn => by
  rw [shape_normStep, shape_open (h hn) rfl]; simp
theorem NS.closeNew {nb : Bool} {f op : List Item} (hn : ¬ nb = true) : NS nb f op := fun h => absurd h hn
theorem NS.close {nb : Bool} {f op : List Item} (h : NS nb f op) {k : Nat} (hk : k < op.length) (hl : nb = true → k = op.length - 1) (t : Str) : NS nb (normStep f ⟨3, t, (op.getD k default).id⟩) (op.take k ++ op.drop (k + 1)) := fun hn => by
  have e := hl hn
  have e2 : (op.map (fun o => o.id)).getD ((op.map (fun o => o.id)).length - 1) default = (op.getD k default).id := by
    rw [List.length_map, ← e]; simp [List.getD, hk]
  rw [shape_normStep, shape_match (x := ⟨3, t, (op.getD k default).id⟩) (h hn) rfl (by simp; intro e3; subst e3; simp at hk) e2, List.drop_eq_nil_of_le (by omega), List.append_nil, List.length_map, ← e, List.map_take]
theorem NS.closeLast {nb : Bool} {f op : List Item} {j : Nat} (h0 : 0 < j) (hj : j ≤ op.length) (h : NS nb f (op.take j)) (t : Str) : NS nb (f ++ [⟨3, t, (op.getD (j - 1) default).id⟩]) (op.take (j - 1)) := by
  have h1 := h.close (k := j - 1) (by rw [List.length_take]; omega) (fun _ => by rw [List.length_take]; omega) t
  have e1 : (op.take j).getD (j - 1) default = op.getD (j - 1) default := getD_take op default j (j - 1) (by omega)
  have e2 : (op.take j).take (j - 1) = op.take (j - 1) := by rw [List.take_take]; congr 1; omega
  have e3 : (op.take j).drop (j - 1 + 1) = [] := List.drop_eq_nil_of_le (by rw [List.length_take]; omega)
  rw [e1, e2, e3, List.append_nil, norm_other (by simp)] at h1
  exact h1
theorem NS.done {nb : Bool} {f op : List Item} {j : Nat} (h : NS nb f (op.take j)) (h0 : ¬ ((0 : Int) ≤ (j : Int) - 1 ∧ nb = true)) (hn : nb = true) : shapeL f = some ([], []) := by
  have e : j = 0 := by
    rcases Nat.eq_zero_or_pos j with h1 | h1
    · exact h1
    · exact absurd ⟨by omega, hn⟩ h0
  subst e
  exact h hn
end Go.Vc
