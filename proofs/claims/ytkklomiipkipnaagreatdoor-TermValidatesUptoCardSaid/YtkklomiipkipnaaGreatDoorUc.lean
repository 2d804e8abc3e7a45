/-
  Library, plain laws and walks that the statements reach (joined by a program out of smaller texts).
-/
import Derived.Test.YtkklomiipkipnaaGreatDoorUa
import Derived.Lib.Bytealg
import Derived.Sort.KeysCollected
import Derived.Sort.Walk0
namespace Go.Vc
open Go Go.RowKit
theorem take_succD {α : Type} [Inhabited α] (l : List α) (k : Nat) (h : k < l.length) : l.take (k + 1) = l.take k ++ [l.getD k default] := by
  rw [List.take_succ_eq_append_getElem h]; simp [List.getD, h]
theorem getM_cons {α β : Type} [DecidableEq α] (p : α × β) (m : List (α × β)) (y : α) : getM (p :: m) y = if p.1 = y then some p.2 else getM m y := by
  unfold getM
  rw [List.find?_cons]
  by_cases h : p.1 = y <;> simp [h]
theorem getM_mapset {α β : Type} [DecidableEq α] (x y : α) (v : β) : ∀ (m : List (α × β)), getM (m.map (fun p => if p.1 = x then (x, v) else p)) y = if x = y then (if m.any (·.1 = x) then some v else none) else getM m y
  | [] => by by_cases h : x = y <;> simp [getM, h]
  | p :: m => by
    have ih := getM_mapset x y v m
    rw [List.map_cons, getM_cons, getM_cons, ih]
    by_cases hp : p.1 = x
    · by_cases hxy : x = y
      · simp [hp, hxy]
      · have : ¬ p.1 = y := by rw [hp]; exact hxy
        simp [hp, hxy]
    · by_cases hxy : x = y
      · subst hxy
        simp only [if_true, List.any_cons, decide_eq_false hp, Bool.false_or, if_neg hp]
      · simp [hp, hxy]
theorem getM_app {α β : Type} [DecidableEq α] (y : α) (x : α) (v : β) : ∀ (m : List (α × β)), (∀ p ∈ m, p.1 ≠ x) → getM (m ++ [(x, v)]) y = if x = y then some v else getM m y
  | [], _ => by rw [List.nil_append, getM_cons]
  | p :: m, h => by
    have ih := getM_app y x v m (fun q hq => h q (by simp [hq]))
    rw [List.cons_append, getM_cons, getM_cons, ih]
    have hp := h p (by simp)
    by_cases hpy : p.1 = y
    · have : ¬ x = y := fun e => hp (by rw [hpy, e])
      simp [hpy, this]
    · simp [hpy]
theorem getM_setM {α β : Type} [DecidableEq α] (m : List (α × β)) (x y : α) (v : β) : getM (setM m x v) y = if x = y then some v else getM m y := by
  rcases find_idx x m with h | ⟨i, u, h, hne⟩
  · rw [setM_miss h, getM_app y x v m h]
  · have hany : (m.any (·.1 = x)) = true := by simp only [List.any_eq_true]; exact ⟨_, List.mem_of_getElem? h, by simp⟩
    unfold setM
    rw [if_pos hany, getM_mapset, hany]
    simp
end Go.Vc
namespace Go.Vc
open Go
def lowB (c : UInt8) : Bool := decide (97 ≤ c.toNat) && decide (c.toNat ≤ 122)
def digB (c : UInt8) : Bool := decide (48 ≤ c.toNat) && decide (c.toNat ≤ 57)
def nameB (c : UInt8) : Bool := lowB c || digB c || decide (c.toNat = 45)
def isName (s : Str) : Bool := decide (1 ≤ s.length) && decide (s.length ≤ 24) && lowB (s.getD 0 0) && (s.drop 1).all nameB
theorem all_upto {α : Type} (p : α → Bool) (d : α) (l : List α) : l.all p = true ↔ ∀ j, j < l.length → p (l.getD j d) = true := by
  rw [List.all_eq_true]
  constructor
  · intro h j hj
    have e : l.getD j d = l[j] := by simp [List.getD, hj]
    rw [e]; exact h _ (List.getElem_mem hj)
  · intro h x hx
    obtain ⟨j, hj, rfl⟩ := List.getElem_of_mem hx
    have := h j hj
    have e : l.getD j d = l[j] := by simp [List.getD, hj]
    rw [e] at this; exact this
theorem lowB_iff (c : UInt8) : lowB c = true ↔ 97 ≤ c.toNat ∧ c.toNat ≤ 122 := by simp [lowB]
theorem nameB_iff (c : UInt8) : nameB c = true ↔ (97 ≤ c.toNat ∧ c.toNat ≤ 122) ∨ (48 ≤ c.toNat ∧ c.toNat ≤ 57) ∨ c.toNat = 45 := by
  simp [nameB, lowB, digB, or_assoc]
theorem isName_iff (s : Str) : isName s = true ↔ 1 ≤ s.length ∧ s.length ≤ 24 ∧ (97 ≤ (s.getD 0 0).toNat ∧ (s.getD 0 0).toNat ≤ 122) ∧ ∀ j, 1 ≤ j → j < s.length → nameB (s.getD j 0) = true := by
  unfold isName
  simp only [Bool.and_eq_true, decide_eq_true_eq, lowB_iff, all_upto nameB 0]
  constructor
  · rintro ⟨⟨⟨h1, h2⟩, h3⟩, h4⟩
    refine ⟨h1, h2, h3, fun j hj hl => ?_⟩
    have := h4 (j - 1) (by simp; omega)
    have e : (s.drop 1).getD (j - 1) 0 = s.getD j 0 := by
      simp only [List.getD_eq_getElem?_getD, List.getElem?_drop]
      rw [show 1 + (j - 1) = j by omega]
    rwa [e] at this
  · rintro ⟨h1, h2, h3, h4⟩
    refine ⟨⟨⟨h1, h2⟩, h3⟩, fun j hj => ?_⟩
    have := h4 (j + 1) (by omega) (by simp at hj; omega)
    have e : (s.drop 1).getD j 0 = s.getD (j + 1) 0 := by
      simp only [List.getD_eq_getElem?_getD, List.getElem?_drop]
      rw [show 1 + j = j + 1 by omega]
    rwa [e]
def nameL (s : Str) : Str := s.takeWhile (fun c => c != 32)
theorem takeWhile_len {α : Type} (p : α → Bool) (d : α) : ∀ (l : List α), (∀ j, j < (l.takeWhile p).length → p (l.getD j d) = true) ∧ ((l.takeWhile p).length < l.length → p (l.getD (l.takeWhile p).length d) = false) ∧ (l.takeWhile p).length ≤ l.length ∧ l.take (l.takeWhile p).length = l.takeWhile p
  | [] => by simp
  | c :: l => by
    have ih := takeWhile_len p d l
    cases hc : p c with
    | true =>
      rw [List.takeWhile_cons, if_pos hc]
      refine ⟨fun j hj => ?_, fun hj => ?_, by simp; exact ih.2.2.1, by simp; exact ih.2.2.2⟩
      · cases j with
        | zero => exact hc
        | succ j => exact ih.1 j (by simpa using hj)
      · simp only [List.length_cons] at hj ⊢
        exact ih.2.1 (by omega)
    | false =>
      rw [List.takeWhile_cons, if_neg (by simp [hc])]
      exact ⟨fun j hj => by simp at hj, fun _ => hc, by simp, rfl⟩
theorem nameL_at {s : Str} {k : Nat} (h1 : ∀ j, j < k → (s.getD j 0).toNat ≠ 32) (h2 : k < s.length) (h3 : (s.getD k 0).toNat = 32) : nameL s = s.take k := by
  have ht := takeWhile_len (fun c : UInt8 => c != 32) 0 s
  have hk : (nameL s).length = k := by
    rcases Nat.lt_trichotomy (nameL s).length k with h | h | h
    · have h4 := ht.2.1 (by unfold nameL at h; omega)
      have h5 := h1 _ h
      exfalso
      apply h5
      have : s.getD (nameL s).length 0 = 32 := by simpa [nameL] using h4
      rw [this]; rfl
    · exact h
    · have h4 := ht.1 k h
      exfalso
      have h5 : s.getD k 0 = 32 := UInt8.toNat_inj.1 h3
      rw [h5] at h4; simp at h4
  rw [← hk]; exact ht.2.2.2.symm
theorem nameL_all {s : Str} (h1 : ∀ j, j < s.length → (s.getD j 0).toNat ≠ 32) : nameL s = s := by
  have ht := takeWhile_len (fun c : UInt8 => c != 32) 0 s
  have hk : (nameL s).length = s.length := by
    rcases Nat.lt_or_ge (nameL s).length s.length with h | h
    · have h4 := ht.2.1 h
      exfalso
      apply h1 _ h
      have : s.getD (nameL s).length 0 = 32 := by simpa [nameL] using h4
      rw [this]; rfl
    · have := ht.2.2.1; unfold nameL at *; omega
  have := ht.2.2.2
  unfold nameL at *
  rw [hk, List.take_of_length_le (Nat.le_refl _)] at this
  exact this.symm
def contB (c : UInt8) : Bool := decide (32 ≤ c.toNat) && decide (c.toNat ≤ 126) && !(decide (c.toNat = 60) || decide (c.toNat = 62) || decide (c.toNat = 123) || decide (c.toNat = 125))
def isContent (s : Str) : Bool := decide (s.length ≤ 64) && s.all contB && isName (nameL s) && (decide ((nameL s).length = s.length) || decide ((nameL s).length + 1 < s.length)) && decide ((s.getD (s.length - 1) 0).toNat ≠ 47)
theorem isContent_iff (s : Str) : isContent s = true ↔ s.length ≤ 64 ∧ (∀ j, j < s.length → contB (s.getD j 0) = true) ∧ isName (nameL s) = true ∧ ((nameL s).length = s.length ∨ (nameL s).length + 1 < s.length) ∧ (s.getD (s.length - 1) 0).toNat ≠ 47 := by
  unfold isContent
  simp only [Bool.and_eq_true, Bool.or_eq_true, decide_eq_true_eq, all_upto contB 0, and_assoc]
theorem isName_len {s : Str} (h : ¬ (1 ≤ s.length ∧ s.length ≤ 24 ∧ 97 ≤ (s.getD 0 0).toNat ∧ (s.getD 0 0).toNat ≤ 122)) : isName s = false := by
  rw [← Bool.not_eq_true]
  intro h2
  have h3 := (isName_iff s).1 h2
  exact h ⟨h3.1, h3.2.1, h3.2.2.1.1, h3.2.2.1.2⟩
theorem isName_bad {s : Str} {k : Nat} (hk : k < s.length) (h : ¬ ((97 ≤ (s.getD k 0).toNat ∧ (s.getD k 0).toNat ≤ 122) ∨ (1 ≤ k ∧ ((48 ≤ (s.getD k 0).toNat ∧ (s.getD k 0).toNat ≤ 57) ∨ (s.getD k 0).toNat = 45)))) : isName s = false := by
  rw [← Bool.not_eq_true]
  intro h2
  have h3 := (isName_iff s).1 h2
  by_cases h0 : k = 0
  · subst h0; exact h (.inl h3.2.2.1)
  · have h4 := (nameB_iff _).1 (h3.2.2.2 k (by omega) hk)
    apply h
    rcases h4 with h4 | h4 | h4
    · exact .inl h4
    · exact .inr ⟨by omega, .inl h4⟩
    · exact .inr ⟨by omega, .inr h4⟩
theorem upto0 {Q : Nat → Prop} {k : Nat} (h : ∀ j, j < k → Q j) (hk : Q k) : ∀ j, j < k + 1 → Q j := fun j hj => by
  rcases Nat.lt_or_ge j k with h1 | h1
  · exact h j h1
  · have : j = k := by omega
    subst this; exact hk
theorem upto1 {Q : Nat → Prop} {k : Nat} (h : ∀ j, 1 ≤ j → j < k → Q j) (hk : 1 ≤ k → Q k) : ∀ j, 1 ≤ j → j < k + 1 → Q j := fun j h0 hj => by
  rcases Nat.lt_or_ge j k with h1 | h1
  · exact h j h0 h1
  · have : j = k := by omega
    subst this; exact hk h0
theorem nameL_len (s : Str) : (nameL s).length ≤ s.length := (takeWhile_len (fun x : UInt8 => x != 32) 0 s).2.2.1
def widthL (x : Item) : Int := if x.kind = 1 then (x.text.length : Int) else 1
def sizeL (f : List Item) : Nat := (f.map (fun x => x.text.length)).sum
theorem sizeL_take (f : List Item) (k : Nat) : sizeL (f.take k) ≤ sizeL f := by
  have h : sizeL f = sizeL (f.take k) + sizeL (f.drop k) := by
    conv => lhs; rw [← List.take_append_drop k f]
    unfold sizeL
    rw [List.map_append, List.sum_append]
  omega
theorem sizeL_mem {x : Item} : ∀ {f : List Item}, x ∈ f → x.text.length ≤ sizeL f
  | y :: f, h => by
    have h2 : sizeL (y :: f) = y.text.length + sizeL f := by simp [sizeL]
    rw [h2]
    rcases List.mem_cons.1 h with rfl | h
    · omega
    · have := sizeL_mem h; omega
theorem sizeL_at (f : List Item) (k : Nat) : (f.getD k default).text.length ≤ sizeL f := by
  rcases Nat.lt_or_ge k f.length with h | h
  · have e : f.getD k default = f[k] := by simp [List.getD, h]
    rw [e]; exact sizeL_mem (List.getElem_mem h)
  · have e : f.getD k default = default := by simp [List.getD, List.getElem?_eq_none h]
    rw [e]; exact Nat.zero_le _
def Small (f : List Item) : Prop := f.length ≤ 100000 ∧ sizeL f ≤ 1000000
def isTag (x : Item) : Bool := decide (x.kind = 2) || decide (x.kind = 3) || decide (x.kind = 4)
theorem isTag_iff (x : Item) : isTag x = true ↔ (x.kind = 2 ∨ x.kind = 3) ∨ x.kind = 4 := by simp [isTag]
def clash (x y : Item) : Bool := isTag y && decide (y.id = x.id) && (decide (x.kind ≠ 3) || decide (y.kind ≠ 2) || decide (nameL y.text ≠ x.text))
def formed (b : List Item) (x : Item) : Bool :=
  if x.kind = 1 then decide (x.text ≠ []) && decide (x.id = 0) && (decide (b = []) || decide ((b.getD (b.length - 1) default).kind ≠ 1))
  else if x.kind = 5 then isName x.text && decide (x.id = 0)
  else if x.kind = 2 ∨ x.kind = 4 then isContent x.text && decide (1 ≤ x.id) && decide (x.id ≤ 999)
  else if x.kind = 3 then isName x.text && decide (1 ≤ x.id) && decide (x.id ≤ 999)
  else false
def checkL (b : List Item) (x : Item) : Int := if formed b x = true then (if isTag x && b.any (clash x) then 7 else 0) else 1
def valGo : List Item → List Item → Int
  | _, [] => 0
  | b, x :: r => if checkL b x = 0 then valGo (b ++ [x]) r else checkL b x
def normStep (out : List Item) (x : Item) : List Item :=
  if x.kind = 1 then
    if x.text = [] then out
    else if out ≠ [] ∧ (out.getD (out.length - 1) default).kind = 1 then out.set (out.length - 1) ⟨1, (out.getD (out.length - 1) default).text ++ x.text, 0⟩
    else out ++ [⟨1, x.text, 0⟩]
  else out ++ [x]
def normL (f : List Item) : List Item := f.foldl normStep []
def piece (x : Item) (at_ from_ to_ : Int) : List Item :=
  if max from_ at_ < min to_ (at_ + widthL x) then [if x.kind = 1 then ⟨x.kind, (x.text.drop (max from_ at_ - at_).toNat).take ((min to_ (at_ + widthL x) - at_).toNat - (max from_ at_ - at_).toNat), x.id⟩ else x] else []
theorem getD_take {α : Type} (f : List α) (d : α) (i j : Nat) (h : j < i) : (f.take i).getD j d = f.getD j d := by
  simp only [List.getD_eq_getElem?_getD, List.getElem?_take, if_pos h]
theorem formed_slot {b : List Item} {x : Item} (hk : x.kind = 5) : formed b x = true ↔ (isName x.text = true ∧ x.id = 0) := by
  unfold formed
  rw [if_neg (by omega), if_pos hk]
  simp
theorem formed_open {b : List Item} {x : Item} (hk : x.kind = 2 ∨ x.kind = 4) : formed b x = true ↔ ((isContent x.text = true ∧ 1 ≤ x.id) ∧ x.id ≤ 999) := by
  unfold formed
  rw [if_neg (by omega), if_neg (by omega), if_pos hk]
  simp
theorem formed_close {b : List Item} {x : Item} (hk : x.kind = 3) : formed b x = true ↔ ((isName x.text = true ∧ 1 ≤ x.id) ∧ x.id ≤ 999) := by
  unfold formed
  rw [if_neg (by omega), if_neg (by omega), if_neg (by omega), if_pos hk]
  simp
theorem clash_iff (x y : Item) : clash x y = true ↔ (isTag y = true ∧ y.id = x.id) ∧ ((¬ x.kind = 3 ∨ ¬ y.kind = 2) ∨ ¬ nameL y.text = x.text) := by
  unfold clash
  simp [or_assoc]
theorem any_yes {α : Type} {p : α → Bool} {d : α} {l : List α} (k : Nat) (hk : k < l.length) (h : p (l.getD k d) = true) : l.any p = true := by
  rw [List.any_eq_true]
  have e : l.getD k d = l[k] := by simp [List.getD, hk]
  rw [e] at h
  exact ⟨_, List.getElem_mem hk, h⟩
theorem any_no {α : Type} {p : α → Bool} {d : α} {l : List α} (h : ∀ j, j < l.length → p (l.getD j d) = false) : l.any p = false := by
  rw [List.any_eq_false]
  intro x hx
  obtain ⟨j, hj, rfl⟩ := List.getElem_of_mem hx
  have h2 := h j hj
  have e : l.getD j d = l[j] := by simp [List.getD, hj]
  rw [e] at h2
  simp [h2]
theorem drop_getD' {α : Type} (d : α) (l : List α) (k : Nat) (h : k < l.length) : l.drop k = l.getD k d :: l.drop (k + 1) := by
  rw [List.drop_eq_getElem_cons h]; simp [List.getD, h]
theorem check_ok {b : List Item} {x : Item} (h : formed b x = true) (h2 : ¬ (isTag x = true ∧ b.any (clash x) = true)) : checkL b x = 0 := by
  unfold checkL; rw [if_pos h, if_neg (by simpa using h2)]
theorem notag_of {x : Item} (h : x.kind = 1 ∨ x.kind = 5) : ¬ isTag x = true := by rw [isTag_iff]; omega
theorem formed_textb {b : List Item} {x : Item} (hk : x.kind = 1) : formed b x = true ↔ ((¬ x.text = [] ∧ x.id = 0) ∧ (b = [] ∨ ¬ (b.getD (b.length - 1) default).kind = 1)) := by
  unfold formed
  rw [if_pos hk]
  simp only [Bool.and_eq_true, Bool.or_eq_true, decide_eq_true_eq, ne_eq]
theorem chk_notag {b : List Item} {x : Item} (hk : x.kind = 1 ∨ x.kind = 5) (h : formed b x = true) : checkL b x = 0 := check_ok h (fun h2 => notag_of hk h2.1)
theorem normL_snoc (l : List Item) (x : Item) : normL (l ++ [x]) = normStep (normL l) x := by unfold normL; rw [List.foldl_append]; rfl
theorem normL_succ (f : List Item) (k : Nat) (h : k < f.length) : normL (f.take (k + 1)) = normStep (normL (f.take k)) (f.getD k default) := by rw [take_succD f k h, normL_snoc]
theorem norm_other {o : List Item} {x : Item} (h : ¬ x.kind = 1) : normStep o x = o ++ [x] := by unfold normStep; rw [if_neg h]
theorem norm_empty {o : List Item} {x : Item} (h : x.kind = 1) (h2 : x.text = []) : normStep o x = o := by unfold normStep; rw [if_pos h, if_pos h2]
theorem norm_join {o : List Item} {x : Item} (h : x.kind = 1) (h2 : ¬ x.text = []) (h3 : (0 : Int) < (o.length : Nat) ∧ (o.getD (o.length - 1) default).kind = 1) :
    normStep o x = o.set (o.length - 1) ⟨1, (o.getD (o.length - 1) default).text ++ x.text, 0⟩ := by
  unfold normStep
  have : o ≠ [] := by intro e; subst e; simp at h3
  rw [if_pos h, if_neg h2, if_pos ⟨this, h3.2⟩]
theorem norm_add {o : List Item} {x : Item} (h : x.kind = 1) (h2 : ¬ x.text = []) (h3 : ¬ ((0 : Int) < (o.length : Nat) ∧ (o.getD (o.length - 1) default).kind = 1)) : normStep o x = o ++ [⟨1, x.text, 0⟩] := by
  unfold normStep
  rw [if_pos h, if_neg h2, if_neg (fun h4 => h3 ⟨by have := List.length_pos_iff.2 h4.1; omega, h4.2⟩)]
theorem getD_snoc {α : Type} (l : List α) (x d : α) : (l ++ [x]).getD l.length d = x := by simp [List.getD]
theorem set_snoc {α : Type} (l : List α) (x y : α) : (l ++ [x]).set l.length y = l ++ [y] := by simp
theorem norm_snoc_text {o : List Item} {y x : Item} (hy : y.kind = 1) (h : x.kind = 1) (h2 : ¬ x.text = []) : normStep (o ++ [y]) x = o ++ [⟨1, y.text ++ x.text, 0⟩] := by
  have hl : (o ++ [y]).length - 1 = o.length := by simp
  rw [norm_join h h2 (by rw [hl, getD_snoc]; exact ⟨by simp, hy⟩), hl, getD_snoc, set_snoc]
theorem snoc_cases {α : Type} {Q : List α → Prop} (h0 : Q []) (h1 : ∀ l x, Q l → Q (l ++ [x])) : ∀ (m : Nat) (l : List α), l.length = m → Q l
  | 0, l, h => by have := List.eq_nil_of_length_eq_zero h; subst this; exact h0
  | m + 1, l, h => by
    have hne : l ≠ [] := by intro e; subst e; simp at h
    rw [← List.dropLast_concat_getLast hne]
    exact h1 _ _ (snoc_cases h0 h1 m _ (by simp; omega))
theorem norm_ind {Q : List Item → List Item → Prop} (h0 : Q [] []) (h1 : ∀ l x, Q l (normL l) → Q (l ++ [x]) (normStep (normL l) x)) (f : List Item) : Q f (normL f) := by
  refine snoc_cases (Q := fun f => Q f (normL f)) h0 (fun l x ih => ?_) _ f rfl
  rw [normL_snoc]; exact h1 l x ih
theorem norm_cases (o : List Item) (x : Item) : (x.kind = 1 ∧ x.text = [] ∧ normStep o x = o) ∨ (x.kind = 1 ∧ normStep o x = o ++ [⟨1, x.text, 0⟩]) ∨ (¬ x.kind = 1 ∧ normStep o x = o ++ [x]) ∨
    (x.kind = 1 ∧ ∃ m q, o = m ++ [q] ∧ q.kind = 1 ∧ normStep o x = m ++ [⟨1, q.text ++ x.text, 0⟩]) := by
  by_cases hk : x.kind = 1
  · by_cases hx : x.text = []
    · exact .inl ⟨hk, hx, norm_empty hk hx⟩
    · by_cases h3 : (0 : Int) < (o.length : Nat) ∧ (o.getD (o.length - 1) default).kind = 1
      · have hz : o ≠ [] := by intro e; subst e; simp at h3
        obtain ⟨m, q, rfl⟩ : ∃ m q, o = m ++ [q] := ⟨o.dropLast, o.getLast hz, (List.dropLast_concat_getLast hz).symm⟩
        have hl : (m ++ [q]).length - 1 = m.length := by simp
        rw [hl, getD_snoc] at h3
        exact .inr (.inr (.inr ⟨hk, m, q, rfl, h3.2, norm_snoc_text h3.2 hk hx⟩))
      · exact .inr (.inl ⟨hk, norm_add hk hx h3⟩)
  · exact .inr (.inr (.inl ⟨hk, norm_other hk⟩))
theorem sizeL_append (f g : List Item) : sizeL (f ++ g) = sizeL f + sizeL g := by simp [sizeL]
theorem sizeL_one (x : Item) : sizeL [x] = x.text.length := by simp [sizeL]
theorem normL_len (f : List Item) : (normL f).length ≤ f.length := by
  refine norm_ind (Q := fun f n => n.length ≤ f.length) (by simp) (fun l x ih => ?_) f
  rcases norm_cases (normL l) x with ⟨_, _, e⟩ | ⟨_, e⟩ | ⟨_, e⟩ | ⟨_, m, q, e0, _, e⟩
  · rw [e]; simp; omega
  · rw [e]; simp; omega
  · rw [e]; simp; omega
  · rw [e]; rw [e0] at ih; simp at ih ⊢; omega
theorem normL_size (f : List Item) : sizeL (normL f) ≤ sizeL f := by
  refine norm_ind (Q := fun f n => sizeL n ≤ sizeL f) (by simp [sizeL]) (fun l x ih => ?_) f
  rw [sizeL_append, sizeL_one]
  rcases norm_cases (normL l) x with ⟨_, _, e⟩ | ⟨_, e⟩ | ⟨_, e⟩ | ⟨_, m, q, e0, _, e⟩
  · rw [e]; omega
  · rw [e, sizeL_append, sizeL_one]; dsimp only; omega
  · rw [e, sizeL_append, sizeL_one]; omega
  · rw [e, sizeL_append, sizeL_one]; rw [e0, sizeL_append, sizeL_one] at ih; dsimp only; rw [List.length_append]; omega
def lastNT (o : List Item) : Prop := ¬ ((0 : Int) < (o.length : Nat) ∧ (o.getD (o.length - 1) default).kind = 1)
end Go.Vc
namespace Go.Vc
open Go
def firstM (fr to_ : List Int) (n : Int) : Option Int := getM (fr.zip to_) n
theorem firstM_at {fr to_ : List Int} {k : Nat} (h1 : k < fr.length) (h2 : k < to_.length) (n : Int) : firstM (fr.drop k) (to_.drop k) n = if fr.getD k default = n then some (to_.getD k default) else firstM (fr.drop (k + 1)) (to_.drop (k + 1)) n := by
  unfold firstM
  rw [drop_getD' default fr k h1, drop_getD' default to_ k h2, List.zip_cons_cons, getM_cons]
def ren1 (fr to_ : List Int) (x : Item) : List Item := if isTag x = true then (match firstM fr to_ x.id with | some n => [⟨x.kind, x.text, n⟩] | none => []) else [x]
def renF (fr to_ : List Int) (f : List Item) : List Item := f.flatMap (ren1 fr to_)
theorem ren1_bd (fr to_ : List Int) (x : Item) : (ren1 fr to_ x).length ≤ 1 ∧ sizeL (ren1 fr to_ x) ≤ x.text.length := by
  unfold ren1
  split
  · split
    · simp [sizeL]
    · simp [sizeL]
  · simp [sizeL]
theorem renF_bd (fr to_ : List Int) : ∀ (f : List Item), (renF fr to_ f).length ≤ f.length ∧ sizeL (renF fr to_ f) ≤ sizeL f
  | [] => by simp [renF]
  | x :: f => by
    have ih := renF_bd fr to_ f
    have h1 : renF fr to_ (x :: f) = ren1 fr to_ x ++ renF fr to_ f := by simp [renF]
    have h2 : sizeL (x :: f) = x.text.length + sizeL f := by simp [sizeL]
    have h3 := ren1_bd fr to_ x
    rw [h1, h2, List.length_append, sizeL_append, List.length_cons]
    omega
theorem small_ren {fr to_ : List Int} {f : List Item} (h : Small f) : Small (renF fr to_ f) := ⟨by have := renF_bd fr to_ f; have := h.1; omega, by have := renF_bd fr to_ f; have := h.2; omega⟩
end Go.Vc
namespace Go.Vc
open Go
theorem valGo_snoc : ∀ (f b : List Item) (x : Item), valGo b (f ++ [x]) = 0 ↔ valGo b f = 0 ∧ checkL (b ++ f) x = 0
  | [], b, x => by
    rw [List.nil_append, List.append_nil]
    have e : valGo b [x] = if checkL b x = 0 then valGo (b ++ [x]) [] else checkL b x := by
      conv => lhs; unfold valGo
    have e0 : ∀ c : List Item, valGo c [] = 0 := fun c => by rw [valGo]
    rw [e, e0, e0]
    by_cases h : checkL b x = 0
    · rw [if_pos h]; simp [h]
    · rw [if_neg h]; simp [h]
  | y :: f, b, x => by
    rw [List.cons_append, valGo, valGo]
    by_cases h : checkL b y = 0
    · rw [if_pos h, if_pos h, valGo_snoc f (b ++ [y]) x, List.append_assoc]; rfl
    · rw [if_neg h, if_neg h]
      exact ⟨fun h2 => absurd h2 h, fun h2 => absurd h2.1 h⟩
theorem val_snoc (f : List Item) (x : Item) : valGo [] (f ++ [x]) = 0 ↔ valGo [] f = 0 ∧ checkL f x = 0 := valGo_snoc f [] x
theorem checkL_form {b : List Item} {x : Item} (h : checkL b x = 0) : formed b x = true := by
  unfold checkL at h
  split at h
  · rename_i h1; exact h1
  · cases h
theorem lastNT_of {b : List Item} (h : b = [] ∨ ¬ (b.getD (b.length - 1) default).kind = 1) : lastNT b := by
  unfold lastNT
  rintro ⟨h1, h2⟩
  rcases h with h | h
  · subst h; simp at h1
  · exact h h2
theorem lastNT_to {b : List Item} (h : lastNT b) : b = [] ∨ ¬ (b.getD (b.length - 1) default).kind = 1 := by
  by_cases hb : b = []
  · exact .inl hb
  · refine .inr fun h2 => h ⟨?_, h2⟩
    have := List.length_pos_iff.2 hb
    omega
theorem chk_text {b : List Item} {t : Str} (h0 : ¬ t = []) (h : lastNT b) : checkL b ⟨1, t, 0⟩ = 0 := chk_notag (.inl rfl) ((formed_textb rfl).2 ⟨⟨h0, rfl⟩, lastNT_to h⟩)
theorem val_norm (f : List Item) : valGo [] f = 0 → normL f = f := by
  refine snoc_cases (Q := fun f => valGo [] f = 0 → normL f = f) (fun _ => rfl) (fun l x ih h => ?_) _ f rfl
  obtain ⟨h1, h2⟩ := (val_snoc l x).1 h
  rw [normL_snoc, ih h1]
  by_cases hk : x.kind = 1
  · have h3 := (formed_textb hk).1 (checkL_form h2)
    rw [norm_add hk h3.1.1 (lastNT_of h3.2)]
    obtain ⟨k, t, i⟩ := x
    obtain rfl : k = 1 := hk
    obtain rfl : i = 0 := h3.1.2
    rfl
  · rw [norm_other hk]
structure FI (f op : List Item) (id : Int) : Prop where
  pos : 0 ≤ id
  val : valGo [] f = 0
  ids : ∀ y ∈ f, isTag y = true → y.id ≤ (id : Int)
  opn : ∀ o ∈ op, o.kind = 2 ∧ isName (nameL o.text) = true ∧ 1 ≤ o.id ∧ o.id ≤ (id : Int) ∧ ∀ y ∈ f, isTag y = true → y.id = o.id → y.kind = 2 ∧ nameL y.text = nameL o.text
  dis : op.Pairwise (fun a b => a.id ≠ b.id)
theorem FI.nil : FI [] [] 0 := ⟨by decide, rfl, by simp, by simp, List.Pairwise.nil⟩
theorem FI.norm {f op : List Item} {id : Int} (h : FI f op id) (x : Item) : normL (f ++ [x]) = normStep f x := by rw [normL_snoc, val_norm f h.val]
theorem FI.same {f g op : List Item} {id : Int} (h : FI f op id) (hv : valGo [] g = 0) (hm : ∀ y ∈ g, isTag y = true → y ∈ f) : FI g op id :=
  ⟨h.pos, hv, fun y hy ht => h.ids y (hm y hy ht) ht, fun o ho => by
    obtain ⟨h1, h2, h3, h4, h5⟩ := h.opn o ho
    exact ⟨h1, h2, h3, h4, fun y hy ht => h5 y (hm y hy ht) ht⟩, h.dis⟩
theorem notag1 (t : Str) (i : Int) : ¬ isTag (⟨1, t, i⟩ : Item) = true := by rw [isTag_iff]; simp
theorem FI.text {f op : List Item} {id : Int} (h : FI f op id) (t : Str) : FI (normStep f ⟨1, t, 0⟩) op id := by
  by_cases ht : t = []
  · rw [norm_empty rfl ht]; exact h
  · by_cases h3 : lastNT f
    · rw [norm_add (x := ⟨1, t, 0⟩) rfl ht h3]
      refine h.same ((val_snoc _ _).2 ⟨h.val, chk_text ht h3⟩) (fun y hy hy2 => ?_)
      rcases List.mem_append.1 hy with h4 | h4
      · exact h4
      · simp at h4; subst h4; exact absurd hy2 (notag1 _ _)
    · have h3' : (0 : Int) < (f.length : Nat) ∧ (f.getD (f.length - 1) default).kind = 1 := Decidable.byContradiction h3
      have hz : f ≠ [] := by intro e; subst e; simp at h3'
      obtain ⟨m, q, rfl⟩ : ∃ m q, f = m ++ [q] := ⟨f.dropLast, f.getLast hz, (List.dropLast_concat_getLast hz).symm⟩
      have hl : (m ++ [q]).length - 1 = m.length := by simp
      rw [hl, getD_snoc] at h3'
      rw [norm_snoc_text (x := ⟨1, t, 0⟩) h3'.2 rfl ht]
      obtain ⟨h1, h2⟩ := (val_snoc m q).1 h.val
      have h5 := (formed_textb h3'.2).1 (checkL_form h2)
      refine h.same ((val_snoc _ _).2 ⟨h1, chk_text (by simp [ht]) (lastNT_of h5.2)⟩) (fun y hy hy2 => ?_)
      rcases List.mem_append.1 hy with h4 | h4
      · exact List.mem_append_left _ h4
      · simp at h4; subst h4; exact absurd hy2 (notag1 _ _)
theorem FI.slot {f op : List Item} {id : Int} (h : FI f op id) {t : Str} (ht : isName t = true) : FI (normStep f ⟨5, t, 0⟩) op id := by
  rw [norm_other (by simp)]
  refine h.same ((val_snoc _ _).2 ⟨h.val, chk_notag (.inr rfl) ((formed_slot rfl).2 ⟨ht, rfl⟩)⟩) (fun y hy hy2 => ?_)
  rcases List.mem_append.1 hy with h4 | h4
  · exact h4
  · simp at h4; subst h4; exact absurd hy2 (notag_of (.inr rfl))
theorem FI.new {f op : List Item} {id : Int} (h : FI f op id) {x : Item} (hk : x.kind ≠ 1) (hid : x.id = (id : Int) + 1) (hf : formed f x = true) : FI (normStep f x) op (id + 1) := by
  rw [norm_other hk]
  have hnc : f.any (clash x) = false := by
    rw [List.any_eq_false]
    intro y hy hc
    have h1 := (clash_iff x y).1 hc
    have := h.ids y hy h1.1.1
    omega
  have hp := h.pos
  refine ⟨by omega, (val_snoc _ _).2 ⟨h.val, check_ok hf (fun h2 => by rw [hnc] at h2; simp at h2)⟩, fun y hy ht => ?_, fun o ho => ?_, h.dis⟩
  · rcases List.mem_append.1 hy with h4 | h4
    · have := h.ids y h4 ht; omega
    · simp at h4; subst h4; omega
  · obtain ⟨h1, h2, h3, h4, h5⟩ := h.opn o ho
    refine ⟨h1, h2, h3, by omega, fun y hy ht hyo => ?_⟩
    rcases List.mem_append.1 hy with h6 | h6
    · exact h5 y h6 ht hyo
    · simp at h6; subst h6; omega
theorem content_name {s : Str} (h : isContent s = true) : isName (nameL s) = true := ((isContent_iff s).1 h).2.2.1
theorem FI.empty {f op : List Item} {id : Int} (h : FI f op id) {t : Str} (ht : isContent t = true) (hid : id + 1 ≤ 999) : FI (normStep f ⟨4, t, (id : Int) + 1⟩) op (id + 1) :=
  h.new (by simp) rfl ((formed_open (.inr rfl)).2 ⟨⟨ht, by have := h.pos; simp; omega⟩, by simp; omega⟩)
theorem FI.open_ {f op : List Item} {id : Int} (h : FI f op id) {t : Str} (ht : isContent t = true) (hid : id + 1 ≤ 999) : FI (normStep f ⟨2, t, (id : Int) + 1⟩) (op ++ [⟨2, t, (id : Int) + 1⟩]) (id + 1) := by
  have h1 := h.new (x := ⟨2, t, (id : Int) + 1⟩) (by simp) rfl ((formed_open (.inl rfl)).2 ⟨⟨ht, by have := h.pos; simp; omega⟩, by simp; omega⟩)
  have hp := h.pos
  refine ⟨h1.pos, h1.val, h1.ids, fun o ho => ?_, List.pairwise_append.2 ⟨h.dis, List.pairwise_singleton _ _, fun a ha b hb => ?_⟩⟩
  · rcases List.mem_append.1 ho with h2 | h2
    · exact h1.opn o h2
    · simp at h2; subst h2
      refine ⟨rfl, content_name ht, (by first | (simp; done) | (simp; omega)), (by first | (simp; done) | (simp; omega)), fun y hy hyt hyo => ?_⟩
      rw [norm_other (by simp)] at hy
      rcases List.mem_append.1 hy with h6 | h6
      · have := h.ids y h6 hyt
        simp only at hyo
        omega
      · simp at h6; subst h6; exact ⟨rfl, rfl⟩
  · simp at hb; subst hb
    have := (h.opn a ha).2.2.2.1
    simp only
    omega
theorem FI.closeNew {f op : List Item} {id : Int} (h : FI f op id) {t : Str} (ht : isName t = true) (hid : id + 1 ≤ 999) : FI (normStep f ⟨3, t, (id : Int) + 1⟩) op (id + 1) :=
  h.new (by simp) rfl ((formed_close rfl).2 ⟨⟨ht, by have := h.pos; simp; omega⟩, by simp; omega⟩)
theorem FI.close {f op : List Item} {id : Int} (h : FI f op id) {k : Nat} (hk : k < op.length) (hid : id ≤ 999) : FI (normStep f ⟨3, nameL (op.getD k default).text, (op.getD k default).id⟩) (op.take k ++ op.drop (k + 1)) id := by
  have e : op.getD k default = op[k] := by simp [List.getD, hk]
  rw [e, norm_other (by simp)]
  have hm : op[k] ∈ op := List.getElem_mem hk
  obtain ⟨h1, h2, h3, h4, h5⟩ := h.opn _ hm
  have hsp : op = op.take k ++ op[k] :: op.drop (k + 1) := by rw [← List.drop_eq_getElem_cons hk, List.take_append_drop]
  have hd := h.dis
  rw [hsp, List.pairwise_append, List.pairwise_cons] at hd
  have hnc : f.any (clash ⟨3, nameL op[k].text, op[k].id⟩) = false := by
    rw [List.any_eq_false]
    intro y hy hc
    have h6 := (clash_iff _ y).1 hc
    have h7 := h5 y hy h6.1.1 h6.1.2
    rcases h6.2 with (h8 | h8) | h8
    · exact h8 rfl
    · exact h8 h7.1
    · exact h8 h7.2
  have hsub : ∀ o ∈ op.take k ++ op.drop (k + 1), o ∈ op ∧ o.id ≠ op[k].id := fun o ho => by
    rcases List.mem_append.1 ho with h6 | h6
    · exact ⟨List.mem_of_mem_take h6, hd.2.2 o h6 _ (List.mem_cons_self ..)⟩
    · exact ⟨List.mem_of_mem_drop h6, fun e2 => hd.2.1.1 o h6 e2.symm⟩
  refine ⟨h.pos, (val_snoc _ _).2 ⟨h.val, check_ok ((formed_close rfl).2 ⟨⟨h2, h3⟩, by simp only; omega⟩) (fun h6 => by rw [hnc] at h6; simp at h6)⟩, fun y hy ht => ?_, fun o ho => ?_, ?_⟩
  · rcases List.mem_append.1 hy with h6 | h6
    · exact h.ids y h6 ht
    · simp at h6; subst h6; exact h4
  · obtain ⟨ho1, ho2⟩ := hsub o ho
    obtain ⟨g1, g2, g3, g4, g5⟩ := h.opn o ho1
    refine ⟨g1, g2, g3, g4, fun y hy ht hyo => ?_⟩
    rcases List.mem_append.1 hy with h6 | h6
    · exact g5 y h6 ht hyo
    · simp at h6; subst h6; exact absurd hyo.symm ho2
  · rw [List.pairwise_append]
    exact ⟨hd.1, hd.2.1.2, fun a ha b hb => hd.2.2 a ha b (List.mem_cons_of_mem _ hb)⟩
def slotW : List Str := [[110], [110, 97, 109, 101], [120, 49]]
def emptyW : List Str := [[98, 114], [105, 109, 103, 32, 97]]
def openW : List Str := [[98], [105], [97, 32, 104, 61, 49]]
theorem slotW_ok : ∀ j, j < 3 → isName (slotW.getD j default) = true ∧ (slotW.getD j default).length ≤ 5 := by decide
theorem emptyW_ok : ∀ j, j < 2 → isContent (emptyW.getD j default) = true ∧ (emptyW.getD j default).length ≤ 5 := by decide
theorem openW_ok : ∀ j, j < 3 → isContent (openW.getD j default) = true ∧ (openW.getD j default).length ≤ 5 := by decide
theorem text5 {op : List Item} (h : ∀ o ∈ op, o.text.length ≤ 5) (k : Nat) : (op.getD k default).text.length ≤ 5 := by
  rcases Nat.lt_or_ge k op.length with h1 | h1
  · have e : op.getD k default = op[k] := by simp [List.getD, h1]
    rw [e]; exact h _ (List.getElem_mem h1)
  · have e : op.getD k default = default := by simp [List.getD, List.getElem?_eq_none h1]
    rw [e]; exact Nat.zero_le _
theorem FI.closeLast {f op : List Item} {id : Int} {j : Nat} (h0 : 0 < j) (hj : j ≤ op.length) (h : FI f (op.take j) id) (hid : id ≤ 999) :
    FI (f ++ [⟨3, nameL (op.getD (j - 1) default).text, (op.getD (j - 1) default).id⟩]) (op.take (j - 1)) id := by
  have h1 := h.close (k := j - 1) (by rw [List.length_take]; omega) hid
  have e1 : (op.take j).getD (j - 1) default = op.getD (j - 1) default := getD_take op default j (j - 1) (by omega)
  have e2 : (op.take j).take (j - 1) = op.take (j - 1) := by rw [List.take_take]; congr 1; omega
  have e3 : (op.take j).drop (j - 1 + 1) = [] := List.drop_eq_nil_of_le (by rw [List.length_take]; omega)
  rw [e1, e2, e3, List.append_nil, norm_other (by simp)] at h1
  exact h1
def shapeStep (o : Option (List Int × List Int)) (x : Item) : Option (List Int × List Int) :=
  match o with
  | none => none
  | some (c, s) =>
    if x.kind = 2 then some (c, s ++ [x.id])
    else if x.kind = 3 then (if s.length = 0 then some (c ++ [x.id], s) else if s.getD (s.length - 1) default = x.id then some (c, s.take (s.length - 1)) else none)
    else some (c, s)
def shapeL (f : List Item) : Option (List Int × List Int) := f.foldl shapeStep (some ([], []))
theorem shape_snoc (f : List Item) (x : Item) : shapeL (f ++ [x]) = shapeStep (shapeL f) x := by unfold shapeL; rw [List.foldl_append]; rfl
theorem shape_other {o : Option (List Int × List Int)} {x : Item} (h2 : ¬ x.kind = 2) (h3 : ¬ x.kind = 3) : shapeStep o x = o := by
  unfold shapeStep
  cases o with
  | none => rfl
  | some p => obtain ⟨c, s⟩ := p; simp only [if_neg h2, if_neg h3]
theorem shape_open {o : Option (List Int × List Int)} {c s : List Int} {x : Item} (ho : o = some (c, s)) (h : x.kind = 2) : shapeStep o x = some (c, s ++ [x.id]) := by
  subst ho; unfold shapeStep; simp only [if_pos h]
theorem shape_match {o : Option (List Int × List Int)} {c s : List Int} {x : Item} (ho : o = some (c, s)) (h : x.kind = 3) (hs : ¬ s.length = 0) (he : s.getD (s.length - 1) default = x.id) : shapeStep o x = some (c, s.take (s.length - 1)) := by
  subst ho; unfold shapeStep; simp only [if_neg (show ¬ x.kind = 2 by omega), if_pos h, if_neg hs, if_pos he]
theorem shape_normStep (f : List Item) (x : Item) : shapeL (normStep f x) = shapeStep (shapeL f) x := by
  rcases norm_cases f x with ⟨h1, h2, e⟩ | ⟨h1, e⟩ | ⟨h1, e⟩ | ⟨h1, m, q, e0, hq, e⟩
  · rw [e, shape_other (by omega) (by omega)]
  · rw [e, shape_snoc, shape_other (by simp) (by simp), shape_other (by omega) (by omega)]
  · rw [e, shape_snoc]
  · rw [e, shape_snoc, shape_other (by simp) (by simp), shape_other (x := x) (by omega) (by omega), e0, shape_snoc, shape_other (by omega) (by omega)]
def NS (nb : Bool) (f op : List Item) : Prop := nb = true → shapeL f = some ([], op.map (fun o => o.id))
theorem NS.nil (nb : Bool) : NS nb [] [] := fun _ => rfl
theorem NS.other {nb : Bool} {f op : List Item} (h : NS nb f op) {x : Item} (h2 : ¬ x.kind = 2) (h3 : ¬ x.kind = 3) : NS nb (normStep f x) op := fun hn => by rw [shape_normStep, shape_other h2 h3, h hn]
theorem NS.otherB {nb : Bool} {f op : List Item} (h : NS nb f op) {x : Item} (h2 : (x.kind == 2) = false) (h3 : (x.kind == 3) = false) : NS nb (normStep f x) op := h.other (by simpa using h2) (by simpa using h3)
theorem NS.open_ {nb : Bool} {f op : List Item} (h : NS nb f op) (t : Str) (i : Int) : NS nb (normStep f ⟨2, t, i⟩) (op ++ [⟨2, t, i⟩]) := fun hn => by
  rw [shape_normStep, shape_open (h hn) rfl]; simp
theorem NS.closeNew {nb : Bool} {f op : List Item} (hn : ¬ nb = true) : NS nb f op := fun h => absurd h hn
theorem NS.close {nb : Bool} {f op : List Item} (h : NS nb f op) {k : Nat} (hk : k < op.length) (hl : nb = true → k = op.length - 1) (t : Str) : NS nb (normStep f ⟨3, t, (op.getD k default).id⟩) (op.take k ++ op.drop (k + 1)) := fun hn => by
  have e := hl hn
  have e2 : (op.map (fun o => o.id)).getD ((op.map (fun o => o.id)).length - 1) default = (op.getD k default).id := by
    rw [List.length_map, ← e]; simp [List.getD, hk]
  rw [shape_normStep, shape_match (x := ⟨3, t, (op.getD k default).id⟩) (h hn) rfl (by simp; intro e3; subst e3; simp at hk) e2, List.drop_eq_nil_of_le (by omega), List.append_nil, List.length_map, ← e, List.map_take]
theorem NS.closeLast {nb : Bool} {f op : List Item} {j : Nat} (h0 : 0 < j) (hj : j ≤ op.length) (h : NS nb f (op.take j)) (t : Str) : NS nb (f ++ [⟨3, t, (op.getD (j - 1) default).id⟩]) (op.take (j - 1)) := by
  have h1 := h.close (k := j - 1) (by rw [List.length_take]; omega) (fun _ => by rw [List.length_take]; omega) t
  have e1 : (op.take j).getD (j - 1) default = op.getD (j - 1) default := getD_take op default j (j - 1) (by omega)
  have e2 : (op.take j).take (j - 1) = op.take (j - 1) := by rw [List.take_take]; congr 1; omega
  have e3 : (op.take j).drop (j - 1 + 1) = [] := List.drop_eq_nil_of_le (by rw [List.length_take]; omega)
  rw [e1, e2, e3, List.append_nil, norm_other (by simp)] at h1
  exact h1
theorem NS.done {nb : Bool} {f op : List Item} {j : Nat} (h : NS nb f (op.take j)) (h0 : ¬ ((0 : Int) ≤ (j : Int) - 1 ∧ nb = true)) (hn : nb = true) : shapeL f = some ([], []) := by
  have e : j = 0 := by
    rcases Nat.eq_zero_or_pos j with h1 | h1
    · exact h1
    · exact absurd ⟨by omega, hn⟩ h0
  subst e
  exact h hn
end Go.Vc
namespace Go.Vc
open Go
def hd1 : List Item → Prop
  | [] => False
  | y :: _ => y.kind = 1
def NA : List Item → Prop
  | [] => True
  | x :: l => ¬ (x.kind = 1 ∧ hd1 l) ∧ NA l
def QQ (y x : Item) : Prop := isTag x = true → clash x y = false
structure VF (f : List Item) : Prop where
  each : ∀ x ∈ f, formed [] x = true
  na : NA f
  qq : f.Pairwise QQ
def Eqv (A B : List Item) : Prop := ∀ o : List Item, A.foldl normStep o = B.foldl normStep o
theorem Eqv.refl (A : List Item) : Eqv A A := fun _ => rfl
theorem Eqv.symm {A B : List Item} (h : Eqv A B) : Eqv B A := fun o => (h o).symm
theorem Eqv.trans {A B C : List Item} (h : Eqv A B) (h2 : Eqv B C) : Eqv A C := fun o => (h o).trans (h2 o)
theorem Eqv.append {A B A' B' : List Item} (h : Eqv A A') (h2 : Eqv B B') : Eqv (A ++ B) (A' ++ B') := fun o => by rw [List.foldl_append, List.foldl_append, h, h2]
theorem Eqv.norm {A B : List Item} (h : Eqv A B) : normL A = normL B := h []
def one (c : UInt8) : Item := ⟨1, [c], 0⟩
end Go.Vc
namespace Go.Vc
open Go
structure InjT (r : Int → Int) (f : List Item) : Prop where
  inj : ∀ x ∈ f, ∀ y ∈ f, isTag x = true → isTag y = true → r x.id = r y.id → x.id = y.id
theorem InjT.left {r : Int → Int} {f g : List Item} (h : InjT r (f ++ g)) : InjT r f := ⟨fun x hx y hy => h.inj x (by simp [hx]) y (by simp [hy])⟩
end Go.Vc
namespace Go.Vc
open Go
structure PairOk (b : List Item) (p : List Int × List Int) (k : Nat) : Prop where
  len : p.1.length = p.2.length
  le : p.1.length ≤ k
  nd : p.2.Nodup
end Go.Vc
namespace Go.Vc
open Go
def sortS (l : List Str) : List Str := l.mergeSort (fun x y => decide (x ≤ y))
theorem sortS_len (l : List Str) : (sortS l).length = l.length := by unfold sortS; simp
end Go.Vc
namespace Go.Vc
open Go
def lwB (c : UInt8) : UInt8 := if 65 ≤ c.toNat ∧ c.toNat ≤ 90 then c + 32 else c
def lowS (s : Str) : Str := s.map lwB
theorem lwB_no {c : UInt8} (h : ¬ (65 ≤ c.toNat ∧ c.toNat ≤ 90)) : lwB c = c := by unfold lwB; rw [if_neg h]
theorem lwB_nat {c : UInt8} (h : 65 ≤ c.toNat ∧ c.toNat ≤ 90) : (lwB c).toNat = c.toNat + 32 := by
  unfold lwB; rw [if_pos h, UInt8.toNat_add]
  have h3 : (32 : UInt8).toNat = 32 := rfl
  omega
theorem wrap8 {n : Int} (h1 : 0 ≤ n) (h2 : n ≤ 255) : IntKind.wrap .u8 n = n := by simp [IntKind.wrap, IntKind.bits, IntKind.signed]; omega
theorem low_add {c : UInt8} (h1 : 65 ≤ c.toNat) (h2 : c.toNat ≤ 90) : IntKind.wrap .u8 (IntKind.wrap .u8 (((c.toNat : Nat) : Int) + 97) - 65) = (((lwB c).toNat : Nat) : Int) := by
  rw [wrap8 (n := (((c.toNat : Nat) : Int) + 97)) (by omega) (by omega), wrap8 (by omega) (by omega), lwB_nat ⟨h1, h2⟩]; omega
theorem low_add2 {c : UInt8} (h1 : 65 ≤ c.toNat) (h2 : c.toNat ≤ 90) : IntKind.wrap .u8 (((c.toNat : Nat) : Int) + 32) = (((lwB c).toNat : Nat) : Int) := by
  rw [wrap8 (by omega) (by omega), lwB_nat ⟨h1, h2⟩]; omega
def lowK (s : Str) (k : Nat) : Str := lowS (s.take k) ++ s.drop k
@[simp] theorem lowK_len (s : Str) (k : Nat) : (lowK s k).length = s.length := by simp [lowK, lowS]; omega
theorem lowK_zero (s : Str) : lowK s 0 = s := by simp [lowK, lowS]
theorem lowK_all {s : Str} {k : Nat} (h : s.length ≤ k) : lowK s k = lowS s := by unfold lowK; rw [List.take_of_length_le h, List.drop_eq_nil_of_le h, List.append_nil]
theorem lowK_split {s : Str} {k : Nat} (h : k < s.length) : lowK s k = lowS (s.take k) ++ s.getD k 0 :: s.drop (k + 1) := by
  unfold lowK; rw [List.drop_eq_getElem_cons h]; simp [List.getD, h]
theorem lowK_next {s : Str} {k : Nat} (h : k < s.length) : lowK s (k + 1) = lowS (s.take k) ++ lwB (s.getD k 0) :: s.drop (k + 1) := by
  have e : s.getD k 0 = s[k] := by simp [List.getD, h]
  unfold lowK lowS; rw [List.take_succ_eq_append_getElem h, List.map_append, List.append_assoc, e]; rfl
theorem lowK_get {s : Str} {k : Nat} (h : k < s.length) : (lowK s k).getD k default = s.getD k 0 := by
  have e : (lowS (s.take k)).length = k := by simp [lowS]; omega
  rw [lowK_split h, List.getD_eq_getElem?_getD, List.getElem?_append_right (by omega), e]; simp
theorem lowK_set {s : Str} {k : Nat} (h : k < s.length) : (lowK s k).set k (lwB (s.getD k 0)) = lowK s (k + 1) := by
  have e : (lowS (s.take k)).length = k := by simp [lowS]; omega
  rw [lowK_split h, lowK_next h, List.set_append_right _ _ (by omega), e, Nat.sub_self]; rfl
theorem lowK_keep {s : Str} {k : Nat} (h : k < s.length) (hn : ¬ (65 ≤ (s.getD k 0).toNat ∧ (s.getD k 0).toNat ≤ 90)) : lowK s (k + 1) = lowK s k := by
  rw [lowK_split h, lowK_next h, lwB_no hn]
@[simp] theorem lowS_len (s : Str) : (lowS s).length = s.length := by simp [lowS]
theorem lowS_nil {s : Str} : lowS s = [] ↔ s = [] := by simp [lowS]
def clsB (c : UInt8) : Int :=
  if c.toNat = 9 ∨ c.toNat = 10 ∨ c.toNat = 13 ∨ c.toNat = 32 then 2 else if c.toNat < 32 ∨ c.toNat = 127 then 1 else if 48 ≤ c.toNat ∧ c.toNat ≤ 57 then 3
  else if (97 ≤ c.toNat ∧ c.toNat ≤ 122) ∨ (65 ≤ c.toNat ∧ c.toNat ≤ 90) ∨ 128 ≤ c.toNat then 4 else 5
theorem cls_space {c : UInt8} (h : c.toNat = 9 ∨ c.toNat = 10 ∨ c.toNat = 13 ∨ c.toNat = 32) : clsB c = 2 := by unfold clsB; rw [if_pos h]
theorem cls_control {c : UInt8} (h1 : ¬ (c.toNat = 9 ∨ c.toNat = 10 ∨ c.toNat = 13 ∨ c.toNat = 32)) (h : c.toNat < 32 ∨ c.toNat = 127) : clsB c = 1 := by unfold clsB; rw [if_neg h1, if_pos h]
theorem cls_digit {c : UInt8} (h : 48 ≤ c.toNat ∧ c.toNat ≤ 57) : clsB c = 3 := by unfold clsB; rw [if_neg (by omega), if_neg (by omega), if_pos h]
theorem cls_letter {c : UInt8} (h : (97 ≤ c.toNat ∧ c.toNat ≤ 122) ∨ (65 ≤ c.toNat ∧ c.toNat ≤ 90) ∨ 128 ≤ c.toNat) : clsB c = 4 := by unfold clsB; rw [if_neg (by omega), if_neg (by omega), if_neg (by omega), if_pos h]
theorem cls_mark {c : UInt8} (h1 : ¬ (c.toNat = 9 ∨ c.toNat = 10 ∨ c.toNat = 13 ∨ c.toNat = 32)) (h2 : ¬ (c.toNat < 32 ∨ c.toNat = 127)) (h3 : ¬ (48 ≤ c.toNat ∧ c.toNat ≤ 57)) (h : ¬ ((97 ≤ c.toNat ∧ c.toNat ≤ 122) ∨ (65 ≤ c.toNat ∧ c.toNat ≤ 90) ∨ 128 ≤ c.toNat)) : clsB c = 5 := by unfold clsB; rw [if_neg h1, if_neg h2, if_neg h3, if_neg h]
def smlB (c : UInt8) : Bool := decide (clsB c = 4) && decide (lwB c = c)
def smallL (s : Str) : Bool := s.all (fun c => decide (clsB c = 4)) && decide (lowS s = s)
theorem map_id_iff {s : Str} : lowS s = s ↔ ∀ c ∈ s, lwB c = c := by
  unfold lowS
  constructor
  · intro h c hc
    obtain ⟨i, hi, rfl⟩ := List.mem_iff_getElem.1 hc
    have := congrArg (fun l : Str => l[i]?) h
    simpa [hi] using this
  · intro h
    conv => rhs; rw [← List.map_id s]
    exact List.map_congr_left h
theorem small_all (s : Str) : smallL s = s.all smlB := by
  rw [Bool.eq_iff_iff]
  simp only [smallL, smlB, Bool.and_eq_true, List.all_eq_true, decide_eq_true_eq, map_id_iff]
  exact ⟨fun h c hc => ⟨h.1 c hc, h.2 c hc⟩, fun h => ⟨fun c hc => (h c hc).1, fun c hc => (h c hc).2⟩⟩
theorem all_at {p : UInt8 → Bool} {s : Str} (h : ∀ j, j < s.length → p (s.getD j 0) = true) : s.all p = true := by
  rw [List.all_eq_true]
  intro c hc
  obtain ⟨i, hi, rfl⟩ := List.mem_iff_getElem.1 hc
  have := h i hi
  simpa [List.getD, hi] using this
theorem all_not {p : UInt8 → Bool} {s : Str} {k : Nat} (hk : k < s.length) (h : ¬ p (s.getD k 0) = true) : s.all p = false := by
  rw [← Bool.not_eq_true, List.all_eq_true]
  intro h2
  exact h (h2 _ (by simp [List.getD, hk]))
theorem small_yes {s : Str} (h : ∀ j, j < s.length → clsB (s.getD j 0) = 4) : smallL s = decide (lowS s = s) := by
  unfold smallL; rw [all_at (p := fun c => decide (clsB c = 4)) (fun j hj => decide_eq_true (h j hj)), Bool.true_and]
theorem small_bad {s : Str} {k : Nat} (hk : k < s.length) (h : ¬ clsB (s.getD k 0) = 4) : smallL s = false := by
  unfold smallL; rw [all_not (p := fun c => decide (clsB c = 4)) hk (fun h2 => h (of_decide_eq_true h2)), Bool.false_and]
theorem one_at {s : Str} {k : Nat} (h : k < s.length) : (s.drop k).take (k + 1 - k) = [s.getD k 0] := by
  have e : k + 1 - k = 1 := by omega
  have e2 : s.getD k 0 = s[k] := by simp [List.getD, h]
  rw [e, List.drop_eq_getElem_cons h, e2]; rfl
theorem sml_one {s : Str} {k : Nat} (h : k < s.length) (h2 : ¬ (¬ clsB (s.getD k 0) = 4 ∨ ¬ lowS ((s.drop k).take (k + 1 - k)) = (s.drop k).take (k + 1 - k))) : smlB (s.getD k 0) = true := by
  have h3 := not_or.1 h2
  have h4 := Classical.not_not.1 h3.2
  rw [one_at h] at h4
  unfold smlB
  rw [Bool.and_eq_true, decide_eq_true_eq, decide_eq_true_eq]
  exact ⟨Classical.not_not.1 h3.1, by simpa [lowS] using h4⟩
theorem sml_bad {s : Str} {k : Nat} (h : k < s.length) (h2 : ¬ clsB (s.getD k 0) = 4 ∨ ¬ lowS ((s.drop k).take (k + 1 - k)) = (s.drop k).take (k + 1 - k)) : smallL s = false := by
  rw [small_all]
  refine all_not h (fun h3 => ?_)
  unfold smlB at h3
  rw [Bool.and_eq_true, decide_eq_true_eq, decide_eq_true_eq] at h3
  rcases h2 with h2 | h2
  · exact h2 h3.1
  · rw [one_at h] at h2; exact h2 (by simpa [lowS] using h3.2)
def addS : List Str → Str → List Str
  | [], s => [s]
  | y :: l, s => if s ≤ y then (if s < y then s :: y :: l else y :: l) else y :: addS l s
section
variable {d : Bool} {o l : List Str} {x : Str} {k : Nat}
end
theorem addS_mem : ∀ {l : List Str} {s x : Str}, x ∈ addS l s ↔ x ∈ l ∨ x = s
  | [], s, x => by simp [addS]
  | y :: l, s, x => by
    unfold addS
    split
    · rename_i h1
      split
      · simp only [List.mem_cons]
        constructor
        · rintro (h | h)
          · exact .inr h
          · exact .inl h
        · rintro (h | h)
          · exact .inr h
          · exact .inl h
      · rename_i h2
        have e : y = s := List.le_antisymm (List.not_lt.1 h2) h1
        subst e
        constructor
        · exact fun h => .inl h
        · rintro (h | h)
          · exact h
          · subst h; simp
    · rw [List.mem_cons, addS_mem, List.mem_cons, or_assoc]
theorem addS_len : ∀ (l : List Str) (s : Str), (addS l s).length ≤ l.length + 1
  | [], s => by simp [addS]
  | y :: l, s => by
    have := addS_len l s
    unfold addS
    split
    · split <;> simp
    · simp; omega
section
variable {d : Bool} {o l : List Str} {x : Str} {k : Nat}
end
theorem addS_sorted : ∀ {l : List Str} (s : Str), l.Pairwise (fun a b => a < b) → (addS l s).Pairwise (fun a b => a < b)
  | [], s, _ => List.pairwise_singleton _ _
  | y :: l, s, h => by
    obtain ⟨h1, h2⟩ := List.pairwise_cons.1 h
    unfold addS
    split
    · split
      · rename_i h3
        refine List.pairwise_cons.2 ⟨fun x hx => ?_, h⟩
        rcases List.mem_cons.1 hx with rfl | h4
        · exact h3
        · exact List.lt_trans h3 (h1 x h4)
      · exact h
    · rename_i hy
      refine List.pairwise_cons.2 ⟨fun x hx => ?_, addS_sorted s h2⟩
      rcases addS_mem.1 hx with h3 | h3
      · exact h1 x h3
      · rw [h3]; exact List.not_le.1 hy
theorem nodup_of_lt {l : List Str} (h : l.Pairwise (fun a b => a < b)) : l.Nodup := h.imp (fun {a b} h e => by subst e; exact List.lt_irrefl a h)
theorem sorted_keys {ks l : List Str} (hn : ks.Nodup) (hl : l.Pairwise (fun a b => a < b)) (h : ∀ x, x ∈ ks ↔ x ∈ l) : sortS ks = l := by
  have hp : l.Perm ks := (List.perm_ext_iff_of_nodup (nodup_of_lt hl) hn).2 (fun x => (h x).symm)
  have h3 := mergeSort_of_perm hp
  have h4 : l.mergeSort leB = l := List.mergeSort_of_pairwise (hl.imp (fun h => by simpa [leB] using List.le_of_lt h))
  show ks.mergeSort leB = _
  rw [← h3, h4]
structure Ende where
  strip : Str
  add : Str
deriving DecidableEq, Inhabited
structure Clas where
  name : Str
  ends : List Ende
deriving DecidableEq, Inhabited
def turnL (s suf y : Str) : Option Str := if suf <:+ s then some (s.take (s.length - suf.length) ++ y) else none
theorem suffix_iff {s suf : Str} : suf <:+ s ↔ suf.length ≤ s.length ∧ s.drop (s.length - suf.length) = suf := by
  constructor
  · intro h
    refine ⟨h.length_le, ?_⟩
    obtain ⟨p, rfl⟩ := h
    simp
  · rintro ⟨_, h⟩
    exact ⟨s.take (s.length - suf.length), (congrArg (fun q => s.take (s.length - suf.length) ++ q) h.symm).trans (List.take_append_drop _ s)⟩
theorem suffix_iff2 {s t : Str} : t <:+ s ↔ t.length ≤ s.length ∧ (s.drop (s.length - t.length)).take (s.length - (s.length - t.length)) = t := by
  rw [suffix_iff, List.take_of_length_le (by rw [List.length_drop]; exact Nat.le_refl _)]
theorem turn_len (s t y : Str) : ((turnL s t y).getD []).length ≤ s.length + y.length := by
  unfold turnL
  split
  · show (s.take _ ++ y).length ≤ _
    rw [List.length_append]
    have : (s.take (s.length - t.length)).length ≤ s.length := List.length_take_le' _ _
    omega
  · exact Nat.zero_le _
def findC (c : List Clas) (n : Str) : Int := if c.findIdx (fun x => decide (x.name = n)) < c.length then (c.findIdx (fun x => decide (x.name = n)) : Nat) else -1
def endsL (c : List Clas) (n : Str) : List Ende := if 0 ≤ findC c n then (c.getD (findC c n).toNat default).ends else []
theorem findC_at {c : List Clas} {n : Str} {k : Nat} (h : k < c.length) (h0 : ∀ j, j < k → ¬ (c.getD j default).name = n) (h1 : (c.getD k default).name = n) : findC c n = (k : Nat) := by
  have e : c.findIdx (fun x => decide (x.name = n)) = k := by
    rw [List.findIdx_eq h]
    refine ⟨by simpa [List.getD, h] using h1, fun j hj => ?_⟩
    have := h0 j hj
    have hj2 : j < c.length := by omega
    simpa [List.getD, hj2] using this
  unfold findC; rw [e, if_pos h]
theorem findC_none {c : List Clas} {n : Str} (h0 : ∀ j, j < c.length → ¬ (c.getD j default).name = n) : findC c n = -1 := by
  have e : c.findIdx (fun x => decide (x.name = n)) = c.length := by
    rw [List.findIdx_eq_length]
    intro x hx
    obtain ⟨i, hi, rfl⟩ := List.mem_iff_getElem.1 hx
    have := h0 i hi
    simpa [List.getD, hi] using this
  unfold findC; rw [e, if_neg (by omega)]
theorem findC_lt (c : List Clas) (n : Str) : findC c n < (c.length : Nat) ∧ -1 ≤ findC c n := by unfold findC; split <;> omega
theorem ends_at {c : List Clas} {n : Str} (h : 0 ≤ findC c n) : endsL c n = (c.getD (findC c n).toNat default).ends := if_pos h
theorem ends_none {c : List Clas} {n : Str} (h : ¬ 0 ≤ findC c n) : endsL c n = [] := if_neg h
theorem ends_if {c : List Clas} {n : Str} (h : ¬ (0 ≤ findC c n ∧ ¬ n = [])) : (if n = [] then ([] : List Ende) else endsL c n) = [] := by
  by_cases hn : n = []
  · rw [if_pos hn]
  · rw [if_neg hn, ends_none (fun h2 => h ⟨h2, hn⟩)]
def formS (ok : Str → Bool) (s : Str) (by' : Ende → Str × Str) (l : List Str) (x : Ende) : List Str :=
  match turnL s (by' x).1 (by' x).2 with
  | some f => if f ≠ [] ∧ ok f = true then addS l f else l
  | none => l
def foldF (ok : Str → Bool) (s : Str) (by' : Ende → Str × Str) (E : List Ende) : List Str := E.foldl (formS ok s by') [s]
theorem foldF_mem {ok : Str → Bool} {s : Str} {b : Ende → Str × Str} {E : List Ende} {y : Str} : y ∈ foldF ok s b E ↔ y = s ∨ (y ≠ [] ∧ ok y = true ∧ ∃ x ∈ E, turnL s (b x).1 (b x).2 = some y) := by
  unfold foldF
  have key : ∀ (E : List Ende) (l : List Str), y ∈ E.foldl (formS ok s b) l ↔ y ∈ l ∨ (y ≠ [] ∧ ok y = true ∧ ∃ x ∈ E, turnL s (b x).1 (b x).2 = some y) := by
    intro E
    induction E with
    | nil => intro l; simp
    | cons x E ih =>
      intro l
      rw [List.foldl_cons, ih]
      have h1 : y ∈ formS ok s b l x ↔ y ∈ l ∨ (y ≠ [] ∧ ok y = true ∧ turnL s (b x).1 (b x).2 = some y) := by
        unfold formS
        cases ht : turnL s (b x).1 (b x).2 with
        | none => simp
        | some f =>
          dsimp only
          by_cases hc : f ≠ [] ∧ ok f = true
          · rw [if_pos hc, addS_mem]
            constructor
            · rintro (h | rfl)
              · exact .inl h
              · exact .inr ⟨hc.1, hc.2, rfl⟩
            · rintro (h | ⟨_, _, h⟩)
              · exact .inl h
              · injection h with h; exact .inr h.symm
          · rw [if_neg hc]
            constructor
            · exact .inl
            · rintro (h | ⟨h2, h3, h⟩)
              · exact h
              · injection h with h; subst h; exact absurd ⟨h2, h3⟩ hc
      rw [h1]
      constructor
      · rintro ((h | ⟨h2, h3, h⟩) | ⟨h2, h3, z, hz, h⟩)
        · exact .inl h
        · exact .inr ⟨h2, h3, x, by simp, h⟩
        · exact .inr ⟨h2, h3, z, by simp [hz], h⟩
      · rintro (h | ⟨h2, h3, z, hz, h⟩)
        · exact .inl (.inl h)
        · rcases List.mem_cons.1 hz with rfl | hz
          · exact .inl (.inr ⟨h2, h3, h⟩)
          · exact .inr ⟨h2, h3, z, hz, h⟩
  rw [key]; simp
theorem formS_sorted {ok : Str → Bool} {s : Str} {b : Ende → Str × Str} {l : List Str} (x : Ende) (h : l.Pairwise (fun a b => a < b)) : (formS ok s b l x).Pairwise (fun a b => a < b) := by
  unfold formS
  split
  · split
    · exact addS_sorted _ h
    · exact h
  · exact h
theorem foldF_sorted (ok : Str → Bool) (s : Str) (b : Ende → Str × Str) (E : List Ende) : (foldF ok s b E).Pairwise (fun a b => a < b) := by
  unfold foldF
  have key : ∀ (E : List Ende) (l : List Str), l.Pairwise (fun a b => a < b) → (E.foldl (formS ok s b) l).Pairwise (fun a b => a < b) := by
    intro E
    induction E with
    | nil => exact fun l h => h
    | cons x E ih => exact fun l h => ih _ (formS_sorted x h)
  exact key E _ (List.pairwise_singleton _ _)
theorem foldF_len (ok : Str → Bool) (s : Str) (b : Ende → Str × Str) (E : List Ende) : (foldF ok s b E).length ≤ E.length + 1 := by
  unfold foldF
  have key : ∀ (E : List Ende) (l : List Str), (E.foldl (formS ok s b) l).length ≤ E.length + l.length := by
    intro E
    induction E with
    | nil => intro l; simp
    | cons x E ih =>
      intro l
      have h1 := ih (formS ok s b l x)
      have h2 : (formS ok s b l x).length ≤ l.length + 1 := by
        unfold formS
        split
        · split
          · exact addS_len _ _
          · omega
        · omega
      rw [List.foldl_cons, List.length_cons]; omega
  have := key E [s]
  simpa using this
theorem foldF_succ (ok : Str → Bool) (s : Str) (b : Ende → Str × Str) (E : List Ende) (k : Nat) (h : k < E.length) : foldF ok s b (E.take (k + 1)) = formS ok s b (foldF ok s b (E.take k)) (E.getD k default) := by
  unfold foldF; rw [take_succD E k h, List.foldl_append]; rfl
theorem fold_yes {ok : Str → Bool} {s : Str} {b : Ende → Str × Str} {E : List Ende} {k : Nat} (h : k < E.length) (h1 : (turnL s (b (E.getD k default)).1 (b (E.getD k default)).2).isSome = true ∧ ¬ (turnL s (b (E.getD k default)).1 (b (E.getD k default)).2).getD [] = []) (hok : ok ((turnL s (b (E.getD k default)).1 (b (E.getD k default)).2).getD []) = true) :
    foldF ok s b (E.take (k + 1)) = addS (foldF ok s b (E.take k)) ((turnL s (b (E.getD k default)).1 (b (E.getD k default)).2).getD []) := by
  rw [foldF_succ ok s b E k h]; unfold formS
  cases ht : turnL s (b (E.getD k default)).1 (b (E.getD k default)).2 with
  | none => rw [ht] at h1; exact absurd h1.1 (by simp)
  | some f => rw [ht] at h1 hok; dsimp only; rw [if_pos ⟨h1.2, hok⟩]; rfl
theorem fold_no {ok : Str → Bool} {s : Str} {b : Ende → Str × Str} {E : List Ende} {k : Nat} (h : k < E.length) (h1 : ¬ (((turnL s (b (E.getD k default)).1 (b (E.getD k default)).2).isSome = true ∧ ¬ (turnL s (b (E.getD k default)).1 (b (E.getD k default)).2).getD [] = []) ∧ ok ((turnL s (b (E.getD k default)).1 (b (E.getD k default)).2).getD []) = true)) :
    foldF ok s b (E.take (k + 1)) = foldF ok s b (E.take k) := by
  rw [foldF_succ ok s b E k h]; unfold formS
  cases ht : turnL s (b (E.getD k default)).1 (b (E.getD k default)).2 with
  | none => rfl
  | some f => rw [ht] at h1; dsimp only; rw [if_neg (fun h2 => h1 ⟨⟨rfl, h2.1⟩, h2.2⟩)]
def fwd (x : Ende) : Str × Str := (x.strip, x.add)
def formsC (c : List Clas) (stem cls : Str) : List Str := if stem = [] then [] else foldF (fun _ => true) (lowS stem) fwd (if cls = [] then [] else endsL c cls)
theorem keys_set {m : List (Str × Unit)} {l : List Str} {f : Str} (hn : (m.map (·.1)).Nodup) (h : ∀ x, x ∈ m.map (·.1) ↔ x ∈ l) : ∀ x, x ∈ (setM m f ()).map (·.1) ↔ x ∈ addS l f := fun x => by
  rw [addS_mem, ← h]
  rcases find_idx f m with h1 | ⟨i, u, h1, _⟩
  · rw [setM_miss h1]; simp
  · rw [setM_hit h1 hn, List.map_set]
    have hi := (List.getElem?_eq_some_iff.1 h1)
    have e : (m.map (·.1)).set i f = m.map (·.1) := by
      obtain ⟨hi, hv⟩ := hi
      have : (m.map (·.1))[i]'(by simpa using hi) = f := by simp [hv]
      rw [← this]; exact List.set_getElem_self _
    have hm : f ∈ m.map (·.1) := by
      have := List.mem_of_getElem? h1
      exact List.mem_map.2 ⟨_, this, rfl⟩
    rw [show ((f, ()) : Str × Unit).1 = f from rfl, e]
    constructor
    · exact .inl
    · rintro (h2 | rfl)
      · exact h2
      · exact hm
theorem forms_nil {c : List Clas} {p q : Str} (h : lowS p = []) : formsC c p q = [] := by unfold formsC; rw [if_pos (lowS_nil.1 h)]
theorem forms_if {c : List Clas} {p q : Str} (h : ¬ lowS p = []) : formsC c p q = foldF (fun _ => true) (lowS p) fwd (if q = [] then [] else endsL c q) := by unfold formsC; rw [if_neg (fun e => h (lowS_nil.2 e))]
def KeyIs (m : List (Str × Unit)) (l : List Str) : Prop := (m.map (·.1)).Nodup ∧ ∀ x, x ∈ m.map (·.1) ↔ x ∈ l
theorem KeyIs.one (s : Str) : KeyIs (setM [] s ()) [s] := ⟨by simp [setM], fun x => by simp [setM]⟩
theorem KeyIs.add {m : List (Str × Unit)} {l : List Str} (h : KeyIs m l) (f : Str) : KeyIs (setM m f ()) (addS l f) := ⟨keys_setM f () m h.1, keys_set h.1 h.2⟩
theorem KeyIs.sorted {m : List (Str × Unit)} {l : List Str} (h : KeyIs m l) (hl : l.Pairwise (fun a b => a < b)) : sortS (m.map (·.1)) = l := sorted_keys h.1 hl h.2
theorem cut_yes {s : Str} {E : List Ende} {k : Nat} {m : List (Str × Unit)} (h : KeyIs m (foldF (fun _ => true) s fwd (E.take k))) (hk : k < E.length)
    (h1 : decide ((E.getD k default).strip <:+ s) = true ∧ ¬ (if (E.getD k default).strip <:+ s then s.take (s.length - (E.getD k default).strip.length) else s) ++ (E.getD k default).add = []) :
    KeyIs (setM m ((if (E.getD k default).strip <:+ s then s.take (s.length - (E.getD k default).strip.length) else s) ++ (E.getD k default).add) ()) (foldF (fun _ => true) s fwd (E.take (k + 1))) := by
  have hs := of_decide_eq_true h1.1
  rw [if_pos hs] at h1 ⊢
  have e : turnL s (fwd (E.getD k default)).1 (fwd (E.getD k default)).2 = some (s.take (s.length - (E.getD k default).strip.length) ++ (E.getD k default).add) := if_pos hs
  have h2 := fold_yes (ok := fun _ => true) (s := s) (b := fwd) hk ⟨by rw [e]; rfl, by rw [e]; exact h1.2⟩ rfl
  rw [e] at h2
  rw [h2]
  exact h.add _
theorem cut_no {s : Str} {E : List Ende} {k : Nat} {m : List (Str × Unit)} (h : KeyIs m (foldF (fun _ => true) s fwd (E.take k))) (hk : k < E.length)
    (h1 : ¬ (decide ((E.getD k default).strip <:+ s) = true ∧ ¬ (if (E.getD k default).strip <:+ s then s.take (s.length - (E.getD k default).strip.length) else s) ++ (E.getD k default).add = [])) :
    KeyIs m (foldF (fun _ => true) s fwd (E.take (k + 1))) := by
  rw [fold_no (ok := fun _ => true) (s := s) (b := fwd) hk]
  · exact h
  · intro h2
    by_cases hs : (E.getD k default).strip <:+ s
    · have e : turnL s (fwd (E.getD k default)).1 (fwd (E.getD k default)).2 = some (s.take (s.length - (E.getD k default).strip.length) ++ (E.getD k default).add) := if_pos hs
      rw [e] at h2
      exact h1 ⟨decide_eq_true hs, by rw [if_pos hs]; exact h2.1.2⟩
    · have e : turnL s (fwd (E.getD k default)).1 (fwd (E.getD k default)).2 = none := if_neg hs
      rw [e] at h2
      exact absurd h2.1.1 (by simp)
end Go.Vc
namespace Go.Vc
open Go
def jnL (inner : UInt8 → Bool) (a b : UInt8) : Str → Nat
  | [] => 0
  | c :: t => if inner c = true then 1 + jnL inner a b t else if c = a ∨ c = b then (match t with
      | [] => 0
      | d :: t' => if inner d = true then 2 + jnL inner a b t' else 0) else 0
theorem jnL_len (inner : UInt8 → Bool) (a b : UInt8) : ∀ s : Str, jnL inner a b s ≤ s.length
  | [] => Nat.le_refl _
  | [c] => by
    unfold jnL
    split
    · simp [jnL]
    · split <;> simp
  | c :: d :: t => by
    have h1 := jnL_len inner a b (d :: t)
    have h2 := jnL_len inner a b t
    unfold jnL
    simp only [List.length_cons] at *
    split
    · omega
    · split
      · split <;> omega
      · omega
theorem drop_two {s : Str} {n : Nat} (h : n + 1 < s.length) : s.drop n = s.getD n default :: s.getD (n + 1) default :: s.drop (n + 2) := by
  rw [List.drop_eq_getElem_cons (by omega), List.drop_eq_getElem_cons h]
  simp [List.getD, h, Nat.lt_of_succ_lt h]
theorem drop_one {s : Str} {n : Nat} (h : n < s.length) : s.drop n = s.getD n default :: s.drop (n + 1) := by
  rw [List.drop_eq_getElem_cons h]; simp [List.getD, h]
section
variable {inner : UInt8 → Bool} {a b : UInt8} {s : Str} {n : Nat}
theorem jn_end (h : s.length ≤ n) : jnL inner a b (s.drop n) = 0 := by rw [List.drop_eq_nil_of_le h]; rfl
theorem jn_in (h : n < s.length) (hi : inner (s.getD n default) = true) : jnL inner a b (s.drop n) = 1 + jnL inner a b (s.drop (n + 1)) := by
  rw [drop_one h]; conv => lhs; unfold jnL
  rw [if_pos hi]
theorem jn_two (h : n + 1 < s.length) (hi : ¬ inner (s.getD n default) = true) (hj : s.getD n default = a ∨ s.getD n default = b) (h2 : inner (s.getD (n + 1) default) = true) : jnL inner a b (s.drop n) = 2 + jnL inner a b (s.drop (n + 2)) := by
  rw [drop_two h]; conv => lhs; unfold jnL
  rw [if_neg hi, if_pos hj]
  dsimp only
  rw [if_pos h2]
theorem jn_no (h : n < s.length) (hi : ¬ inner (s.getD n default) = true) (hj : ¬ (s.getD n default = a ∨ s.getD n default = b) ∨ ¬ n + 1 < s.length ∨ ¬ inner (s.getD (n + 1) default) = true) : jnL inner a b (s.drop n) = 0 := by
  by_cases h1 : n + 1 < s.length
  · rw [drop_two h1]; unfold jnL
    rw [if_neg hi]
    split
    · rename_i h3
      dsimp only
      rw [if_neg (by rcases hj with h | h | h
                     · exact absurd h3 h
                     · exact absurd h1 h
                     · exact h)]
    · rfl
  · rw [drop_one h, List.drop_eq_nil_of_le (by omega)]; unfold jnL
    rw [if_neg hi]
    split <;> rfl
end
def blL : Str → Nat
  | [] => 0
  | c :: t => if clsB c = 2 then 1 + blL t else 0
theorem blL_len : ∀ s : Str, blL s ≤ s.length
  | [] => Nat.le_refl _
  | c :: t => by
    have h1 := blL_len t
    unfold blL
    simp only [List.length_cons]
    split <;> omega
theorem bl_end {s : Str} {n : Nat} (h : s.length ≤ n) : blL (s.drop n) = 0 := by rw [List.drop_eq_nil_of_le h]; rfl
theorem bl_yes {s : Str} {n : Nat} (h : n < s.length) (hc : clsB (s.getD n default) = 2) : blL (s.drop n) = 1 + blL (s.drop (n + 1)) := by
  rw [drop_one h]; conv => lhs; unfold blL
  rw [if_pos hc]
theorem bl_no {s : Str} {n : Nat} (h : n < s.length) (hc : ¬ clsB (s.getD n default) = 2) : blL (s.drop n) = 0 := by
  rw [drop_one h]; unfold blL; rw [if_neg hc]
def wdB (c : UInt8) : Bool := decide (clsB c = 4) || decide (clsB c = 3)
def dgtB (c : UInt8) : Bool := decide (clsB c = 3)
def tokN (s : Str) : Int × Nat :=
  if clsB (s.getD 0 default) = 4 then (6, 1 + jnL wdB 39 45 (s.drop 1))
  else if clsB (s.getD 0 default) = 3 then (7, 1 + jnL dgtB 46 44 (s.drop 1))
  else if clsB (s.getD 0 default) = 2 then (8, 1 + blL (s.drop 1))
  else (9, 1)
theorem tokN_pos (s : Str) : 1 ≤ (tokN s).2 := by
  unfold tokN
  repeat' split
  all_goals (dsimp only; omega)
theorem tokN_len {s : Str} (h : s ≠ []) : (tokN s).2 ≤ s.length := by
  have h0 : 0 < s.length := List.length_pos_iff.2 h
  have h1 := jnL_len wdB 39 45 (s.drop 1)
  have h2 := jnL_len dgtB 46 44 (s.drop 1)
  have h3 := blL_len (s.drop 1)
  rw [List.length_drop] at h1 h2 h3
  unfold tokN
  repeat' split
  all_goals (dsimp only; omega)
def wordL (s : Str) : Nat := if s ≠ [] ∧ clsB (s.getD 0 default) = 4 then 1 + jnL wdB 39 45 (s.drop 1) else 0
def numL (s : Str) : Nat := if s ≠ [] ∧ clsB (s.getD 0 default) = 3 then 1 + jnL dgtB 46 44 (s.drop 1) else 0
theorem tok_word {s : Str} (h : s ≠ []) (h2 : ¬ blL s > 0) (h1 : ¬ numL s > 0) (h0 : wordL s > 0) : tokN s = (6, wordL s) := by
  unfold wordL at h0 ⊢
  split at h0
  · rename_i h4
    rw [if_pos h4]; unfold tokN; rw [if_pos h4.2]
  · omega
theorem tok_num {s : Str} (h : s ≠ []) (h2 : ¬ blL s > 0) (h1 : numL s > 0) : tokN s = (7, numL s) := by
  unfold numL at h1 ⊢
  split at h1
  · rename_i h4
    rw [if_pos h4]; unfold tokN; rw [if_neg (by omega), if_pos h4.2]
  · omega
theorem tok_blank {s : Str} (h : s ≠ []) (h2 : blL s > 0) : tokN s = (8, blL s) := by
  have h0 : 0 < s.length := List.length_pos_iff.2 h
  by_cases hc : clsB (s.getD 0 default) = 2
  · have := bl_yes h0 hc
    rw [List.drop_zero] at this
    unfold tokN; rw [if_neg (by omega), if_neg (by omega), if_pos hc, this]
  · have := bl_no h0 hc
    rw [List.drop_zero] at this
    omega
theorem tok_sign {s : Str} (h : s ≠ []) (h2 : ¬ blL s > 0) (h1 : ¬ numL s > 0) (h0 : ¬ wordL s > 0) : tokN s = (9, 1) := by
  have hl : 0 < s.length := List.length_pos_iff.2 h
  unfold tokN
  rw [if_neg, if_neg, if_neg]
  · intro hc
    have := bl_yes hl hc
    rw [List.drop_zero] at this
    omega
  · intro hc
    unfold numL at h1; rw [if_pos ⟨h, hc⟩] at h1; omega
  · intro hc
    unfold wordL at h0; rw [if_pos ⟨h, hc⟩] at h0; omega
def cutT (s : Str) : List Item :=
  if h : s = [] then [] else ⟨(tokN s).1, s.take (tokN s).2, 0⟩ :: cutT (s.drop (tokN s).2)
termination_by s.length
decreasing_by
  have h1 := tokN_pos s
  have h2 : 0 < s.length := List.length_pos_iff.2 h
  rw [List.length_drop]; omega
theorem cutT_nil : cutT [] = [] := by unfold cutT; simp
theorem cutT_cons {s : Str} (h : s ≠ []) : cutT s = ⟨(tokN s).1, s.take (tokN s).2, 0⟩ :: cutT (s.drop (tokN s).2) := by
  conv => lhs; unfold cutT
  rw [dif_neg h]
theorem cutT_len : ∀ (n : Nat) (s : Str), s.length = n → (cutT s).length ≤ s.length := by
  intro n
  induction n using Nat.strongRecOn with
  | ind n ih =>
    intro s hs
    by_cases h : s = []
    · subst h; rw [cutT_nil]; simp
    · have h1 := tokN_pos s
      have h2 : 0 < s.length := List.length_pos_iff.2 h
      rw [cutT_cons h]
      have h3 := ih _ (by rw [← hs]; show (s.drop (tokN s).2).length < s.length; rw [List.length_drop]; omega) (s.drop (tokN s).2) rfl
      rw [List.length_drop] at h3
      rw [List.length_cons]; omega
def tokI (x : Item) : List Item := if x.kind = 1 then cutT x.text else if 2 ≤ x.kind ∧ x.kind ≤ 5 then [x] else []
def toks (f : List Item) : List Item := f.flatMap tokI
theorem toks_succ {f : List Item} {k : Nat} (h : k < f.length) : toks (f.take (k + 1)) = toks (f.take k) ++ tokI (f.getD k default) := by
  unfold toks; rw [take_succD f k h]; simp
def fLen (f : List Item) : Nat := (f.map (fun x => x.text.length)).sum
theorem toks_len : ∀ f : List Item, (toks f).length ≤ fLen f + f.length
  | [] => by simp [toks]
  | x :: f => by
    have h1 := toks_len f
    have h2 : (tokI x).length ≤ x.text.length + 1 := by
      unfold tokI
      split
      · have := cutT_len _ x.text rfl; omega
      · split <;> simp
    have e : toks (x :: f) = tokI x ++ toks f := by simp [toks]
    rw [e, List.length_append, List.length_cons]
    simp only [fLen, List.map_cons, List.sum_cons] at *
    omega
end Go.Vc
