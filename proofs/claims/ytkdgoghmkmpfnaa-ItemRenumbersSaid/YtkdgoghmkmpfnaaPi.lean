/-
  Plain: names, contents of tags, fragments: what the functions of items compute. No program in sight.
-/
import Derived.Test.YtkdgoghmkmpfnaaPl
import Derived.Lib.Bytealg
namespace Go.Vc
open Go

/-! ### bytes and names -/
def lowB (c : UInt8) : Bool := decide (97 ≤ c.toNat) && decide (c.toNat ≤ 122)
def digB (c : UInt8) : Bool := decide (48 ≤ c.toNat) && decide (c.toNat ≤ 57)
def nameB (c : UInt8) : Bool := lowB c || digB c || decide (c.toNat = 45)
def isName (s : Str) : Bool := decide (1 ≤ s.length) && decide (s.length ≤ 24) && lowB (s.getD 0 0) && (s.drop 1).all nameB
theorem all_upto {α : Type} (p : α → Bool) (d : α) (l : List α) : l.all p = true ↔ ∀ j, j < l.length → p (l.getD j d) = true := by
  rw [List.all_eq_true]
  constructor
  · intro h j hj
    have e : l.getD j d = l[j] := by simp [List.getD, hj]
    rw [e]; exact h _ (List.getElem_mem hj)
  · intro h x hx
    obtain ⟨j, hj, rfl⟩ := List.getElem_of_mem hx
    have := h j hj
    have e : l.getD j d = l[j] := by simp [List.getD, hj]
    rw [e] at this; exact this
theorem lowB_iff (c : UInt8) : lowB c = true ↔ 97 ≤ c.toNat ∧ c.toNat ≤ 122 := by simp [lowB]
theorem digB_iff (c : UInt8) : digB c = true ↔ 48 ≤ c.toNat ∧ c.toNat ≤ 57 := by simp [digB]
theorem nameB_iff (c : UInt8) : nameB c = true ↔ (97 ≤ c.toNat ∧ c.toNat ≤ 122) ∨ (48 ≤ c.toNat ∧ c.toNat ≤ 57) ∨ c.toNat = 45 := by
  simp [nameB, lowB, digB, or_assoc]
theorem isName_iff (s : Str) : isName s = true ↔ 1 ≤ s.length ∧ s.length ≤ 24 ∧ (97 ≤ (s.getD 0 0).toNat ∧ (s.getD 0 0).toNat ≤ 122) ∧ ∀ j, 1 ≤ j → j < s.length → nameB (s.getD j 0) = true := by
  unfold isName
  simp only [Bool.and_eq_true, decide_eq_true_eq, lowB_iff, all_upto nameB 0]
  constructor
  · rintro ⟨⟨⟨h1, h2⟩, h3⟩, h4⟩
    refine ⟨h1, h2, h3, fun j hj hl => ?_⟩
    have := h4 (j - 1) (by simp; omega)
    have e : (s.drop 1).getD (j - 1) 0 = s.getD j 0 := by
      simp only [List.getD_eq_getElem?_getD, List.getElem?_drop]
      rw [show 1 + (j - 1) = j by omega]
    rwa [e] at this
  · rintro ⟨h1, h2, h3, h4⟩
    refine ⟨⟨⟨h1, h2⟩, h3⟩, fun j hj => ?_⟩
    have := h4 (j + 1) (by omega) (by simp at hj; omega)
    have e : (s.drop 1).getD j 0 = s.getD (j + 1) 0 := by
      simp only [List.getD_eq_getElem?_getD, List.getElem?_drop]
      rw [show 1 + j = j + 1 by omega]
    rwa [e]
theorem isName_no {s : Str} (j : Nat) (h1 : 1 ≤ j) (h2 : j < s.length) (h3 : nameB (s.getD j 0) = false) : isName s = false := by
  rw [← Bool.not_eq_true]
  intro h
  have := ((isName_iff s).1 h).2.2.2 j h1 h2
  rw [h3] at this; cases this
/-- the name at the beginning of a content -/
def nameL (s : Str) : Str := s.takeWhile (fun c => c != 32)
theorem takeWhile_len {α : Type} (p : α → Bool) (d : α) : ∀ (l : List α), (∀ j, j < (l.takeWhile p).length → p (l.getD j d) = true) ∧ ((l.takeWhile p).length < l.length → p (l.getD (l.takeWhile p).length d) = false) ∧ (l.takeWhile p).length ≤ l.length ∧ l.take (l.takeWhile p).length = l.takeWhile p
  | [] => by simp
  | c :: l => by
    have ih := takeWhile_len p d l
    cases hc : p c with
    | true =>
      rw [List.takeWhile_cons, if_pos hc]
      refine ⟨fun j hj => ?_, fun hj => ?_, by simp; exact ih.2.2.1, by simp; exact ih.2.2.2⟩
      · cases j with
        | zero => exact hc
        | succ j => exact ih.1 j (by simpa using hj)
      · simp only [List.length_cons] at hj ⊢
        exact ih.2.1 (by omega)
    | false =>
      rw [List.takeWhile_cons, if_neg (by simp [hc])]
      exact ⟨fun j hj => by simp at hj, fun _ => hc, by simp, rfl⟩
/-- where the name ends, by what a loop finds -/
theorem nameL_at {s : Str} {k : Nat} (h1 : ∀ j, j < k → (s.getD j 0).toNat ≠ 32) (h2 : k < s.length) (h3 : (s.getD k 0).toNat = 32) : nameL s = s.take k := by
  have ht := takeWhile_len (fun c : UInt8 => c != 32) 0 s
  have hk : (nameL s).length = k := by
    rcases Nat.lt_trichotomy (nameL s).length k with h | h | h
    · have h4 := ht.2.1 (by unfold nameL at h; omega)
      have h5 := h1 _ h
      exfalso
      apply h5
      have : s.getD (nameL s).length 0 = 32 := by simpa [nameL] using h4
      rw [this]; rfl
    · exact h
    · have h4 := ht.1 k h
      exfalso
      have h5 : s.getD k 0 = 32 := UInt8.toNat_inj.1 h3
      rw [h5] at h4; simp at h4
  rw [← hk]; exact ht.2.2.2.symm
theorem nameL_all {s : Str} (h1 : ∀ j, j < s.length → (s.getD j 0).toNat ≠ 32) : nameL s = s := by
  have ht := takeWhile_len (fun c : UInt8 => c != 32) 0 s
  have hk : (nameL s).length = s.length := by
    rcases Nat.lt_or_ge (nameL s).length s.length with h | h
    · have h4 := ht.2.1 h
      exfalso
      apply h1 _ h
      have : s.getD (nameL s).length 0 = 32 := by simpa [nameL] using h4
      rw [this]; rfl
    · have := ht.2.2.1; unfold nameL at *; omega
  have := ht.2.2.2
  unfold nameL at *
  rw [hk, List.take_of_length_le (Nat.le_refl _)] at this
  exact this.symm
/-- the library's search for a byte -/
theorem index_spec (c : UInt8) : ∀ (s : Str), (Lib.indexByte s c = -1 ∧ ∀ j, j < s.length → s.getD j 0 ≠ c) ∨ ∃ k : Nat, Lib.indexByte s c = (k : Int) ∧ k < s.length ∧ s.getD k 0 = c ∧ ∀ j, j < k → s.getD j 0 ≠ c
  | [] => .inl ⟨rfl, fun j hj => by simp at hj⟩
  | b :: s => by
    have ih := index_spec c s
    by_cases hb : b = c
    · refine .inr ⟨0, by simp [Lib.indexByte, hb], by simp, hb, fun j hj => by omega⟩
    · have hb2 : (b == c) = false := by simpa using hb
      rcases ih with ⟨h1, h2⟩ | ⟨k, h1, h2, h3, h4⟩
      · refine .inl ⟨by simp [Lib.indexByte, hb2, h1], fun j hj => ?_⟩
        cases j with
        | zero => exact hb
        | succ j => exact h2 j (by simpa using hj)
      · refine .inr ⟨k + 1, ?_, by simpa using h2, h3, fun j hj => ?_⟩
        · simp [Lib.indexByte, hb2, h1]
        · cases j with
          | zero => exact hb
          | succ j => exact h4 j (by omega)
/-- a byte of a content -/
def contB (c : UInt8) : Bool := decide (32 ≤ c.toNat) && decide (c.toNat ≤ 126) && !(decide (c.toNat = 60) || decide (c.toNat = 62) || decide (c.toNat = 123) || decide (c.toNat = 125))
theorem contB_iff (c : UInt8) : contB c = true ↔ 32 ≤ c.toNat ∧ c.toNat ≤ 126 ∧ c.toNat ≠ 60 ∧ c.toNat ≠ 62 ∧ c.toNat ≠ 123 ∧ c.toNat ≠ 125 := by
  simp [contB, and_assoc]
def isContent (s : Str) : Bool := decide (s.length ≤ 64) && s.all contB && isName (nameL s) && (decide ((nameL s).length = s.length) || decide ((nameL s).length + 1 < s.length)) && decide ((s.getD (s.length - 1) 0).toNat ≠ 47)
theorem isContent_iff (s : Str) : isContent s = true ↔ s.length ≤ 64 ∧ (∀ j, j < s.length → contB (s.getD j 0) = true) ∧ isName (nameL s) = true ∧ ((nameL s).length = s.length ∨ (nameL s).length + 1 < s.length) ∧ (s.getD (s.length - 1) 0).toNat ≠ 47 := by
  unfold isContent
  simp only [Bool.and_eq_true, Bool.or_eq_true, decide_eq_true_eq, all_upto contB 0, and_assoc]
theorem isContent_bad {s : Str} (j : Nat) (h2 : j < s.length) (h3 : ¬ contB (s.getD j 0) = true) : isContent s = false := by
  rw [← Bool.not_eq_true]
  intro h
  exact h3 (((isContent_iff s).1 h).2.1 j h2)
theorem isName_nil : isName [] = false := rfl
theorem isContent_nil : isContent [] = false := by decide

theorem isName_len {s : Str} (h : ¬ (1 ≤ s.length ∧ s.length ≤ 24 ∧ 97 ≤ (s.getD 0 0).toNat ∧ (s.getD 0 0).toNat ≤ 122)) : isName s = false := by
  rw [← Bool.not_eq_true]
  intro h2
  have h3 := (isName_iff s).1 h2
  exact h ⟨h3.1, h3.2.1, h3.2.2.1.1, h3.2.2.1.2⟩
theorem isName_bad {s : Str} {k : Nat} (hk : k < s.length) (h : ¬ ((97 ≤ (s.getD k 0).toNat ∧ (s.getD k 0).toNat ≤ 122) ∨ (1 ≤ k ∧ ((48 ≤ (s.getD k 0).toNat ∧ (s.getD k 0).toNat ≤ 57) ∨ (s.getD k 0).toNat = 45)))) : isName s = false := by
  rw [← Bool.not_eq_true]
  intro h2
  have h3 := (isName_iff s).1 h2
  by_cases h0 : k = 0
  · subst h0; exact h (.inl h3.2.2.1)
  · have h4 := (nameB_iff _).1 (h3.2.2.2 k (by omega) hk)
    apply h
    rcases h4 with h4 | h4 | h4
    · exact .inl h4
    · exact .inr ⟨by omega, .inl h4⟩
    · exact .inr ⟨by omega, .inr h4⟩
theorem upto0 {Q : Nat → Prop} {k : Nat} (h : ∀ j, j < k → Q j) (hk : Q k) : ∀ j, j < k + 1 → Q j := fun j hj => by
  rcases Nat.lt_or_ge j k with h1 | h1
  · exact h j h1
  · have : j = k := by omega
    subst this; exact hk
theorem upto1 {Q : Nat → Prop} {k : Nat} (h : ∀ j, 1 ≤ j → j < k → Q j) (hk : 1 ≤ k → Q k) : ∀ j, 1 ≤ j → j < k + 1 → Q j := fun j h0 hj => by
  rcases Nat.lt_or_ge j k with h1 | h1
  · exact h j h0 h1
  · have : j = k := by omega
    subst this; exact hk h0
/-- what strings.Cut answers at a separator of one byte -/
def cutL (s : Str) (c : UInt8) : Str × Str × Bool :=
  if (s.takeWhile (fun x => x != c)).length < s.length then (s.take (s.takeWhile (fun x => x != c)).length, s.drop ((s.takeWhile (fun x => x != c)).length + 1), true) else (s, [], false)
theorem index_tw (s : Str) (c : UInt8) : (Lib.indexByte s c = -1 ∧ (s.takeWhile (fun x => x != c)).length = s.length) ∨ (Lib.indexByte s c = ((s.takeWhile (fun x => x != c)).length : Nat) ∧ (s.takeWhile (fun x => x != c)).length < s.length) := by
  have ht := takeWhile_len (fun x : UInt8 => x != c) 0 s
  rcases index_spec c s with ⟨h1, h2⟩ | ⟨k, h1, h2, h3, h4⟩
  · refine .inl ⟨h1, ?_⟩
    rcases Nat.lt_or_ge (s.takeWhile (fun x => x != c)).length s.length with h | h
    · have h5 := ht.2.1 h
      have h6 := h2 _ h
      exact absurd (by simpa using h5) h6
    · have := ht.2.2.1; omega
  · have e : (s.takeWhile (fun x => x != c)).length = k := by
      rcases Nat.lt_trichotomy (s.takeWhile (fun x => x != c)).length k with h | h | h
      · have h5 := ht.2.1 (by omega)
        exact absurd (by simpa using h5) (h4 _ h)
      · exact h
      · have h5 := ht.1 k h
        rw [h3] at h5; simp at h5
    rw [e]
    exact .inr ⟨h1, h2⟩
theorem cut_name (s : Str) : (cutL s 32).1 = nameL s := by
  have ht := takeWhile_len (fun x : UInt8 => x != 32) 0 s
  unfold cutL nameL
  split
  · exact ht.2.2.2
  · have h := ht.2.2.2
    rw [List.take_of_length_le (by omega)] at h
    exact h
theorem ix4 (c : UInt8) : 0 ≤ Lib.indexByte [60, 62, 123, 125] c ↔ (c.toNat = 60 ∨ c.toNat = 62 ∨ c.toNat = 123 ∨ c.toNat = 125) := by
  have e : ∀ d : UInt8, d = c ↔ c.toNat = d.toNat := fun d => ⟨fun h => by rw [h], fun h => (UInt8.toNat_inj.1 h).symm⟩
  have h1 : c.toNat = 60 ↔ (60 : UInt8) = c := (e 60).symm
  have h2 : c.toNat = 62 ↔ (62 : UInt8) = c := (e 62).symm
  have h3 : c.toNat = 123 ↔ (123 : UInt8) = c := (e 123).symm
  have h4 : c.toNat = 125 ↔ (125 : UInt8) = c := (e 125).symm
  rw [h1, h2, h3, h4]
  by_cases a1 : (60 : UInt8) = c
  · subst a1; decide
  · by_cases a2 : (62 : UInt8) = c
    · subst a2; decide
    · by_cases a3 : (123 : UInt8) = c
      · subst a3; decide
      · by_cases a4 : (125 : UInt8) = c
        · subst a4; decide
        · have b1 : ((60 : UInt8) == c) = false := by simpa using a1
          have b2 : ((62 : UInt8) == c) = false := by simpa using a2
          have b3 : ((123 : UInt8) == c) = false := by simpa using a3
          have b4 : ((125 : UInt8) == c) = false := by simpa using a4
          simp [Lib.indexByte, b1, b2, b3, b4, a1, a2, a3, a4]
theorem nameL_len (s : Str) : (nameL s).length ≤ s.length := (takeWhile_len (fun x : UInt8 => x != 32) 0 s).2.2.1
theorem name_pos {s : Str} (h : isName (nameL s) = true) : 0 < s.length := by
  have h1 := ((isName_iff _).1 h).1
  have := nameL_len s
  omega
theorem content_end {s : Str} (h1 : s.length ≤ 64) (h47 : (s.getD (s.length - 1) 0).toNat ≠ 47) (hall : ∀ j, j < s.length → contB (s.getD j 0) = true) :
    decide (isName (cutL s 32).1 = true ∧ (¬ (cutL s 32).2.2 = true ∨ (0 : Int) < ((cutL s 32).2.1.length : Nat))) = isContent s := by
  rw [Bool.eq_iff_iff, decide_eq_true_iff, isContent_iff, cut_name]
  have hl := nameL_len s
  have h3 : (¬ (cutL s 32).2.2 = true ∨ (0 : Int) < ((cutL s 32).2.1.length : Nat)) ↔ ((nameL s).length = s.length ∨ (nameL s).length + 1 < s.length) := by
    unfold cutL
    unfold nameL at *
    split
    · simp only [not_true_eq_false, false_or, List.length_drop]
      omega
    · simp
      omega
  rw [h3]
  exact ⟨fun h => ⟨h1, hall, h.1, h.2, h47⟩, fun h => ⟨h.2.2.1, h.2.2.2.1⟩⟩
theorem content_end2 {s : Str} (h1 : s.length ≤ 64) (hall : ∀ j, j < s.length → contB (s.getD j 0) = true) :
    decide ((isName (nameL s) = true ∧ (((nameL s).length : Int) = (s.length : Nat) ∨ ((nameL s).length : Int) + 1 < (s.length : Nat))) ∧ ¬ ((s.getD (s.length - 1) 0).toNat : Int) = 47) = isContent s := by
  rw [Bool.eq_iff_iff, decide_eq_true_iff, isContent_iff]
  constructor
  · rintro ⟨⟨h2, h3⟩, h4⟩
    exact ⟨h1, hall, h2, by omega, by omega⟩
  · rintro ⟨_, _, h2, h3, h4⟩
    exact ⟨⟨h2, by omega⟩, by omega⟩
theorem isContent_no {s : Str} (h : ¬ (s.length ≤ 64 ∧ s.length ≠ 0 ∧ (s.getD (s.length - 1) 0).toNat ≠ 47)) : isContent s = false := by
  rw [← Bool.not_eq_true]
  intro h2
  have h3 := (isContent_iff s).1 h2
  exact h ⟨h3.1, by have := name_pos h3.2.2.1; omega, h3.2.2.2.2⟩

theorem ix_same {s : Str} {c : UInt8} (h : ((([c] : Str).length : Nat) : Int) = 0 ∨ [c] = s) : Lib.indexByte s c = 0 := by
  rcases h with h | h
  · simp at h
  · subst h; simp [Lib.indexByte]

/-! ### fragments -/
def widthL (x : Item) : Int := if x.kind = 1 then (x.text.length : Int) else 1
def lengthL (f : List Item) : Int := (f.map widthL).sum
theorem lengthL_succ (f : List Item) (k : Nat) (h : k < f.length) : lengthL (f.take (k + 1)) = lengthL (f.take k) + widthL (f.getD k default) := by
  unfold lengthL; rw [take_succD f k h]; simp
theorem lengthL_append (f g : List Item) : lengthL (f ++ g) = lengthL f + lengthL g := by simp [lengthL]
/-- the bytes of all texts -/
def sizeL (f : List Item) : Nat := (f.map (fun x => x.text.length)).sum
theorem sizeL_succ (f : List Item) (k : Nat) (h : k < f.length) : sizeL (f.take (k + 1)) = sizeL (f.take k) + (f.getD k default).text.length := by
  unfold sizeL; rw [take_succD f k h]; simp
theorem sizeL_take (f : List Item) (k : Nat) : sizeL (f.take k) ≤ sizeL f := by
  have h : sizeL f = sizeL (f.take k) + sizeL (f.drop k) := by
    conv => lhs; rw [← List.take_append_drop k f]
    unfold sizeL
    rw [List.map_append, List.sum_append]
  omega
theorem sizeL_mem {x : Item} : ∀ {f : List Item}, x ∈ f → x.text.length ≤ sizeL f
  | y :: f, h => by
    have h2 : sizeL (y :: f) = y.text.length + sizeL f := by simp [sizeL]
    rw [h2]
    rcases List.mem_cons.1 h with rfl | h
    · omega
    · have := sizeL_mem h; omega
theorem sizeL_at (f : List Item) (k : Nat) : (f.getD k default).text.length ≤ sizeL f := by
  rcases Nat.lt_or_ge k f.length with h | h
  · have e : f.getD k default = f[k] := by simp [List.getD, h]
    rw [e]; exact sizeL_mem (List.getElem_mem h)
  · have e : f.getD k default = default := by simp [List.getD, List.getElem?_eq_none h]
    rw [e]; exact Nat.zero_le _
theorem lengthL_le (f : List Item) : 0 ≤ lengthL f ∧ lengthL f ≤ sizeL f + f.length := by
  induction f with
  | nil => simp [lengthL, sizeL]
  | cons x f ih =>
    have h1 : lengthL (x :: f) = widthL x + lengthL f := by simp [lengthL]
    have h2 : sizeL (x :: f) = x.text.length + sizeL f := by simp [sizeL]
    rw [h1, h2, List.length_cons]
    unfold widthL
    split <;> omega
/-- a fragment of a size that fits -/
def Small (f : List Item) : Prop := f.length ≤ 100000 ∧ sizeL f ≤ 1000000
def isTag (x : Item) : Bool := decide (x.kind = 2) || decide (x.kind = 3) || decide (x.kind = 4)
theorem isTag_iff (x : Item) : isTag x = true ↔ (x.kind = 2 ∨ x.kind = 3) ∨ x.kind = 4 := by simp [isTag]
/-- a tag 'y' ahead of 'x' that does not fit it -/
def clash (x y : Item) : Bool := isTag y && decide (y.id = x.id) && (decide (x.kind ≠ 3) || decide (y.kind ≠ 2) || decide (nameL y.text ≠ x.text))
/-- an item's form, behind the items 'b' -/
def formed (b : List Item) (x : Item) : Bool :=
  if x.kind = 1 then decide (x.text ≠ []) && decide (x.id = 0) && (decide (b = []) || decide ((b.getD (b.length - 1) default).kind ≠ 1))
  else if x.kind = 5 then isName x.text && decide (x.id = 0)
  else if x.kind = 2 ∨ x.kind = 4 then isContent x.text && decide (1 ≤ x.id) && decide (x.id ≤ 999)
  else if x.kind = 3 then isName x.text && decide (1 ≤ x.id) && decide (x.id ≤ 999)
  else false
def checkL (b : List Item) (x : Item) : Int := if formed b x = true then (if isTag x && b.any (clash x) then 7 else 0) else 1
def valGo : List Item → List Item → Int
  | _, [] => 0
  | b, x :: r => if checkL b x = 0 then valGo (b ++ [x]) r else checkL b x
def validateL (f : List Item) : Int := if 512 < f.length ∨ 1024 < lengthL f then 3 else valGo [] f
/-- joining the texts -/
def normStep (out : List Item) (x : Item) : List Item :=
  if x.kind = 1 then
    if x.text = [] then out
    else if out ≠ [] ∧ (out.getD (out.length - 1) default).kind = 1 then out.set (out.length - 1) ⟨1, (out.getD (out.length - 1) default).text ++ x.text, 0⟩
    else out ++ [⟨1, x.text, 0⟩]
  else out ++ [x]
def normL (f : List Item) : List Item := f.foldl normStep []
def piece (x : Item) (at_ from_ to_ : Int) : List Item :=
  if max from_ at_ < min to_ (at_ + widthL x) then [if x.kind = 1 then ⟨x.kind, (x.text.drop (max from_ at_ - at_).toNat).take ((min to_ (at_ + widthL x) - at_).toNat - (max from_ at_ - at_).toNat), x.id⟩ else x] else []
def pieces : List Item → Int → Int → Int → List Item
  | [], _, _, _ => []
  | x :: r, at_, from_, to_ => piece x at_ from_ to_ ++ pieces r (at_ + widthL x) from_ to_
def sliceL (f : List Item) (from_ to_ : Int) : List Item × Bool := if from_ < 0 ∨ to_ < from_ ∨ lengthL f < to_ then ([], false) else (pieces f 0 from_ to_, true)
theorem width_bd (x : Item) : 0 ≤ widthL x ∧ widthL x ≤ (x.text.length : Int) + 1 := by unfold widthL; split <;> omega
theorem getD_take {α : Type} (f : List α) (d : α) (i j : Nat) (h : j < i) : (f.take i).getD j d = f.getD j d := by
  simp only [List.getD_eq_getElem?_getD, List.getElem?_take, if_pos h]
theorem take_nil_iff {α : Type} {f : List α} {i : Nat} (hi : i < f.length) : f.take i = [] ↔ i = 0 := by
  constructor
  · intro h
    have : (f.take i).length = 0 := by rw [h]; rfl
    rw [List.length_take] at this; omega
  · intro h; subst h; rfl
theorem formed_text {f : List Item} {i : Nat} (hi : i < f.length) (hk : (f.getD i default).kind = 1) :
    formed (f.take i) (f.getD i default) = true ↔ ((¬ (f.getD i default).text = [] ∧ (f.getD i default).id = 0) ∧ ((i : Int) = 0 ∨ ¬ (f.getD (i - 1) default).kind = 1)) := by
  unfold formed
  rw [if_pos hk]
  simp only [Bool.and_eq_true, Bool.or_eq_true, decide_eq_true_eq, ne_eq, take_nil_iff hi]
  have hl : (f.take i).length = i := by simp; omega
  rw [hl]
  by_cases h0 : i = 0
  · simp [h0]
  · rw [getD_take f default i (i - 1) (by omega)]
    have : ¬ ((i : Int) = 0) := by omega
    simp [h0]
theorem formed_slot {b : List Item} {x : Item} (hk : x.kind = 5) : formed b x = true ↔ (isName x.text = true ∧ x.id = 0) := by
  unfold formed
  rw [if_neg (by omega), if_pos hk]
  simp
theorem formed_open {b : List Item} {x : Item} (hk : x.kind = 2 ∨ x.kind = 4) : formed b x = true ↔ ((isContent x.text = true ∧ 1 ≤ x.id) ∧ x.id ≤ 999) := by
  unfold formed
  rw [if_neg (by omega), if_neg (by omega), if_pos hk]
  simp
theorem formed_close {b : List Item} {x : Item} (hk : x.kind = 3) : formed b x = true ↔ ((isName x.text = true ∧ 1 ≤ x.id) ∧ x.id ≤ 999) := by
  unfold formed
  rw [if_neg (by omega), if_neg (by omega), if_neg (by omega), if_pos hk]
  simp
theorem formed_other {b : List Item} {x : Item} (h1 : ¬ x.kind = 1) (h5 : ¬ x.kind = 5) (h2 : ¬ x.kind = 2) (h4 : ¬ x.kind = 4) (h3 : ¬ x.kind = 3) : formed b x = false := by
  unfold formed
  rw [if_neg h1, if_neg h5, if_neg (by omega), if_neg h3]
theorem clash_iff (x y : Item) : clash x y = true ↔ (isTag y = true ∧ y.id = x.id) ∧ ((¬ x.kind = 3 ∨ ¬ y.kind = 2) ∨ ¬ nameL y.text = x.text) := by
  unfold clash
  simp [or_assoc]
theorem clash_no1 {x y : Item} (h : (!isTag y) = true ∨ ¬ y.id = x.id) : clash x y = false := by
  rw [← Bool.not_eq_true, clash_iff]
  rintro ⟨⟨h1, h2⟩, _⟩
  rcases h with h | h
  · rw [h1] at h; cases h
  · exact h h2
theorem clash_no2 {x y : Item} (h : ¬ ((¬ x.kind = 3 ∨ ¬ y.kind = 2) ∨ ¬ nameL y.text = x.text)) : clash x y = false := by
  rw [← Bool.not_eq_true, clash_iff]
  rintro ⟨_, h1⟩
  exact h h1
theorem clash_yes {x y : Item} (h : ¬ ((!isTag y) = true ∨ ¬ y.id = x.id)) (h2 : (¬ x.kind = 3 ∨ ¬ y.kind = 2) ∨ ¬ nameL y.text = x.text) : clash x y = true := by
  rw [clash_iff]
  refine ⟨⟨?_, ?_⟩, h2⟩
  · exact Decidable.byContradiction fun h3 => h (.inl (by simpa using h3))
  · exact Decidable.byContradiction fun h3 => h (.inr h3)
theorem any_yes {α : Type} {p : α → Bool} {d : α} {l : List α} (k : Nat) (hk : k < l.length) (h : p (l.getD k d) = true) : l.any p = true := by
  rw [List.any_eq_true]
  have e : l.getD k d = l[k] := by simp [List.getD, hk]
  rw [e] at h
  exact ⟨_, List.getElem_mem hk, h⟩
theorem any_no {α : Type} {p : α → Bool} {d : α} {l : List α} (h : ∀ j, j < l.length → p (l.getD j d) = false) : l.any p = false := by
  rw [List.any_eq_false]
  intro x hx
  obtain ⟨j, hj, rfl⟩ := List.getElem_of_mem hx
  have h2 := h j hj
  have e : l.getD j d = l[j] := by simp [List.getD, hj]
  rw [e] at h2
  simp [h2]
theorem drop_getD' {α : Type} (d : α) (l : List α) (k : Nat) (h : k < l.length) : l.drop k = l.getD k d :: l.drop (k + 1) := by
  rw [List.drop_eq_getElem_cons h]; simp [List.getD, h]
theorem valGo_at (f : List Item) (k : Nat) (h : k < f.length) : valGo (f.take k) (f.drop k) = if checkL (f.take k) (f.getD k default) = 0 then valGo (f.take (k + 1)) (f.drop (k + 1)) else checkL (f.take k) (f.getD k default) := by
  rw [drop_getD' default f k h]
  conv => lhs; unfold valGo
  rw [take_succD f k h]
theorem val_ok {f : List Item} {k : Nat} (h : k < f.length) (hc : checkL (f.take k) (f.getD k default) = 0) : valGo (f.take k) (f.drop k) = valGo (f.take (k + 1)) (f.drop (k + 1)) := by rw [valGo_at f k h, if_pos hc]
theorem val_no {f : List Item} {k : Nat} (h : k < f.length) (hc : ¬ checkL (f.take k) (f.getD k default) = 0) : valGo (f.take k) (f.drop k) = checkL (f.take k) (f.getD k default) := by rw [valGo_at f k h, if_neg hc]
theorem val_end {f : List Item} {k : Nat} (h : f.length ≤ k) : valGo (f.take k) (f.drop k) = 0 := by rw [List.drop_eq_nil_of_le h]; unfold valGo; rfl
theorem val_start {f : List Item} (h : ¬ (512 < (f.length : Int) ∨ 1024 < lengthL f)) : validateL f = valGo [] f := by unfold validateL; rw [if_neg (by omega)]
theorem val_limit {f : List Item} (h : 512 < (f.length : Int) ∨ 1024 < lengthL f) : validateL f = 3 := by unfold validateL; rw [if_pos (by omega)]
theorem check_bad {b : List Item} {x : Item} (h : ¬ formed b x = true) : checkL b x = 1 := by unfold checkL; rw [if_neg h]
theorem check_tag {b : List Item} {x : Item} (h : formed b x = true) (h2 : isTag x = true) (h3 : b.any (clash x) = true) : checkL b x = 7 := by unfold checkL; rw [if_pos h, h2, h3]; rfl
theorem check_ok {b : List Item} {x : Item} (h : formed b x = true) (h2 : ¬ (isTag x = true ∧ b.any (clash x) = true)) : checkL b x = 0 := by
  unfold checkL; rw [if_pos h, if_neg (by simpa using h2)]
theorem notag_of {x : Item} (h : x.kind = 1 ∨ x.kind = 5) : ¬ isTag x = true := by rw [isTag_iff]; omega
theorem small_take {f : List Item} (h : Small f) (k : Nat) : Small (f.take k) := ⟨by have := h.1; rw [List.length_take]; omega, by have := sizeL_take f k; have := h.2; omega⟩
theorem formed_textb {b : List Item} {x : Item} (hk : x.kind = 1) : formed b x = true ↔ ((¬ x.text = [] ∧ x.id = 0) ∧ (b = [] ∨ ¬ (b.getD (b.length - 1) default).kind = 1)) := by
  unfold formed
  rw [if_pos hk]
  simp only [Bool.and_eq_true, Bool.or_eq_true, decide_eq_true_eq, ne_eq]
theorem chk_notag {b : List Item} {x : Item} (hk : x.kind = 1 ∨ x.kind = 5) (h : formed b x = true) : checkL b x = 0 := check_ok h (fun h2 => notag_of hk h2.1)
theorem chk_text_bad {b : List Item} {x : Item} (hk : x.kind = 1) (h : (x.text = [] ∨ ¬ x.id = 0) ∨ ((0 : Int) < (b.length : Nat) ∧ (b.getD (b.length - 1) default).kind = 1)) : checkL b x = 1 := check_bad (fun h2 => by
  have h3 := (formed_textb hk).1 h2
  rcases h with (h | h) | ⟨h4, h⟩
  · exact h3.1.1 h
  · exact h h3.1.2
  · rcases h3.2 with h5 | h5
    · subst h5; simp at h4
    · exact h5 h)
theorem chk_text_ok {b : List Item} {x : Item} (hk : x.kind = 1) (h : ¬ ((x.text = [] ∨ ¬ x.id = 0) ∨ ((0 : Int) < (b.length : Nat) ∧ (b.getD (b.length - 1) default).kind = 1))) : checkL b x = 0 := chk_notag (.inl hk) ((formed_textb hk).2 (by
  refine ⟨⟨fun h2 => h (.inl (.inl h2)), Decidable.byContradiction fun h2 => h (.inl (.inr h2))⟩, ?_⟩
  by_cases hb : b = []
  · exact .inl hb
  · refine .inr fun h2 => h (.inr ⟨?_, h2⟩)
    have := List.length_pos_iff.2 hb
    omega))
theorem chk_slot_bad {b : List Item} {x : Item} (hk : x.kind = 5) (h : (!isName x.text) = true ∨ ¬ x.id = 0) : checkL b x = 1 := check_bad (fun h2 => by
  have h3 := (formed_slot hk).1 h2
  rcases h with h | h
  · rw [h3.1] at h; cases h
  · exact h h3.2)
theorem chk_slot_ok {b : List Item} {x : Item} (hk : x.kind = 5) (h : ¬ ((!isName x.text) = true ∨ ¬ x.id = 0)) : checkL b x = 0 := chk_notag (.inr hk) ((formed_slot hk).2 ⟨by
  cases h2 : isName x.text
  · exact absurd (.inl (by rw [h2]; rfl)) h
  · rfl, Decidable.byContradiction fun h2 => h (.inr h2)⟩)
theorem chk_open_bad {b : List Item} {x : Item} (hk : x.kind = 2 ∨ x.kind = 4) (h : ((!isContent x.text) = true ∨ x.id < 1) ∨ 999 < x.id) : checkL b x = 1 := check_bad (fun h2 => by
  have h3 := (formed_open hk).1 h2
  rcases h with (h | h) | h
  · rw [h3.1.1] at h; cases h
  · omega
  · omega)
theorem form_open {b : List Item} {x : Item} (hk : x.kind = 2 ∨ x.kind = 4) (h : ¬ (((!isContent x.text) = true ∨ x.id < 1) ∨ 999 < x.id)) : formed b x = true ∧ isTag x = true := by
  refine ⟨(formed_open hk).2 ⟨⟨?_, by omega⟩, by omega⟩, by rw [isTag_iff]; omega⟩
  cases h2 : isContent x.text
  · exact absurd (.inl (.inl (by rw [h2]; rfl))) h
  · rfl
theorem chk_close_bad {b : List Item} {x : Item} (hk : x.kind = 3) (h : ((!isName x.text) = true ∨ x.id < 1) ∨ 999 < x.id) : checkL b x = 1 := check_bad (fun h2 => by
  have h3 := (formed_close hk).1 h2
  rcases h with (h | h) | h
  · rw [h3.1.1] at h; cases h
  · omega
  · omega)
theorem form_close {b : List Item} {x : Item} (hk : x.kind = 3) (h : ¬ (((!isName x.text) = true ∨ x.id < 1) ∨ 999 < x.id)) : formed b x = true ∧ isTag x = true := by
  refine ⟨(formed_close hk).2 ⟨⟨?_, by omega⟩, by omega⟩, by rw [isTag_iff]; omega⟩
  cases h2 : isName x.text
  · exact absurd (.inl (.inl (by rw [h2]; rfl))) h
  · rfl
theorem chk_other {b : List Item} {x : Item} (h1 : ¬ x.kind = 1) (h5 : ¬ x.kind = 5) (h2 : ¬ x.kind = 2) (h4 : ¬ x.kind = 4) (h3 : ¬ x.kind = 3) : checkL b x = 1 := check_bad (by rw [formed_other h1 h5 h2 h4 h3]; simp)
/-! slices -/
theorem pieces_append (fr to_ : Int) : ∀ (f g : List Item) (at_ : Int), pieces (f ++ g) at_ fr to_ = pieces f at_ fr to_ ++ pieces g (at_ + lengthL f) fr to_
  | [], g, at_ => by simp [pieces, lengthL]
  | x :: f, g, at_ => by
    have h : lengthL (x :: f) = widthL x + lengthL f := by simp [lengthL]
    rw [List.cons_append, pieces, pieces_append fr to_ f g, pieces, h, List.append_assoc, Int.add_assoc]
theorem pieces_succ (f : List Item) (k : Nat) (fr to_ : Int) (h : k < f.length) : pieces (f.take (k + 1)) 0 fr to_ = pieces (f.take k) 0 fr to_ ++ piece (f.getD k default) (lengthL (f.take k)) fr to_ := by
  rw [take_succD f k h, pieces_append, Int.zero_add]
  simp [pieces]
theorem piece_text {x : Item} {at_ fr to_ : Int} (h : max fr at_ < min to_ (at_ + widthL x)) (hk : x.kind = 1) :
    piece x at_ fr to_ = [⟨x.kind, (x.text.drop (max fr at_ - at_).toNat).take ((min to_ (at_ + widthL x) - at_).toNat - (max fr at_ - at_).toNat), x.id⟩] := by unfold piece; rw [if_pos h, if_pos hk]
theorem piece_other {x : Item} {at_ fr to_ : Int} (h : max fr at_ < min to_ (at_ + widthL x)) (hk : ¬ x.kind = 1) : piece x at_ fr to_ = [x] := by unfold piece; rw [if_pos h, if_neg hk]
theorem piece_none {x : Item} {at_ fr to_ : Int} (h : ¬ max fr at_ < min to_ (at_ + widthL x)) : piece x at_ fr to_ = [] := by unfold piece; rw [if_neg h]
theorem width_text {x : Item} (hk : x.kind = 1) : widthL x = (x.text.length : Int) := by unfold widthL; rw [if_pos hk]
theorem width_other {x : Item} (hk : ¬ x.kind = 1) : widthL x = 1 := by unfold widthL; rw [if_neg hk]
theorem piece_text2 {x : Item} {at_ fr to_ : Int} (hk : x.kind = 1) (h : max fr at_ - at_ < min to_ (at_ + (x.text.length : Nat)) - at_) :
    piece x at_ fr to_ = [⟨1, (x.text.drop (max fr at_ - at_).toNat).take ((min to_ (at_ + (x.text.length : Nat)) - at_).toNat - (max fr at_ - at_).toNat), x.id⟩] := by
  rw [← width_text hk] at h ⊢
  rw [piece_text (by omega) hk, hk]
theorem pieces_len (f : List Item) (k : Nat) (fr to_ : Int) : (pieces (f.take k) 0 fr to_).length ≤ k := by
  have h : ∀ (g : List Item) (at_ : Int), (pieces g at_ fr to_).length ≤ g.length := fun g => by
    induction g with
    | nil => intro at_; simp [pieces]
    | cons x g ih =>
      intro at_
      rw [pieces, List.length_append, List.length_cons]
      have := ih (at_ + widthL x)
      have hp : (piece x at_ fr to_).length ≤ 1 := by unfold piece; split <;> simp
      omega
  have := h (f.take k) 0
  rw [List.length_take] at this
  omega
/-! normal forms -/
theorem normL_snoc (l : List Item) (x : Item) : normL (l ++ [x]) = normStep (normL l) x := by unfold normL; rw [List.foldl_append]; rfl
theorem normL_succ (f : List Item) (k : Nat) (h : k < f.length) : normL (f.take (k + 1)) = normStep (normL (f.take k)) (f.getD k default) := by rw [take_succD f k h, normL_snoc]
theorem norm_other {o : List Item} {x : Item} (h : ¬ x.kind = 1) : normStep o x = o ++ [x] := by unfold normStep; rw [if_neg h]
theorem norm_empty {o : List Item} {x : Item} (h : x.kind = 1) (h2 : x.text = []) : normStep o x = o := by unfold normStep; rw [if_pos h, if_pos h2]
theorem norm_join {o : List Item} {x : Item} (h : x.kind = 1) (h2 : ¬ x.text = []) (h3 : (0 : Int) < (o.length : Nat) ∧ (o.getD (o.length - 1) default).kind = 1) :
    normStep o x = o.set (o.length - 1) ⟨1, (o.getD (o.length - 1) default).text ++ x.text, 0⟩ := by
  unfold normStep
  have : o ≠ [] := by intro e; subst e; simp at h3
  rw [if_pos h, if_neg h2, if_pos ⟨this, h3.2⟩]
theorem norm_add {o : List Item} {x : Item} (h : x.kind = 1) (h2 : ¬ x.text = []) (h3 : ¬ ((0 : Int) < (o.length : Nat) ∧ (o.getD (o.length - 1) default).kind = 1)) : normStep o x = o ++ [⟨1, x.text, 0⟩] := by
  unfold normStep
  rw [if_pos h, if_neg h2, if_neg (fun h4 => h3 ⟨by have := List.length_pos_iff.2 h4.1; omega, h4.2⟩)]
theorem getD_snoc {α : Type} (l : List α) (x d : α) : (l ++ [x]).getD l.length d = x := by simp [List.getD]
theorem set_snoc {α : Type} (l : List α) (x y : α) : (l ++ [x]).set l.length y = l ++ [y] := by simp
theorem norm_snoc_text {o : List Item} {y x : Item} (hy : y.kind = 1) (h : x.kind = 1) (h2 : ¬ x.text = []) : normStep (o ++ [y]) x = o ++ [⟨1, y.text ++ x.text, 0⟩] := by
  have hl : (o ++ [y]).length - 1 = o.length := by simp
  rw [norm_join h h2 (by rw [hl, getD_snoc]; exact ⟨by simp, hy⟩), hl, getD_snoc, set_snoc]
theorem norm_two (z : List Item) {y x : Item} (hy : y.kind = 1) (h : x.kind = 1) (j : Int) : normStep (normStep z y) x = normStep z ⟨1, y.text ++ x.text, j⟩ := by
  by_cases hx : x.text = []
  · rw [norm_empty h hx, hx, List.append_nil]
    unfold normStep
    rw [if_pos hy, if_pos rfl]
  · by_cases ht : y.text = []
    · rw [norm_empty hy ht, ht, List.nil_append]
      unfold normStep
      rw [if_pos h, if_pos rfl]
    · have hne : ¬ (y.text ++ x.text = []) := by simp [ht]
      by_cases h3 : (0 : Int) < (z.length : Nat) ∧ (z.getD (z.length - 1) default).kind = 1
      · have hz : z ≠ [] := by intro e; subst e; simp at h3
        obtain ⟨m, q, rfl⟩ : ∃ m q, z = m ++ [q] := ⟨z.dropLast, z.getLast hz, (List.dropLast_concat_getLast hz).symm⟩
        have hl : (m ++ [q]).length - 1 = m.length := by simp
        rw [hl, getD_snoc] at h3
        rw [norm_snoc_text h3.2 hy ht, norm_snoc_text rfl h hx, norm_snoc_text h3.2 (x := ⟨1, y.text ++ x.text, j⟩) rfl hne, List.append_assoc]
      · rw [norm_add hy ht h3, norm_snoc_text rfl h hx, norm_add (x := ⟨1, y.text ++ x.text, j⟩) rfl hne h3]
theorem norm_fold (o : List Item) (n : List Item) (x : Item) : (normStep n x).foldl normStep o = normStep (n.foldl normStep o) x := by
  by_cases hk : x.kind = 1
  · by_cases hx : x.text = []
    · rw [norm_empty hk hx, norm_empty hk hx]
    · by_cases h3 : (0 : Int) < (n.length : Nat) ∧ (n.getD (n.length - 1) default).kind = 1
      · have hz : n ≠ [] := by intro e; subst e; simp at h3
        obtain ⟨m, q, rfl⟩ : ∃ m q, n = m ++ [q] := ⟨n.dropLast, n.getLast hz, (List.dropLast_concat_getLast hz).symm⟩
        have hl : (m ++ [q]).length - 1 = m.length := by simp
        rw [hl, getD_snoc] at h3
        rw [norm_snoc_text h3.2 hk hx, List.foldl_append, List.foldl_append]
        exact (norm_two (m.foldl normStep o) h3.2 hk 0).symm
      · rw [norm_add hk hx h3, List.foldl_append, List.foldl_cons, List.foldl_nil]
        unfold normStep
        rw [if_pos rfl, if_pos hk]
  · rw [norm_other hk, List.foldl_append]; rfl
theorem snoc_cases {α : Type} {Q : List α → Prop} (h0 : Q []) (h1 : ∀ l x, Q l → Q (l ++ [x])) : ∀ (m : Nat) (l : List α), l.length = m → Q l
  | 0, l, h => by have := List.eq_nil_of_length_eq_zero h; subst this; exact h0
  | m + 1, l, h => by
    have hne : l ≠ [] := by intro e; subst e; simp at h
    rw [← List.dropLast_concat_getLast hne]
    exact h1 _ _ (snoc_cases h0 h1 m _ (by simp; omega))
theorem norm_absorb (o y : List Item) : (normL y).foldl normStep o = y.foldl normStep o := by
  refine snoc_cases (Q := fun y => (normL y).foldl normStep o = y.foldl normStep o) rfl (fun l x ih => ?_) _ y rfl
  rw [normL_snoc, norm_fold, ih, List.foldl_append]; rfl
theorem normL_left (x y : List Item) : normL (normL x ++ y) = normL (x ++ y) := by
  have h : normL (normL x) = normL x := norm_absorb [] x
  show (normL x ++ y).foldl normStep [] = (x ++ y).foldl normStep []
  rw [List.foldl_append, List.foldl_append]
  show y.foldl normStep (normL (normL x)) = _
  rw [h]; rfl
theorem normL_right (x y : List Item) : normL (x ++ normL y) = normL (x ++ y) := by
  show (x ++ normL y).foldl normStep [] = (x ++ y).foldl normStep []
  rw [List.foldl_append, List.foldl_append, norm_absorb]
theorem norm_assoc (f g h : List Item) : normL (normL (f ++ g) ++ h) = normL (f ++ normL (g ++ h)) := by rw [normL_left, normL_right, List.append_assoc]
theorem norm_ind {Q : List Item → List Item → Prop} (h0 : Q [] []) (h1 : ∀ l x, Q l (normL l) → Q (l ++ [x]) (normStep (normL l) x)) (f : List Item) : Q f (normL f) := by
  refine snoc_cases (Q := fun f => Q f (normL f)) h0 (fun l x ih => ?_) _ f rfl
  rw [normL_snoc]; exact h1 l x ih
/-- what a step of joining does -/
theorem norm_cases (o : List Item) (x : Item) : (x.kind = 1 ∧ x.text = [] ∧ normStep o x = o) ∨ (x.kind = 1 ∧ normStep o x = o ++ [⟨1, x.text, 0⟩]) ∨ (¬ x.kind = 1 ∧ normStep o x = o ++ [x]) ∨
    (x.kind = 1 ∧ ∃ m q, o = m ++ [q] ∧ q.kind = 1 ∧ normStep o x = m ++ [⟨1, q.text ++ x.text, 0⟩]) := by
  by_cases hk : x.kind = 1
  · by_cases hx : x.text = []
    · exact .inl ⟨hk, hx, norm_empty hk hx⟩
    · by_cases h3 : (0 : Int) < (o.length : Nat) ∧ (o.getD (o.length - 1) default).kind = 1
      · have hz : o ≠ [] := by intro e; subst e; simp at h3
        obtain ⟨m, q, rfl⟩ : ∃ m q, o = m ++ [q] := ⟨o.dropLast, o.getLast hz, (List.dropLast_concat_getLast hz).symm⟩
        have hl : (m ++ [q]).length - 1 = m.length := by simp
        rw [hl, getD_snoc] at h3
        exact .inr (.inr (.inr ⟨hk, m, q, rfl, h3.2, norm_snoc_text h3.2 hk hx⟩))
      · exact .inr (.inl ⟨hk, norm_add hk hx h3⟩)
  · exact .inr (.inr (.inl ⟨hk, norm_other hk⟩))
theorem sizeL_append (f g : List Item) : sizeL (f ++ g) = sizeL f + sizeL g := by simp [sizeL]
theorem sizeL_one (x : Item) : sizeL [x] = x.text.length := by simp [sizeL]
theorem lengthL_one (x : Item) : lengthL [x] = widthL x := by simp [lengthL]
theorem normL_len (f : List Item) : (normL f).length ≤ f.length := by
  refine norm_ind (Q := fun f n => n.length ≤ f.length) (by simp) (fun l x ih => ?_) f
  rcases norm_cases (normL l) x with ⟨_, _, e⟩ | ⟨_, e⟩ | ⟨_, e⟩ | ⟨_, m, q, e0, _, e⟩
  · rw [e]; simp; omega
  · rw [e]; simp; omega
  · rw [e]; simp; omega
  · rw [e]; rw [e0] at ih; simp at ih ⊢; omega
theorem normL_size (f : List Item) : sizeL (normL f) ≤ sizeL f := by
  refine norm_ind (Q := fun f n => sizeL n ≤ sizeL f) (by simp [sizeL]) (fun l x ih => ?_) f
  rw [sizeL_append, sizeL_one]
  rcases norm_cases (normL l) x with ⟨_, _, e⟩ | ⟨_, e⟩ | ⟨_, e⟩ | ⟨_, m, q, e0, _, e⟩
  · rw [e]; omega
  · rw [e, sizeL_append, sizeL_one]; dsimp only; omega
  · rw [e, sizeL_append, sizeL_one]; omega
  · rw [e, sizeL_append, sizeL_one]; rw [e0, sizeL_append, sizeL_one] at ih; dsimp only; rw [List.length_append]; omega
theorem normL_length (f : List Item) : lengthL (normL f) = lengthL f := by
  refine norm_ind (Q := fun f n => lengthL n = lengthL f) rfl (fun l x ih => ?_) f
  rw [lengthL_append, lengthL_one]
  rcases norm_cases (normL l) x with ⟨h1, h2, e⟩ | ⟨h1, e⟩ | ⟨h1, e⟩ | ⟨h1, m, q, e0, hq, e⟩
  · rw [e, width_text h1, h2, ih]; simp
  · rw [e, lengthL_append, lengthL_one, ih, width_text h1, width_text (x := ⟨1, x.text, 0⟩) rfl]
  · rw [e, lengthL_append, lengthL_one, ih]
  · rw [e, lengthL_append, lengthL_one]
    rw [e0, lengthL_append, lengthL_one, width_text hq] at ih
    rw [width_text h1, width_text (x := ⟨1, q.text ++ x.text, 0⟩) rfl, List.length_append]
    omega
def plainI (x : Item) : Str := if x.kind = 1 then x.text else if x.kind = 5 then [255] else []
def plainL (f : List Item) : Str := f.flatMap plainI
theorem plainL_append (f g : List Item) : plainL (f ++ g) = plainL f ++ plainL g := by simp [plainL]
theorem plainL_one (x : Item) : plainL [x] = plainI x := by simp [plainL]
theorem plainI_text {x : Item} (h : x.kind = 1) : plainI x = x.text := by unfold plainI; rw [if_pos h]
theorem plainI_slot {x : Item} (h : x.kind = 5) : plainI x = [255] := by unfold plainI; rw [if_neg (by omega), if_pos h]
theorem plainI_other {x : Item} (h : ¬ x.kind = 1) (h5 : ¬ x.kind = 5) : plainI x = [] := by unfold plainI; rw [if_neg h, if_neg h5]
theorem plainL_succ (f : List Item) (k : Nat) (h : k < f.length) : plainL (f.take (k + 1)) = plainL (f.take k) ++ plainI (f.getD k default) := by rw [take_succD f k h, plainL_append, plainL_one]
theorem plainI_len (x : Item) : (plainI x).length ≤ x.text.length + 1 := by
  by_cases h : x.kind = 1
  · rw [plainI_text h]; omega
  · by_cases h5 : x.kind = 5
    · rw [plainI_slot h5]; simp
    · rw [plainI_other h h5]; simp
theorem plainL_len (f : List Item) : (plainL f).length ≤ sizeL f + f.length := by
  induction f with
  | nil => simp [plainL]
  | cons x f ih =>
    have h1 : plainL (x :: f) = plainI x ++ plainL f := by simp [plainL]
    have h2 : sizeL (x :: f) = x.text.length + sizeL f := by simp [sizeL]
    have := plainI_len x
    rw [h1, h2, List.length_append, List.length_cons]
    omega
theorem normL_plain (f : List Item) : plainL (normL f) = plainL f := by
  refine norm_ind (Q := fun f n => plainL n = plainL f) rfl (fun l x ih => ?_) f
  rw [plainL_append, plainL_one]
  rcases norm_cases (normL l) x with ⟨h1, h2, e⟩ | ⟨h1, e⟩ | ⟨h1, e⟩ | ⟨h1, m, q, e0, hq, e⟩
  · rw [e, plainI_text h1, h2, ih]; simp
  · rw [e, plainL_append, plainL_one, ih, plainI_text h1, plainI_text (x := ⟨1, x.text, 0⟩) rfl]
  · rw [e, plainL_append, plainL_one, ih]
  · rw [e, plainL_append, plainL_one]
    rw [e0, plainL_append, plainL_one, plainI_text hq] at ih
    rw [plainI_text h1, plainI_text (x := ⟨1, q.text ++ x.text, 0⟩) rfl, ← ih, List.append_assoc]
/-- a run of texts -/
def joinT (o : List Item) (bs : Str) : List Item := if bs = [] then o else o ++ [⟨1, bs, 0⟩]
def lastNT (o : List Item) : Prop := ¬ ((0 : Int) < (o.length : Nat) ∧ (o.getD (o.length - 1) default).kind = 1)
theorem lastNT_snoc {o : List Item} {x : Item} (h : ¬ x.kind = 1) : lastNT (o ++ [x]) := by
  unfold lastNT
  have hl : (o ++ [x]).length - 1 = o.length := by simp
  rw [hl, getD_snoc]
  exact fun h2 => h h2.2
theorem lastNT_nil : lastNT [] := by unfold lastNT; simp
theorem join_step {o : List Item} {bs : Str} {x : Item} (ho : lastNT o) (hk : x.kind = 1) : normStep (joinT o bs) x = joinT o (bs ++ x.text) := by
  by_cases hx : x.text = []
  · rw [norm_empty hk hx, hx, List.append_nil]
  · by_cases hb : bs = []
    · subst hb
      unfold joinT
      rw [if_pos rfl, List.nil_append, if_neg hx, norm_add hk hx ho]
    · unfold joinT
      rw [if_neg hb, if_neg (by simp [hb]), norm_snoc_text rfl hk hx]
theorem joinT_nil (o : List Item) : joinT o [] = o := by unfold joinT; rw [if_pos rfl]
theorem joinT_no {o : List Item} {bs : Str} (h : ¬ (0 : Int) < (bs.length : Nat)) : joinT o bs = o := by
  have := List.eq_nil_of_length_eq_zero (show bs.length = 0 by omega)
  subst this; exact joinT_nil o
theorem joinT_yes {o : List Item} {bs : Str} (h : (0 : Int) < (bs.length : Nat)) : joinT o bs = o ++ [⟨1, bs, 0⟩] := by
  unfold joinT; rw [if_neg (by intro e; subst e; simp at h)]
theorem small_norm {f : List Item} (h : Small f) : Small (normL f) := ⟨by have := normL_len f; have := h.1; omega, by have := normL_size f; have := h.2; omega⟩
theorem few_small {f : List Item} (h : f.length ≤ 60 ∧ sizeL f ≤ 2000) : Small f := ⟨by omega, by omega⟩
end Go.Vc
