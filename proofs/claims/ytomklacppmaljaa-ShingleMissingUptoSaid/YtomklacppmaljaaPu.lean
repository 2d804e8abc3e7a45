/-
  Plain: small letters, classes of bytes, inflection. No program in sight.
-/
import Derived.Test.YtomklacppmaljaaPh
namespace Go.Vc
open Go
/-! ### bytes -/
def lwB (c : UInt8) : UInt8 := if 65 ≤ c.toNat ∧ c.toNat ≤ 90 then c + 32 else c
def lowS (s : Str) : Str := s.map lwB
theorem lwB_low (c : UInt8) : lwB (lwB c) = lwB c := by
  unfold lwB
  by_cases h : 65 ≤ c.toNat ∧ c.toNat ≤ 90
  · rw [if_pos h, if_neg]
    rw [UInt8.toNat_add]
    have h3 : (32 : UInt8).toNat = 32 := rfl
    omega
  · rw [if_neg h, if_neg h]
theorem lwB_no {c : UInt8} (h : ¬ (65 ≤ c.toNat ∧ c.toNat ≤ 90)) : lwB c = c := by unfold lwB; rw [if_neg h]
theorem lwB_nat {c : UInt8} (h : 65 ≤ c.toNat ∧ c.toNat ≤ 90) : (lwB c).toNat = c.toNat + 32 := by
  unfold lwB; rw [if_pos h, UInt8.toNat_add]
  have h3 : (32 : UInt8).toNat = 32 := rfl
  omega
theorem wrap8 {n : Int} (h1 : 0 ≤ n) (h2 : n ≤ 255) : IntKind.wrap .u8 n = n := by simp [IntKind.wrap, IntKind.bits, IntKind.signed]; omega
theorem low_add {c : UInt8} (h1 : 65 ≤ c.toNat) (h2 : c.toNat ≤ 90) : IntKind.wrap .u8 (IntKind.wrap .u8 (((c.toNat : Nat) : Int) + 97) - 65) = (((lwB c).toNat : Nat) : Int) := by
  rw [wrap8 (n := (((c.toNat : Nat) : Int) + 97)) (by omega) (by omega), wrap8 (by omega) (by omega), lwB_nat ⟨h1, h2⟩]; omega
theorem low_add2 {c : UInt8} (h1 : 65 ≤ c.toNat) (h2 : c.toNat ≤ 90) : IntKind.wrap .u8 (((c.toNat : Nat) : Int) + 32) = (((lwB c).toNat : Nat) : Int) := by
  rw [wrap8 (by omega) (by omega), lwB_nat ⟨h1, h2⟩]; omega
/-- the first 'k' bytes are small, the others as they were -/
def lowK (s : Str) (k : Nat) : Str := lowS (s.take k) ++ s.drop k
@[simp] theorem lowK_len (s : Str) (k : Nat) : (lowK s k).length = s.length := by simp [lowK, lowS]; omega
theorem lowK_zero (s : Str) : lowK s 0 = s := by simp [lowK, lowS]
theorem lowK_all {s : Str} {k : Nat} (h : s.length ≤ k) : lowK s k = lowS s := by unfold lowK; rw [List.take_of_length_le h, List.drop_eq_nil_of_le h, List.append_nil]
theorem lowK_split {s : Str} {k : Nat} (h : k < s.length) : lowK s k = lowS (s.take k) ++ s.getD k 0 :: s.drop (k + 1) := by
  unfold lowK; rw [List.drop_eq_getElem_cons h]; simp [List.getD, h]
theorem lowK_next {s : Str} {k : Nat} (h : k < s.length) : lowK s (k + 1) = lowS (s.take k) ++ lwB (s.getD k 0) :: s.drop (k + 1) := by
  have e : s.getD k 0 = s[k] := by simp [List.getD, h]
  unfold lowK lowS; rw [List.take_succ_eq_append_getElem h, List.map_append, List.append_assoc, e]; rfl
theorem lowK_get {s : Str} {k : Nat} (h : k < s.length) : (lowK s k).getD k default = s.getD k 0 := by
  have e : (lowS (s.take k)).length = k := by simp [lowS]; omega
  rw [lowK_split h, List.getD_eq_getElem?_getD, List.getElem?_append_right (by omega), e]; simp
theorem lowK_set {s : Str} {k : Nat} (h : k < s.length) : (lowK s k).set k (lwB (s.getD k 0)) = lowK s (k + 1) := by
  have e : (lowS (s.take k)).length = k := by simp [lowS]; omega
  rw [lowK_split h, lowK_next h, List.set_append_right _ _ (by omega), e, Nat.sub_self]; rfl
theorem lowK_keep {s : Str} {k : Nat} (h : k < s.length) (hn : ¬ (65 ≤ (s.getD k 0).toNat ∧ (s.getD k 0).toNat ≤ 90)) : lowK s (k + 1) = lowK s k := by
  rw [lowK_split h, lowK_next h, lwB_no hn]
@[simp] theorem lowS_len (s : Str) : (lowS s).length = s.length := by simp [lowS]
theorem lowS_low (s : Str) : lowS (lowS s) = lowS s := by
  simp only [lowS, List.map_map]
  exact List.map_congr_left (fun c _ => lwB_low c)
theorem lowS_nil {s : Str} : lowS s = [] ↔ s = [] := by simp [lowS]
theorem lowS_append (s t : Str) : lowS (s ++ t) = lowS s ++ lowS t := by simp [lowS]
/-- the class of a byte -/
def clsB (c : UInt8) : Int :=
  if c.toNat = 9 ∨ c.toNat = 10 ∨ c.toNat = 13 ∨ c.toNat = 32 then 2 else if c.toNat < 32 ∨ c.toNat = 127 then 1 else if 48 ≤ c.toNat ∧ c.toNat ≤ 57 then 3
  else if (97 ≤ c.toNat ∧ c.toNat ≤ 122) ∨ (65 ≤ c.toNat ∧ c.toNat ≤ 90) ∨ 128 ≤ c.toNat then 4 else 5
theorem cls_space {c : UInt8} (h : c.toNat = 9 ∨ c.toNat = 10 ∨ c.toNat = 13 ∨ c.toNat = 32) : clsB c = 2 := by unfold clsB; rw [if_pos h]
theorem cls_control {c : UInt8} (h1 : ¬ (c.toNat = 9 ∨ c.toNat = 10 ∨ c.toNat = 13 ∨ c.toNat = 32)) (h : c.toNat < 32 ∨ c.toNat = 127) : clsB c = 1 := by unfold clsB; rw [if_neg h1, if_pos h]
theorem cls_digit {c : UInt8} (h : 48 ≤ c.toNat ∧ c.toNat ≤ 57) : clsB c = 3 := by unfold clsB; rw [if_neg (by omega), if_neg (by omega), if_pos h]
theorem cls_letter {c : UInt8} (h : (97 ≤ c.toNat ∧ c.toNat ≤ 122) ∨ (65 ≤ c.toNat ∧ c.toNat ≤ 90) ∨ 128 ≤ c.toNat) : clsB c = 4 := by unfold clsB; rw [if_neg (by omega), if_neg (by omega), if_neg (by omega), if_pos h]
theorem cls_mark {c : UInt8} (h1 : ¬ (c.toNat = 9 ∨ c.toNat = 10 ∨ c.toNat = 13 ∨ c.toNat = 32)) (h2 : ¬ (c.toNat < 32 ∨ c.toNat = 127)) (h3 : ¬ (48 ≤ c.toNat ∧ c.toNat ≤ 57)) (h : ¬ ((97 ≤ c.toNat ∧ c.toNat ≤ 122) ∨ (65 ≤ c.toNat ∧ c.toNat ≤ 90) ∨ 128 ≤ c.toNat)) : clsB c = 5 := by unfold clsB; rw [if_neg h1, if_neg h2, if_neg h3, if_neg h]
def smlB (c : UInt8) : Bool := decide (clsB c = 4) && decide (lwB c = c)
def smallL (s : Str) : Bool := s.all (fun c => decide (clsB c = 4)) && decide (lowS s = s)
theorem map_id_iff {s : Str} : lowS s = s ↔ ∀ c ∈ s, lwB c = c := by
  unfold lowS
  constructor
  · intro h c hc
    obtain ⟨i, hi, rfl⟩ := List.mem_iff_getElem.1 hc
    have := congrArg (fun l : Str => l[i]?) h
    simpa [hi] using this
  · intro h
    conv => rhs; rw [← List.map_id s]
    exact List.map_congr_left h
theorem small_all (s : Str) : smallL s = s.all smlB := by
  rw [Bool.eq_iff_iff]
  simp only [smallL, smlB, Bool.and_eq_true, List.all_eq_true, decide_eq_true_eq, map_id_iff]
  exact ⟨fun h c hc => ⟨h.1 c hc, h.2 c hc⟩, fun h => ⟨fun c hc => (h c hc).1, fun c hc => (h c hc).2⟩⟩
theorem all_at {p : UInt8 → Bool} {s : Str} (h : ∀ j, j < s.length → p (s.getD j 0) = true) : s.all p = true := by
  rw [List.all_eq_true]
  intro c hc
  obtain ⟨i, hi, rfl⟩ := List.mem_iff_getElem.1 hc
  have := h i hi
  simpa [List.getD, hi] using this
theorem all_not {p : UInt8 → Bool} {s : Str} {k : Nat} (hk : k < s.length) (h : ¬ p (s.getD k 0) = true) : s.all p = false := by
  rw [← Bool.not_eq_true, List.all_eq_true]
  intro h2
  exact h (h2 _ (by simp [List.getD, hk]))
theorem small_yes {s : Str} (h : ∀ j, j < s.length → clsB (s.getD j 0) = 4) : smallL s = decide (lowS s = s) := by
  unfold smallL; rw [all_at (p := fun c => decide (clsB c = 4)) (fun j hj => decide_eq_true (h j hj)), Bool.true_and]
theorem small_bad {s : Str} {k : Nat} (hk : k < s.length) (h : ¬ clsB (s.getD k 0) = 4) : smallL s = false := by
  unfold smallL; rw [all_not (p := fun c => decide (clsB c = 4)) hk (fun h2 => h (of_decide_eq_true h2)), Bool.false_and]
theorem one_at {s : Str} {k : Nat} (h : k < s.length) : (s.drop k).take (k + 1 - k) = [s.getD k 0] := by
  have e : k + 1 - k = 1 := by omega
  have e2 : s.getD k 0 = s[k] := by simp [List.getD, h]
  rw [e, List.drop_eq_getElem_cons h, e2]; rfl
theorem sml_one {s : Str} {k : Nat} (h : k < s.length) (h2 : ¬ (¬ clsB (s.getD k 0) = 4 ∨ ¬ lowS ((s.drop k).take (k + 1 - k)) = (s.drop k).take (k + 1 - k))) : smlB (s.getD k 0) = true := by
  have h3 := not_or.1 h2
  have h4 := Classical.not_not.1 h3.2
  rw [one_at h] at h4
  unfold smlB
  rw [Bool.and_eq_true, decide_eq_true_eq, decide_eq_true_eq]
  exact ⟨Classical.not_not.1 h3.1, by simpa [lowS] using h4⟩
theorem sml_bad {s : Str} {k : Nat} (h : k < s.length) (h2 : ¬ clsB (s.getD k 0) = 4 ∨ ¬ lowS ((s.drop k).take (k + 1 - k)) = (s.drop k).take (k + 1 - k)) : smallL s = false := by
  rw [small_all]
  refine all_not h (fun h3 => ?_)
  unfold smlB at h3
  rw [Bool.and_eq_true, decide_eq_true_eq, decide_eq_true_eq] at h3
  rcases h2 with h2 | h2
  · exact h2 h3.1
  · rw [one_at h] at h2; exact h2 (by simpa [lowS] using h3.2)
/-! ### an ascending list without repetition -/
def addS : List Str → Str → List Str
  | [], s => [s]
  | y :: l, s => if s ≤ y then (if s < y then s :: y :: l else y :: l) else y :: addS l s
theorem addS_at : ∀ (l : List Str) (s : Str) (k : Nat), k < l.length → (∀ j, j < k → ¬ s ≤ l.getD j default) → s ≤ l.getD k default → l.take k ++ (if s < l.getD k default then [s] else []) ++ l.drop k = addS l s
  | [], s, k, hk, _, _ => by simp at hk
  | y :: l, s, 0, _, _, h => by
    have h1 : s ≤ y := by simpa using h
    unfold addS; rw [if_pos h1]
    show [] ++ (if s < y then [s] else []) ++ y :: l = _
    split <;> rfl
  | y :: l, s, k + 1, hk, h0, h => by
    have h1 : ¬ s ≤ y := by simpa using h0 0 (by omega)
    have ih := addS_at l s k (by simpa using hk) (fun j hj => by simpa using h0 (j + 1) (by omega)) (by simpa using h)
    unfold addS; rw [if_neg h1, ← ih]; rfl
theorem addS_end : ∀ (l : List Str) (s : Str), (∀ j, j < l.length → ¬ s ≤ l.getD j default) → l ++ [s] = addS l s
  | [], s, _ => rfl
  | y :: l, s, h0 => by
    have h1 : ¬ s ≤ y := by simpa using h0 0 (by simp)
    have ih := addS_end l s (fun j hj => by simpa using h0 (j + 1) (by simpa using hj))
    unfold addS; rw [if_neg h1, ← ih]; rfl
/-- how far the reference's Add has come -/
def AddR (d : Bool) (o l : List Str) (x : Str) (k : Nat) : Prop := (d = true ∧ o ++ l.drop k = addS l x) ∨ (d = false ∧ o = l.take k ∧ ∀ j, j < k → ¬ x ≤ l.getD j default)
section
variable {d : Bool} {o l : List Str} {x : Str} {k : Nat}
theorem addR_zero : AddR false [] l x 0 := .inr ⟨rfl, rfl, fun j h => by omega⟩
theorem drop_getD (hk : k < l.length) : l.drop k = l.getD k default :: l.drop (k + 1) := by rw [List.drop_eq_getElem_cons hk]; simp [List.getD, hk]
theorem addR_ins (h : AddR d o l x k) (hk : k < l.length) (h1 : ¬ d = true) (h2 : x ≤ l.getD k default) (h3 : x < l.getD k default) : AddR true ((o ++ [x]) ++ [l.getD k default]) l x (k + 1) := by
  rcases h with h | ⟨_, h4, h5⟩
  · exact absurd h.1 h1
  · refine .inl ⟨rfl, ?_⟩
    rw [← addS_at l x k hk h5 h2, if_pos h3, h4, drop_getD hk]; simp
theorem addR_eq (h : AddR d o l x k) (hk : k < l.length) (h1 : ¬ d = true) (h2 : x ≤ l.getD k default) (h3 : ¬ x < l.getD k default) : AddR true (o ++ [l.getD k default]) l x (k + 1) := by
  rcases h with h | ⟨_, h4, h5⟩
  · exact absurd h.1 h1
  · refine .inl ⟨rfl, ?_⟩
    rw [← addS_at l x k hk h5 h2, if_neg h3, h4, drop_getD hk]; simp
theorem addR_go (h : AddR d o l x k) (hk : k < l.length) (h1 : d = true ∨ ¬ x ≤ l.getD k default) : AddR d (o ++ [l.getD k default]) l x (k + 1) := by
  rcases h with ⟨h2, h3⟩ | ⟨h2, h4, h5⟩
  · refine .inl ⟨h2, ?_⟩
    rw [← h3, drop_getD hk]; simp
  · refine .inr ⟨h2, by rw [h4, take_succD l k hk], fun j hj => ?_⟩
    rcases Nat.lt_or_ge j k with h6 | h6
    · exact h5 j h6
    · have : j = k := by omega
      subst this
      exact h1.elim (fun h7 => by rw [h2] at h7; cases h7) id
theorem addR_done (h : AddR d o l x k) (hk : l.length ≤ k) (h1 : d = true) : o = addS l x := by
  rcases h with ⟨_, h3⟩ | ⟨h2, _⟩
  · rw [List.drop_eq_nil_of_le hk, List.append_nil] at h3; exact h3
  · rw [h2] at h1; cases h1
theorem addR_last (h : AddR d o l x k) (hk : l.length ≤ k) (h1 : ¬ d = true) : o ++ [x] = addS l x := by
  rcases h with ⟨h2, _⟩ | ⟨_, h4, h5⟩
  · exact absurd h2 h1
  · rw [h4, List.take_of_length_le hk]; exact addS_end l x (fun j hj => h5 j (by omega))
end
theorem slt_iff (a b : Str) : blt a b = true ↔ a < b := by
  have h1 : blt a b = decide (a < b) := by unfold blt; exact Go.Proofs.bytesLess_eq a b
  rw [h1, decide_eq_true_iff]
theorem addS_mem : ∀ {l : List Str} {s x : Str}, x ∈ addS l s ↔ x ∈ l ∨ x = s
  | [], s, x => by simp [addS]
  | y :: l, s, x => by
    unfold addS
    split
    · rename_i h1
      split
      · simp only [List.mem_cons]
        constructor
        · rintro (h | h)
          · exact .inr h
          · exact .inl h
        · rintro (h | h)
          · exact .inr h
          · exact .inl h
      · rename_i h2
        have e : y = s := List.le_antisymm (List.not_lt.1 h2) h1
        subst e
        constructor
        · exact fun h => .inl h
        · rintro (h | h)
          · exact h
          · subst h; simp
    · rw [List.mem_cons, addS_mem, List.mem_cons, or_assoc]
theorem addS_len : ∀ (l : List Str) (s : Str), (addS l s).length ≤ l.length + 1
  | [], s => by simp [addS]
  | y :: l, s => by
    have := addS_len l s
    unfold addS
    split
    · split <;> simp
    · simp; omega
section
variable {d : Bool} {o l : List Str} {x : Str} {k : Nat}
theorem addR_ins2 (h : AddR d o l x k) (hk : k < l.length) (h1 : ¬ d = true ∧ (blt x (l.getD k default) || x == l.getD k default) = true) (h3 : blt x (l.getD k default) = true) : AddR true ((o ++ [x]) ++ [l.getD k default]) l x (k + 1) := addR_ins h hk h1.1 ((sleq_iff _ _).1 h1.2) ((slt_iff _ _).1 h3)
theorem addR_eq2 (h : AddR d o l x k) (hk : k < l.length) (h1 : ¬ d = true ∧ (blt x (l.getD k default) || x == l.getD k default) = true) (h3 : ¬ blt x (l.getD k default) = true) : AddR true (o ++ [l.getD k default]) l x (k + 1) := addR_eq h hk h1.1 ((sleq_iff _ _).1 h1.2) (fun h4 => h3 ((slt_iff _ _).2 h4))
theorem addR_go2 (h : AddR d o l x k) (hk : k < l.length) (h1 : ¬ (¬ d = true ∧ (blt x (l.getD k default) || x == l.getD k default) = true)) : AddR d (o ++ [l.getD k default]) l x (k + 1) := addR_go h hk (by
  by_cases hd : d = true
  · exact .inl hd
  · exact .inr (fun h2 => h1 ⟨hd, (sleq_iff _ _).2 h2⟩))
end
theorem addR_len {d : Bool} {o l : List Str} {x : Str} {k : Nat} (h : AddR d o l x k) (hk : k ≤ l.length) : o.length ≤ k + 1 := by
  rcases h with ⟨_, h3⟩ | ⟨_, h4, _⟩
  · have h5 := congrArg List.length h3
    have h6 := addS_len l x
    rw [List.length_append, List.length_drop] at h5
    omega
  · rw [h4, List.length_take]; omega
theorem addS_sorted : ∀ {l : List Str} (s : Str), l.Pairwise (fun a b => a < b) → (addS l s).Pairwise (fun a b => a < b)
  | [], s, _ => List.pairwise_singleton _ _
  | y :: l, s, h => by
    obtain ⟨h1, h2⟩ := List.pairwise_cons.1 h
    unfold addS
    split
    · split
      · rename_i h3
        refine List.pairwise_cons.2 ⟨fun x hx => ?_, h⟩
        rcases List.mem_cons.1 hx with rfl | h4
        · exact h3
        · exact List.lt_trans h3 (h1 x h4)
      · exact h
    · rename_i hy
      refine List.pairwise_cons.2 ⟨fun x hx => ?_, addS_sorted s h2⟩
      rcases addS_mem.1 hx with h3 | h3
      · exact h1 x h3
      · rw [h3]; exact List.not_le.1 hy
theorem nodup_of_lt {l : List Str} (h : l.Pairwise (fun a b => a < b)) : l.Nodup := h.imp (fun {a b} h e => by subst e; exact List.lt_irrefl a h)
theorem sorted_keys {ks l : List Str} (hn : ks.Nodup) (hl : l.Pairwise (fun a b => a < b)) (h : ∀ x, x ∈ ks ↔ x ∈ l) : sortS ks = l := by
  have hp : l.Perm ks := (List.perm_ext_iff_of_nodup (nodup_of_lt hl) hn).2 (fun x => (h x).symm)
  have h3 := mergeSort_of_perm hp
  have h4 : l.mergeSort leB = l := List.mergeSort_of_pairwise (hl.imp (fun h => by simpa [leB] using List.le_of_lt h))
  show ks.mergeSort leB = _
  rw [← h3, h4]
/-! ### endings -/
structure Ende where
  strip : Str
  add : Str
deriving DecidableEq, Inhabited
structure Clas where
  name : Str
  ends : List Ende
deriving DecidableEq, Inhabited
def turnL (s suf y : Str) : Option Str := if suf <:+ s then some (s.take (s.length - suf.length) ++ y) else none
theorem suffix_iff {s suf : Str} : suf <:+ s ↔ suf.length ≤ s.length ∧ s.drop (s.length - suf.length) = suf := by
  constructor
  · intro h
    refine ⟨h.length_le, ?_⟩
    obtain ⟨p, rfl⟩ := h
    simp
  · rintro ⟨_, h⟩
    exact ⟨s.take (s.length - suf.length), (congrArg (fun q => s.take (s.length - suf.length) ++ q) h.symm).trans (List.take_append_drop _ s)⟩
theorem suffix_iff2 {s t : Str} : t <:+ s ↔ t.length ≤ s.length ∧ (s.drop (s.length - t.length)).take (s.length - (s.length - t.length)) = t := by
  rw [suffix_iff, List.take_of_length_le (by rw [List.length_drop]; exact Nat.le_refl _)]
theorem turn_some {s suf y t : Str} : turnL s suf y = some t ↔ ∃ p, s = p ++ suf ∧ t = p ++ y := by
  unfold turnL
  constructor
  · intro h
    split at h
    · rename_i hs
      injection h with h
      obtain ⟨p, rfl⟩ := hs
      exact ⟨p, rfl, by rw [← h]; simp⟩
    · cases h
  · rintro ⟨p, rfl, rfl⟩
    rw [if_pos ⟨p, rfl⟩]; simp
theorem turn_len (s t y : Str) : ((turnL s t y).getD []).length ≤ s.length + y.length := by
  unfold turnL
  split
  · show (s.take _ ++ y).length ≤ _
    rw [List.length_append]
    have : (s.take (s.length - t.length)).length ≤ s.length := List.length_take_le' _ _
    omega
  · exact Nat.zero_le _
def findC (c : List Clas) (n : Str) : Int := if c.findIdx (fun x => decide (x.name = n)) < c.length then (c.findIdx (fun x => decide (x.name = n)) : Nat) else -1
def endsL (c : List Clas) (n : Str) : List Ende := if 0 ≤ findC c n then (c.getD (findC c n).toNat default).ends else []
theorem findC_at {c : List Clas} {n : Str} {k : Nat} (h : k < c.length) (h0 : ∀ j, j < k → ¬ (c.getD j default).name = n) (h1 : (c.getD k default).name = n) : findC c n = (k : Nat) := by
  have e : c.findIdx (fun x => decide (x.name = n)) = k := by
    rw [List.findIdx_eq h]
    refine ⟨by simpa [List.getD, h] using h1, fun j hj => ?_⟩
    have := h0 j hj
    have hj2 : j < c.length := by omega
    simpa [List.getD, hj2] using this
  unfold findC; rw [e, if_pos h]
theorem findC_none {c : List Clas} {n : Str} (h0 : ∀ j, j < c.length → ¬ (c.getD j default).name = n) : findC c n = -1 := by
  have e : c.findIdx (fun x => decide (x.name = n)) = c.length := by
    rw [List.findIdx_eq_length]
    intro x hx
    obtain ⟨i, hi, rfl⟩ := List.mem_iff_getElem.1 hx
    have := h0 i hi
    simpa [List.getD, hi] using this
  unfold findC; rw [e, if_neg (by omega)]
theorem findC_lt (c : List Clas) (n : Str) : findC c n < (c.length : Nat) ∧ -1 ≤ findC c n := by unfold findC; split <;> omega
theorem ends_at {c : List Clas} {n : Str} (h : 0 ≤ findC c n) : endsL c n = (c.getD (findC c n).toNat default).ends := if_pos h
theorem ends_none {c : List Clas} {n : Str} (h : ¬ 0 ≤ findC c n) : endsL c n = [] := if_neg h
theorem ends_if {c : List Clas} {n : Str} (h : ¬ (0 ≤ findC c n ∧ ¬ n = [])) : (if n = [] then ([] : List Ende) else endsL c n) = [] := by
  by_cases hn : n = []
  · rw [if_pos hn]
  · rw [if_neg hn, ends_none (fun h2 => h ⟨h2, hn⟩)]
/-- a form behind the ones before -/
def formS (ok : Str → Bool) (s : Str) (by' : Ende → Str × Str) (l : List Str) (x : Ende) : List Str :=
  match turnL s (by' x).1 (by' x).2 with
  | some f => if f ≠ [] ∧ ok f = true then addS l f else l
  | none => l
def foldF (ok : Str → Bool) (s : Str) (by' : Ende → Str × Str) (E : List Ende) : List Str := E.foldl (formS ok s by') [s]
theorem foldF_mem {ok : Str → Bool} {s : Str} {b : Ende → Str × Str} {E : List Ende} {y : Str} : y ∈ foldF ok s b E ↔ y = s ∨ (y ≠ [] ∧ ok y = true ∧ ∃ x ∈ E, turnL s (b x).1 (b x).2 = some y) := by
  unfold foldF
  have key : ∀ (E : List Ende) (l : List Str), y ∈ E.foldl (formS ok s b) l ↔ y ∈ l ∨ (y ≠ [] ∧ ok y = true ∧ ∃ x ∈ E, turnL s (b x).1 (b x).2 = some y) := by
    intro E
    induction E with
    | nil => intro l; simp
    | cons x E ih =>
      intro l
      rw [List.foldl_cons, ih]
      have h1 : y ∈ formS ok s b l x ↔ y ∈ l ∨ (y ≠ [] ∧ ok y = true ∧ turnL s (b x).1 (b x).2 = some y) := by
        unfold formS
        cases ht : turnL s (b x).1 (b x).2 with
        | none => simp
        | some f =>
          dsimp only
          by_cases hc : f ≠ [] ∧ ok f = true
          · rw [if_pos hc, addS_mem]
            constructor
            · rintro (h | rfl)
              · exact .inl h
              · exact .inr ⟨hc.1, hc.2, rfl⟩
            · rintro (h | ⟨_, _, h⟩)
              · exact .inl h
              · injection h with h; exact .inr h.symm
          · rw [if_neg hc]
            constructor
            · exact .inl
            · rintro (h | ⟨h2, h3, h⟩)
              · exact h
              · injection h with h; subst h; exact absurd ⟨h2, h3⟩ hc
      rw [h1]
      constructor
      · rintro ((h | ⟨h2, h3, h⟩) | ⟨h2, h3, z, hz, h⟩)
        · exact .inl h
        · exact .inr ⟨h2, h3, x, by simp, h⟩
        · exact .inr ⟨h2, h3, z, by simp [hz], h⟩
      · rintro (h | ⟨h2, h3, z, hz, h⟩)
        · exact .inl (.inl h)
        · rcases List.mem_cons.1 hz with rfl | hz
          · exact .inl (.inr ⟨h2, h3, h⟩)
          · exact .inr ⟨h2, h3, z, hz, h⟩
  rw [key]; simp
theorem formS_sorted {ok : Str → Bool} {s : Str} {b : Ende → Str × Str} {l : List Str} (x : Ende) (h : l.Pairwise (fun a b => a < b)) : (formS ok s b l x).Pairwise (fun a b => a < b) := by
  unfold formS
  split
  · split
    · exact addS_sorted _ h
    · exact h
  · exact h
theorem foldF_sorted (ok : Str → Bool) (s : Str) (b : Ende → Str × Str) (E : List Ende) : (foldF ok s b E).Pairwise (fun a b => a < b) := by
  unfold foldF
  have key : ∀ (E : List Ende) (l : List Str), l.Pairwise (fun a b => a < b) → (E.foldl (formS ok s b) l).Pairwise (fun a b => a < b) := by
    intro E
    induction E with
    | nil => exact fun l h => h
    | cons x E ih => exact fun l h => ih _ (formS_sorted x h)
  exact key E _ (List.pairwise_singleton _ _)
theorem foldF_len (ok : Str → Bool) (s : Str) (b : Ende → Str × Str) (E : List Ende) : (foldF ok s b E).length ≤ E.length + 1 := by
  unfold foldF
  have key : ∀ (E : List Ende) (l : List Str), (E.foldl (formS ok s b) l).length ≤ E.length + l.length := by
    intro E
    induction E with
    | nil => intro l; simp
    | cons x E ih =>
      intro l
      have h1 := ih (formS ok s b l x)
      have h2 : (formS ok s b l x).length ≤ l.length + 1 := by
        unfold formS
        split
        · split
          · exact addS_len _ _
          · omega
        · omega
      rw [List.foldl_cons, List.length_cons]; omega
  have := key E [s]
  simpa using this
theorem foldF_succ (ok : Str → Bool) (s : Str) (b : Ende → Str × Str) (E : List Ende) (k : Nat) (h : k < E.length) : foldF ok s b (E.take (k + 1)) = formS ok s b (foldF ok s b (E.take k)) (E.getD k default) := by
  unfold foldF; rw [take_succD E k h, List.foldl_append]; rfl
theorem fold_yes {ok : Str → Bool} {s : Str} {b : Ende → Str × Str} {E : List Ende} {k : Nat} (h : k < E.length) (h1 : (turnL s (b (E.getD k default)).1 (b (E.getD k default)).2).isSome = true ∧ ¬ (turnL s (b (E.getD k default)).1 (b (E.getD k default)).2).getD [] = []) (hok : ok ((turnL s (b (E.getD k default)).1 (b (E.getD k default)).2).getD []) = true) :
    foldF ok s b (E.take (k + 1)) = addS (foldF ok s b (E.take k)) ((turnL s (b (E.getD k default)).1 (b (E.getD k default)).2).getD []) := by
  rw [foldF_succ ok s b E k h]; unfold formS
  cases ht : turnL s (b (E.getD k default)).1 (b (E.getD k default)).2 with
  | none => rw [ht] at h1; exact absurd h1.1 (by simp)
  | some f => rw [ht] at h1 hok; dsimp only; rw [if_pos ⟨h1.2, hok⟩]; rfl
theorem fold_no {ok : Str → Bool} {s : Str} {b : Ende → Str × Str} {E : List Ende} {k : Nat} (h : k < E.length) (h1 : ¬ (((turnL s (b (E.getD k default)).1 (b (E.getD k default)).2).isSome = true ∧ ¬ (turnL s (b (E.getD k default)).1 (b (E.getD k default)).2).getD [] = []) ∧ ok ((turnL s (b (E.getD k default)).1 (b (E.getD k default)).2).getD []) = true)) :
    foldF ok s b (E.take (k + 1)) = foldF ok s b (E.take k) := by
  rw [foldF_succ ok s b E k h]; unfold formS
  cases ht : turnL s (b (E.getD k default)).1 (b (E.getD k default)).2 with
  | none => rfl
  | some f => rw [ht] at h1; dsimp only; rw [if_neg (fun h2 => h1 ⟨⟨rfl, h2.1⟩, h2.2⟩)]
/-- forms and stems -/
def fwd (x : Ende) : Str × Str := (x.strip, x.add)
def bwd (x : Ende) : Str × Str := (x.add, x.strip)
def isLow (s : Str) : Bool := decide (lowS s = s)
def formsC (c : List Clas) (stem cls : Str) : List Str := if stem = [] then [] else foldF (fun _ => true) (lowS stem) fwd (if cls = [] then [] else endsL c cls)
def stemsC (c : List Clas) (cls form : Str) : List Str := if form = [] then [] else foldF isLow (lowS form) bwd (if cls = [] then [] else endsL c cls)
theorem forms_none {c : List Clas} {p q : Str} (h : ¬ p = []) (h2 : q = []) : formsC c p q = [lowS p] := by unfold formsC; rw [if_neg h, if_pos h2]; rfl
theorem forms_end {c : List Clas} {p q : Str} {k : Nat} (h : ¬ p = []) (h2 : ¬ q = []) (hk : (endsL c q).length ≤ k) : formsC c p q = foldF (fun _ => true) (lowS p) fwd ((endsL c q).take k) := by unfold formsC; rw [if_neg h, if_neg h2, List.take_of_length_le hk]
theorem stems_none {c : List Clas} {p q : Str} (h : ¬ p = []) (h2 : q = []) : stemsC c q p = [lowS p] := by unfold stemsC; rw [if_neg h, if_pos h2]; rfl
theorem stems_end {c : List Clas} {p q : Str} {k : Nat} (h : ¬ p = []) (h2 : ¬ q = []) (hk : (endsL c q).length ≤ k) : stemsC c q p = foldF isLow (lowS p) bwd ((endsL c q).take k) := by unfold stemsC; rw [if_neg h, if_neg h2, List.take_of_length_le hk]
/-- the forms of a stem have it as a stem, and no other -/
theorem forms_stems {c : List Clas} {cls s f : Str} (hs : s ≠ []) (hf : f ≠ []) (ls : lowS s = s) (lf : lowS f = f) : f ∈ formsC c s cls ↔ s ∈ stemsC c cls f := by
  unfold formsC stemsC
  rw [if_neg hs, if_neg hf, foldF_mem, foldF_mem, ls, lf]
  refine or_congr ⟨Eq.symm, Eq.symm⟩ ?_
  constructor
  · rintro ⟨_, _, x, hx, h⟩
    obtain ⟨p, h1, h2⟩ := turn_some.1 h
    exact ⟨hs, by simpa [isLow] using ls, x, hx, turn_some.2 ⟨p, h2, h1⟩⟩
  · rintro ⟨_, _, x, hx, h⟩
    obtain ⟨p, h1, h2⟩ := turn_some.1 h
    exact ⟨hf, rfl, x, hx, turn_some.2 ⟨p, h2, h1⟩⟩
/-- the keys of a set -/
theorem keys_set {m : List (Str × Unit)} {l : List Str} {f : Str} (hn : (m.map (·.1)).Nodup) (h : ∀ x, x ∈ m.map (·.1) ↔ x ∈ l) : ∀ x, x ∈ (setM m f ()).map (·.1) ↔ x ∈ addS l f := fun x => by
  rw [addS_mem, ← h]
  rcases find_idx f m with h1 | ⟨i, u, h1, _⟩
  · rw [setM_miss h1]; simp
  · rw [setM_hit h1 hn, List.map_set]
    have hi := (List.getElem?_eq_some_iff.1 h1)
    have e : (m.map (·.1)).set i f = m.map (·.1) := by
      obtain ⟨hi, hv⟩ := hi
      have : (m.map (·.1))[i]'(by simpa using hi) = f := by simp [hv]
      rw [← this]; exact List.set_getElem_self _
    have hm : f ∈ m.map (·.1) := by
      have := List.mem_of_getElem? h1
      exact List.mem_map.2 ⟨_, this, rfl⟩
    rw [show ((f, ()) : Str × Unit).1 = f from rfl, e]
    constructor
    · exact .inl
    · rintro (h2 | rfl)
      · exact h2
      · exact hm
theorem forms_nil {c : List Clas} {p q : Str} (h : lowS p = []) : formsC c p q = [] := by unfold formsC; rw [if_pos (lowS_nil.1 h)]
theorem forms_if {c : List Clas} {p q : Str} (h : ¬ lowS p = []) : formsC c p q = foldF (fun _ => true) (lowS p) fwd (if q = [] then [] else endsL c q) := by unfold formsC; rw [if_neg (fun e => h (lowS_nil.2 e))]
/-- the set's keys so far -/
def KeyIs (m : List (Str × Unit)) (l : List Str) : Prop := (m.map (·.1)).Nodup ∧ ∀ x, x ∈ m.map (·.1) ↔ x ∈ l
theorem KeyIs.one (s : Str) : KeyIs (setM [] s ()) [s] := ⟨by simp [setM], fun x => by simp [setM]⟩
theorem KeyIs.add {m : List (Str × Unit)} {l : List Str} (h : KeyIs m l) (f : Str) : KeyIs (setM m f ()) (addS l f) := ⟨keys_setM f () m h.1, keys_set h.1 h.2⟩
theorem KeyIs.sorted {m : List (Str × Unit)} {l : List Str} (h : KeyIs m l) (hl : l.Pairwise (fun a b => a < b)) : sortS (m.map (·.1)) = l := sorted_keys h.1 hl h.2
theorem cut_yes {s : Str} {E : List Ende} {k : Nat} {m : List (Str × Unit)} (h : KeyIs m (foldF (fun _ => true) s fwd (E.take k))) (hk : k < E.length)
    (h1 : decide ((E.getD k default).strip <:+ s) = true ∧ ¬ (if (E.getD k default).strip <:+ s then s.take (s.length - (E.getD k default).strip.length) else s) ++ (E.getD k default).add = []) :
    KeyIs (setM m ((if (E.getD k default).strip <:+ s then s.take (s.length - (E.getD k default).strip.length) else s) ++ (E.getD k default).add) ()) (foldF (fun _ => true) s fwd (E.take (k + 1))) := by
  have hs := of_decide_eq_true h1.1
  rw [if_pos hs] at h1 ⊢
  have e : turnL s (fwd (E.getD k default)).1 (fwd (E.getD k default)).2 = some (s.take (s.length - (E.getD k default).strip.length) ++ (E.getD k default).add) := if_pos hs
  have h2 := fold_yes (ok := fun _ => true) (s := s) (b := fwd) hk ⟨by rw [e]; rfl, by rw [e]; exact h1.2⟩ rfl
  rw [e] at h2
  rw [h2]
  exact h.add _
theorem cut_no {s : Str} {E : List Ende} {k : Nat} {m : List (Str × Unit)} (h : KeyIs m (foldF (fun _ => true) s fwd (E.take k))) (hk : k < E.length)
    (h1 : ¬ (decide ((E.getD k default).strip <:+ s) = true ∧ ¬ (if (E.getD k default).strip <:+ s then s.take (s.length - (E.getD k default).strip.length) else s) ++ (E.getD k default).add = [])) :
    KeyIs m (foldF (fun _ => true) s fwd (E.take (k + 1))) := by
  rw [fold_no (ok := fun _ => true) (s := s) (b := fwd) hk]
  · exact h
  · intro h2
    by_cases hs : (E.getD k default).strip <:+ s
    · have e : turnL s (fwd (E.getD k default)).1 (fwd (E.getD k default)).2 = some (s.take (s.length - (E.getD k default).strip.length) ++ (E.getD k default).add) := if_pos hs
      rw [e] at h2
      exact h1 ⟨decide_eq_true hs, by rw [if_pos hs]; exact h2.1.2⟩
    · have e : turnL s (fwd (E.getD k default)).1 (fwd (E.getD k default)).2 = none := if_neg hs
      rw [e] at h2
      exact absurd h2.1.1 (by simp)
end Go.Vc
