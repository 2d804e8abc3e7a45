/-
  Plain: lines of classes: what a line says, what a text says. No program in sight.
-/
import Derived.Test.YtomklacppmaljaaPw
import Derived.Test.YtomklacppmaljaaPa
namespace Go.Vc
open Go
theorem prefix_iff {s t : Str} : t <+: s ↔ t.length ≤ s.length ∧ s.take t.length = t := by
  constructor
  · rintro ⟨r, rfl⟩; simp
  · rintro ⟨_, h⟩; exact ⟨s.drop t.length, by
      have := List.take_append_drop t.length s
      rw [h] at this; exact this⟩
/-- the text ahead of the first line feed, and what stands behind it -/
def headL (s : Str) : Str := s.takeWhile (fun x => x != 10)
def tailL (s : Str) : Str := s.drop ((headL s).length + 1)
theorem head_len (s : Str) : (headL s).length ≤ s.length := by
  have : (headL s).Sublist s := List.takeWhile_sublist _
  exact this.length_le
theorem head_lt {s : Str} (h : (10 : UInt8) ∈ s) : (headL s).length < s.length := by
  induction s with
  | nil => cases h
  | cons c t ih =>
    unfold headL
    by_cases hc : c = 10
    · subst hc; simp
    · rw [List.takeWhile_cons, if_pos (by simpa using hc)]
      have : (10 : UInt8) ∈ t := by
        rcases List.mem_cons.1 h with h1 | h1
        · exact absurd h1.symm hc
        · exact h1
      have := ih this
      unfold headL at this
      simp only [List.length_cons]; omega
theorem tail_lt {s : Str} (h : (10 : UInt8) ∈ s) : (tailL s).length < s.length := by
  have := head_lt h
  unfold tailL; rw [List.length_drop]; omega
def linesL (s : Str) : List Str := if _h : (10 : UInt8) ∈ s then headL s :: linesL (tailL s) else if s = [] then [] else [s]
termination_by s.length
decreasing_by exact tail_lt _h
def wholeL (s : Str) : Bool := if _h : (10 : UInt8) ∈ s then wholeL (tailL s) else decide (s = [])
termination_by s.length
decreasing_by exact tail_lt _h
theorem lines_yes {s : Str} (h : (10 : UInt8) ∈ s) : linesL s = headL s :: linesL (tailL s) := by rw [linesL, dif_pos h]
theorem lines_no {s : Str} (h : ¬ (10 : UInt8) ∈ s) (h2 : ¬ s = []) : linesL s = [s] := by rw [linesL, dif_neg h, if_neg h2]
theorem lines_nil : linesL [] = [] := by rw [linesL, dif_neg (by simp), if_pos rfl]
theorem whole_yes {s : Str} (h : (10 : UInt8) ∈ s) : wholeL s = wholeL (tailL s) := by rw [wholeL, dif_pos h]
theorem whole_no {s : Str} (h : ¬ (10 : UInt8) ∈ s) (h2 : ¬ s = []) : wholeL s = false := by rw [wholeL, dif_neg h]; simpa using h2
theorem whole_nil : wholeL [] = true := by rw [wholeL, dif_neg (by simp)]; rfl
theorem lines_len : ∀ (n : Nat) (s : Str), s.length ≤ n → (linesL s).length ≤ s.length
  | n, s, hn => by
    by_cases h : (10 : UInt8) ∈ s
    · have h1 := tail_lt h
      match n with
      | 0 => have : s = [] := List.eq_nil_of_length_eq_zero (by omega)
             subst this; cases h
      | n + 1 =>
        rw [lines_yes h, List.length_cons]
        have := lines_len n (tailL s) (by omega)
        omega
    · by_cases h2 : s = []
      · subst h2; rw [lines_nil]; simp
      · rw [lines_no h h2]
        have := List.length_pos_iff.2 h2
        show 1 ≤ s.length; omega
theorem lines_bd : ∀ (n : Nat) (s : Str), s.length ≤ n → ∀ x ∈ linesL s, x.length ≤ s.length
  | n, s, hn => by
    by_cases h : (10 : UInt8) ∈ s
    · have h1 := tail_lt h
      match n with
      | 0 => have : s = [] := List.eq_nil_of_length_eq_zero (by omega)
             subst this; cases h
      | n + 1 =>
        rw [lines_yes h]
        intro x hx
        rcases List.mem_cons.1 hx with rfl | hx
        · exact head_len s
        · have := lines_bd n (tailL s) (by omega) x hx; omega
    · by_cases h2 : s = []
      · subst h2; rw [lines_nil]; simp
      · rw [lines_no h h2]; intro x hx; have : x = s := by simpa using hx
        rw [this]; exact Nat.le_refl _
/-- a byte stands once: what is ahead of it and behind it -/
def onceB (s : Str) (c : UInt8) : Bool := decide (s.count c = 1)
def aheadB (s : Str) (c : UInt8) : Str := s.takeWhile (fun x => x != c)
def behindB (s : Str) (c : UInt8) : Str := s.drop ((aheadB s c).length + 1)
theorem ahead_no {s : Str} {c : UInt8} (h : ¬ c ∈ s) : aheadB s c = s := by
  induction s with
  | nil => rfl
  | cons d t ih =>
    have h1 : ¬ d = c := fun e => h (by simp [e])
    have h2 : ¬ c ∈ t := fun hm => h (by simp [hm])
    unfold aheadB at *
    rw [List.takeWhile_cons, if_pos (by simpa using h1), ih h2]
theorem ahead_split {s : Str} {c : UInt8} (h : c ∈ s) : s = aheadB s c ++ c :: behindB s c := by
  induction s with
  | nil => cases h
  | cons d t ih =>
    by_cases hc : d = c
    · subst hc; simp [aheadB, behindB]
    · have ht : c ∈ t := by
        rcases List.mem_cons.1 h with h1 | h1
        · exact absurd h1.symm hc
        · exact h1
      have e : aheadB (d :: t) c = d :: aheadB t c := by unfold aheadB; rw [List.takeWhile_cons, if_pos (by simpa using hc)]
      have e2 : behindB (d :: t) c = behindB t c := by unfold behindB; rw [e]; simp
      rw [e, e2, List.cons_append, ← ih ht]
theorem ahead_not {s : Str} {c : UInt8} : ¬ c ∈ aheadB s c := fun h => by
  have := List.all_eq_true.1 (List.all_takeWhile (p := fun x => x != c) (l := s)) c h
  simp at this
theorem once_iff {s : Str} {c : UInt8} : s.count c = 1 ↔ c ∈ s ∧ ¬ c ∈ behindB s c := by
  constructor
  · intro h
    have hm : c ∈ s := List.count_pos_iff.1 (by omega)
    refine ⟨hm, fun h2 => ?_⟩
    have h3 : 0 < (behindB s c).count c := List.count_pos_iff.2 h2
    rw [ahead_split hm, List.count_append, List.count_cons_self] at h
    omega
  · rintro ⟨hm, h2⟩
    rw [ahead_split hm, List.count_append, List.count_cons_self, List.count_eq_zero.2 ahead_not, List.count_eq_zero.2 h2]
/-! ### what a line says -/
def clsW : Str := [99, 108, 97, 115, 115, 32]
def twoW : Str := [32, 32]
/-- the name behind 'class ' -/
def nameOf (s : Str) : Str := s.drop 6
def bodyOf (s : Str) : Str := s.drop 2
def lastC (cl : List Clas) : Clas := cl.getD (cl.length - 1) default
def endOf (s : Str) : Ende := ⟨aheadB (bodyOf s) 62, behindB (bodyOf s) 62⟩
end Go.Vc
