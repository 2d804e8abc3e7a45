/-
  The program's data as Lean's: strings as lists of bytes, items, tokens and their like. What does not hold memory has its cells written out.
-/
import Derived.Test.YtkdgoghmkmpfnaaQui
namespace Go.Vc
open Go Go.RowKit Go.IntWalk

abbrev Str := List UInt8
instance : Enc Int := ⟨1, fun x => [.int .i64 x], fun _ => rfl, fun _ => rfl, by decide⟩
instance : Enc Str := ⟨1, fun x => [S x], fun _ => rfl, fun _ => rfl, by decide⟩

/-- an item, a token -/
structure Item where
  kind : Int
  text : Str
  id : Int
  deriving Inhabited, DecidableEq
instance : Enc Item := ⟨3, fun x => [.int .i64 x.kind, S x.text, .int .i64 x.id], fun _ => rfl, fun _ => rfl, by decide⟩
structure Range where
  lo : Int
  hi : Int
  deriving Inhabited, DecidableEq
instance : Enc Range := ⟨2, fun x => [.int .i64 x.lo, .int .i64 x.hi], fun _ => rfl, fun _ => rfl, by decide⟩
structure Bead where
  alo : Int
  ahi : Int
  blo : Int
  bhi : Int
  deriving Inhabited, DecidableEq
instance : Enc Bead := ⟨4, fun x => [.int .i64 x.alo, .int .i64 x.ahi, .int .i64 x.blo, .int .i64 x.bhi], fun _ => rfl, fun _ => rfl, by decide⟩
structure Gram where
  fst : Str
  snd : Str
  count : Int
  deriving Inhabited, DecidableEq
instance : Enc Gram := ⟨3, fun x => [S x.fst, S x.snd, .int .i64 x.count], fun _ => rfl, fun _ => rfl, by decide⟩

theorem rowE_same {α : Type} [Enc α] {w w' : World} {ao : Option Addr} {b off cap b' off' : Nat} {l : List α} (h : RowE w' ao b' off' cap l) (h0 : RowE w ao b off cap l) : RowE w' ao b off cap l := by
  by_cases hl : l = []
  · subst hl; exact ⟨h.1, by simp, by simp⟩
  · have hne : l.map Enc.enc ≠ [] := by simpa using hl
    have h1 := h.2.1 hne
    have h2 := h0.2.1 hne
    rw [h1] at h2
    injection h2 with h2
    injection h2 with e1 e2
    subst e1; subst e2
    exact h
structure Side where
  len : Int
  anchors : List Str
  deriving Inhabited
instance : Rep Side where
  n := 2
  rep w cs x := ∃ ao b off cap, cs = [.int .i64 x.len, .slice ao x.anchors.length cap] ∧ RowE w ao b off cap x.anchors
  len := fun ⟨_, _, _, _, h, _⟩ => by rw [h]; rfl
  evo0 := fun ⟨ao, b, off, cap, h, hr⟩ he => ⟨ao, b, off, cap, h, hr.evo0 he⟩
  pos := by decide
theorem side_at {w : World} {ao : Option Addr} {b off cap : Nat} {l : List Side} (h : RowR w ao b off cap l) (k : Nat) (hk : k < l.length) :
    ∃ ao' b' off' cap', At w b (off + k * 2) [.int .i64 (l.getD k default).len, .slice ao' (l.getD k default).anchors.length cap'] ∧ RowE w ao' b' off' cap' (l.getD k default).anchors := by
  obtain ⟨cs, h1, ao', b', off', cap', h2, h3⟩ := h.atD k hk
  exact ⟨ao', b', off', cap', h2 ▸ h1, h3⟩

theorem side_atK {w : World} {E : List Nat} {ao : Option Addr} {b off cap : Nat} {l : List Side} (h : RowRK w E ao b off cap l) (k : Nat) (hk : k < l.length) :
    ∃ ao' b' off' cap', ∀ w', Evo w w' E → At w' b (off + k * 2) [.int .i64 (l.getD k default).len, .slice ao' (l.getD k default).anchors.length cap'] ∧ RowE w' ao' b' off' cap' (l.getD k default).anchors := by
  obtain ⟨cs, h1⟩ := h.atD k hk
  obtain ⟨ao', b', off', cap', h2, h3⟩ := (h1 w (Evo.refl _ _)).2
  refine ⟨ao', b', off', cap', fun w' he => ⟨h2 ▸ (h1 w' he).1, ?_⟩⟩
  obtain ⟨ao2, b2, off2, cap2, h4, h5⟩ := (h1 w' he).2
  rw [h2] at h4
  simp only [List.cons.injEq, Value.slice.injEq, and_true, true_and] at h4
  obtain ⟨rfl, rfl⟩ := h4
  exact rowE_same h5 h3
theorem ret_int {k : IntKind} {a b : Int} (h : a = b) : Ending.returned (.int k a) = .returned (.int k b) := by rw [h]
theorem ret_bool {a b : Bool} (h : a = b) : Ending.returned (.bool a) = .returned (.bool b) := by rw [h]
theorem ret_S {a b : Str} (h : a = b) : Ending.returned (S a) = .returned (S b) := by rw [h]
theorem tmod_bd (x n : Int) (hn : 1 ≤ n) : -n < x.tmod n ∧ x.tmod n < n := by
  have := Int.tmod_lt_of_pos x (b := n) (by omega)
  have := Int.lt_tmod_of_pos x (b := n) (by omega)
  omega
theorem place_pos (x n : Int) (hn : 1 ≤ n) (h : ¬ x.tmod n < 0) : x % n = x.tmod n := by
  rw [Int.tmod_eq_emod]
  split
  · omega
  · rename_i hh
    rw [Int.tmod_eq_emod, if_neg hh] at h
    have := Int.emod_lt_of_pos x (b := n) (by omega)
    omega
theorem place_neg (x n : Int) (hn : 1 ≤ n) (h : x.tmod n < 0) : x % n = x.tmod n + n := by
  rw [Int.tmod_eq_emod]
  split
  · rename_i hh
    rw [Int.tmod_eq_emod, if_pos hh] at h
    have := Int.emod_nonneg x (b := n) (by omega)
    omega
  · omega
/-- the next number of a list, behind its end 0 -/
def nextL (l : List Int) (N : Nat) (n : Int) : Int := (l.getD N default) % n
theorem nextL_bd (l : List Int) (N : Nat) (n : Int) (hn : 1 ≤ n) : 0 ≤ nextL l N n ∧ nextL l N n < n := ⟨Int.emod_nonneg _ (by omega), Int.emod_lt_of_pos _ (by omega)⟩
end Go.Vc
