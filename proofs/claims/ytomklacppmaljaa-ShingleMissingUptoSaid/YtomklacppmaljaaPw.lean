/-
  The classes that the statements make from numbers: what is known of them. Decimal numbers.
-/
import Derived.Test.YtomklacppmaljaaClr
namespace Go.Vc
open Go Go.RowKit Go.IntWalk Go.Deep
def decW (n : Nat) (s : Str) : Str := if n / 10 = 0 then UInt8.ofNat (48 + n % 10) :: s else decW (n / 10) (UInt8.ofNat (48 + n % 10) :: s)
termination_by n
decreasing_by omega
theorem decW_stop {n : Nat} (s : Str) (h : n / 10 = 0) : decW n s = UInt8.ofNat (48 + n % 10) :: s := by rw [decW, if_pos h]
theorem decW_go {n : Nat} (s : Str) (h : ¬ n / 10 = 0) : decW n s = decW (n / 10) (UInt8.ofNat (48 + n % 10) :: s) := by rw [decW, if_neg h]
theorem decW_len : ∀ (k n : Nat) (s : Str), n < 10 ^ (k + 1) → (decW n s).length ≤ s.length + (k + 1)
  | 0, n, s, h => by rw [decW_stop s (by omega)]; simp
  | k + 1, n, s, h => by
    by_cases h1 : n / 10 = 0
    · rw [decW_stop s h1]; simp
    · rw [decW_go s h1]
      have := decW_len k (n / 10) (UInt8.ofNat (48 + n % 10) :: s) (by rw [Nat.pow_succ] at h; omega)
      simp only [List.length_cons] at this
      omega
theorem dig_wrap {n : Nat} {z : Int} (h : z = (n : Int)) : Go.IntKind.u8.wrap (48 + z.tmod 10) = (((UInt8.ofNat (48 + n % 10)).toNat : Nat) : Int) := by
  subst h
  have h1 : ((n : Int)).tmod 10 = ((n % 10 : Nat) : Int) := by rw [Int.tmod_eq_emod_of_nonneg (by omega)]; omega
  have h2 : n % 10 < 10 := Nat.mod_lt _ (by decide)
  rw [h1]
  have h3 : (UInt8.ofNat (48 + n % 10)).toNat = 48 + n % 10 := by rw [UInt8.toNat_ofNat']; omega
  rw [h3]
  have : ∀ m, m < 10 → Go.IntKind.u8.wrap (48 + ((m : Nat) : Int)) = ((48 + m : Nat) : Int) := by decide
  exact this _ h2
theorem decW_ge (n : Nat) : ∀ s : Str, s.length + 1 ≤ (decW n s).length := by
  induction n using Nat.strongRecOn with
  | _ n ih =>
    intro s
    by_cases h : n / 10 = 0
    · rw [decW_stop s h]; simp
    · rw [decW_go s h]
      have := ih (n / 10) (by omega) (UInt8.ofNat (48 + n % 10) :: s)
      simp only [List.length_cons] at this
      omega
theorem clas_own {w : World} {base E : Nat} {Y : List Nat} {v vs : Value} {ls : List Ende} (m : Str) (h : OwnE w base E vs ls) (hY : ∀ y ∈ Y, y < base) (hv : ∀ g, v.ownBlock = some g → g < base) (hb : BdC ⟨m, ls⟩) :
    ∀ w', Evo w w' (Y ++ v.ownBlock.toList) → Rep.rep w' [S m, vs] (⟨m, ls⟩ : Clas) := fun w' he => by
  have h2 := h.evo he (fun g hg hm => by
    have hb := (h.block hg).1
    rcases List.mem_append.1 hm with h3 | h3
    · have := hY g h3; omega
    · have := hv g (by simpa using h3); omega)
  obtain ⟨ao, g, cap, hv2, hr, _⟩ := h2.rowOf
  exact ⟨⟨ao, g, 0, cap, by rw [hv2], hr⟩, hb⟩
theorem ret_str {a b : Str} (h : a = b) : Ending.returned (S a) = .returned (S b) := by rw [h]
theorem tdiv_nat (m k : Nat) : ((m : Int)).tdiv (k : Int) = ((m / k : Nat) : Int) := by
  rw [Int.tdiv_eq_ediv_of_nonneg (by omega)]; rfl
theorem tdiv_ten (m : Nat) : ((m : Int)).tdiv 10 = ((m / 10 : Nat) : Int) := tdiv_nat m 10
def stripsL : List Str := [[], [], [121], [115], [97]]
def addsL : List Str := [[115], [105, 101, 115], [], [101, 115], [97], [101, 114]]
def MadeE (es : List Ende) : Prop := es.Nodup ∧ ∀ e ∈ es, e.strip ∈ stripsL ∧ e.add ∈ addsL
/-- classes 'cN' down to 'c(i+1)' -/
def MadeP (cl : List Clas) (N i : Nat) : Prop := cl.length + i = N ∧ (∀ k, (h : k < cl.length) → (cl[k]'h).name = 99 :: decW (N - k) []) ∧ ∀ x ∈ cl, MadeE x.ends ∧ x.ends.length ≤ 3
theorem MadeE.nil : MadeE [] := ⟨List.nodup_nil, by simp⟩
theorem MadeE.snoc {es : List Ende} {x : Ende} (h : MadeE es) (hx : ¬ x ∈ es) (h1 : x.strip ∈ stripsL) (h2 : x.add ∈ addsL) : MadeE (es ++ [x]) := by
  refine ⟨?_, fun e he => ?_⟩
  · rw [List.nodup_append]
    refine ⟨h.1, by simp, fun a ha b hb => ?_⟩
    have : b = x := by simpa using hb
    intro hab
    exact hx (by rw [← this, ← hab]; exact ha)
  · rcases List.mem_append.1 he with h3 | h3
    · exact h.2 e h3
    · have : e = x := by simpa using h3
      rw [this]; exact ⟨h1, h2⟩
theorem MadeP.nil (N : Nat) : MadeP [] N N := ⟨by simp, by simp, by simp⟩
theorem MadeP.snoc {cl : List Clas} {N i : Nat} {es : List Ende} {m : Str} (h : MadeP cl N i) (hi : 0 < i) (hm : m = 99 :: decW i []) (he : MadeE es) (hl : es.length ≤ 3) : MadeP (cl ++ [⟨m, es⟩]) N (i - 1) := by
  obtain ⟨h1, h2, h3⟩ := h
  refine ⟨by simp; omega, fun k hk => ?_, fun x hx => ?_⟩
  · rcases Nat.lt_or_ge k cl.length with h4 | h4
    · rw [List.getElem_append_left h4]; exact h2 k h4
    · rw [List.getElem_append_right h4]
      simp only [List.length_append, List.length_cons, List.length_nil] at hk
      have h5 : k - cl.length = 0 := by omega
      have h6 : N - k = i := by omega
      simp only [h5, List.getElem_cons_zero]
      rw [h6]; exact hm
  · rcases List.mem_append.1 hx with h4 | h4
    · exact h3 x h4
    · have : x = ⟨m, es⟩ := by simpa using h4
      rw [this]; exact ⟨he, hl⟩
theorem strip_len {s : Str} (h : s ∈ stripsL) : s.length ≤ 1 := by
  have : ∀ s ∈ stripsL, s.length ≤ 1 := by decide
  exact this s h
theorem add_len {s : Str} (h : s ∈ addsL) : s.length ≤ 3 := by
  have : ∀ s ∈ addsL, s.length ≤ 3 := by decide
  exact this s h
theorem MadeE.bd {es : List Ende} (h : MadeE es) : ∀ e ∈ es, BdE e := fun e he => by
  have h1 := strip_len (h.2 e he).1
  have h2 := add_len (h.2 e he).2
  exact ⟨by omega, by omega⟩
theorem made_bdC {es : List Ende} {n : Nat} (h : MadeE es) (hl : es.length ≤ 3) (hn : n ≤ 9) : BdC ⟨99 :: decW n [], es⟩ := by
  have := decW_len 0 n [] (by omega)
  refine ⟨?_, h.bd, ?_⟩
  · simp only [List.length_cons, List.length_nil] at this ⊢; omega
  · show es.length ≤ _; omega
theorem strip_in (j : Nat) (h : j < 5) : stripsL.getD j default ∈ stripsL := by
  have : ∀ j, j < 5 → stripsL.getD j default ∈ stripsL := by decide
  exact this j h
theorem add_in (j : Nat) (h : j < 6) : addsL.getD j default ∈ addsL := by
  have : ∀ j, j < 6 → addsL.getD j default ∈ addsL := by decide
  exact this j h
theorem MadeP.mem {cl : List Clas} {N i : Nat} (h : MadeP cl N i) {x : Clas} (hx : x ∈ cl) : MadeE x.ends ∧ x.ends.length ≤ 3 := h.2.2 x hx
theorem MadeP.bd {cl : List Clas} {N i : Nat} (h : MadeP cl N i) (hN : N ≤ 9) : ∀ x ∈ cl, BdC x := fun x hx => by
  obtain ⟨k, hk, rfl⟩ := List.mem_iff_getElem.1 hx
  have h1 := h.2.1 k hk
  have h2 := h.2.2 _ hx
  have h3 := made_bdC (n := N - k) h2.1 h2.2 (by omega)
  rw [← h1] at h3
  exact h3
theorem in_len {l : List Str} {n : Nat} (h : ∀ x ∈ l, x.length ≤ n) (k : Nat) : (l.getD k default).length ≤ n := by
  rcases Nat.lt_or_ge k l.length with h1 | h1
  · exact h _ (getD_in h1)
  · rw [List.getD_eq_getElem?_getD, List.getElem?_eq_none h1]; exact Nat.zero_le _
end Go.Vc
