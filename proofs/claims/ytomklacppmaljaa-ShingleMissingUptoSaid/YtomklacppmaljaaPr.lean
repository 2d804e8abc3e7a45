/-
  The reference's two tables as cells.
-/
import Derived.Test.YtomklacppmaljaaPc
namespace Go.Vc
open Go Go.RowKit

section
variable {w w' : World} {base bt : Nat} {T E : TypeId} {s n m lo : Nat} {rb : Nat → Nat} {c : Nat → Nat → List Value} {X : List Nat}
theorem Tab.addX (h : Tab w base bt T E s n m (lo + 1) rb c) (hlo : lo < n) {b : Nat} {cb : Nat → List Value} (hb : w.heap.size ≤ b) (hbase : base ≤ w.heap.size) (he : Evo w w' X) (hX : ∀ x, lo < x → x < n → rb x ∉ X)
    (hout : FB w' bt T 1 n (fun q => if q = lo then [.slice (some ⟨b, 0, none⟩) m m] else rowsC rb (lo + 1) m q))
    (hrow : FB w' b E s m cb) {c' : Nat → Nat → List Value} (hc : c' lo = cb) (hc2 : ∀ x, lo < x → c' x = c x) : Tab w' base bt T E s n m lo (fun q => if q = lo then b else rb q) c' := by
  refine ⟨hout.congr (fun x => ?_), fun x h1 h2 => ?_, fun x h1 h2 => ?_, fun x y h1 h2 h3 h4 => ?_, h.base⟩
  · unfold rowsC
    show (if lo ≤ x then [Value.slice (some ⟨if x = lo then b else rb x, 0, none⟩) m m] else [Value.slice none 0 0]) = _
    by_cases e : x = lo
    · rw [if_pos (by omega), if_pos e, if_pos e]
    · by_cases e2 : lo + 1 ≤ x
      · rw [if_pos (by omega), if_neg e, if_neg e, if_pos e2]
      · rw [if_neg (by omega), if_neg e, if_neg e2]
  · by_cases e : x = lo
    · subst e; simp only [if_true]; rw [hc]; exact hrow
    · simp only [if_neg e]
      rw [hc2 x (by omega)]
      exact (h.row x (by omega) h2).evo he (hX x (by omega) h2)
  · by_cases e : x = lo
    · have := h.out.lt
      simp only [if_pos e]
      exact ⟨by omega, by omega⟩
    · simp only [if_neg e]; exact h.old x (by omega) h2
  · have hl := fun z h1 h2 => (h.row z h1 h2).lt
    by_cases e : x = lo <;> by_cases e2 : y = lo
    · intro _; omega
    · simp only [if_pos e, if_neg e2]; intro e3; have := hl y (by omega) h4; omega
    · simp only [if_neg e, if_pos e2]; intro e3; have := hl x (by omega) h2; omega
    · simp only [if_neg e, if_neg e2]; exact h.apart x y (by omega) h2 (by omega) h4
end

/-- the rows of two tables are apart, and apart from the tables -/
def sepT (k n btB btH : Nat) (rbB rbH : Nat → Nat) : Prop := ∀ x y, k ≤ x → x < n → k ≤ y → y < n → rbB x ≠ btH ∧ rbH x ≠ btB ∧ rbB x ≠ rbH y
theorem sep_add {k n btB btH z bB bH : Nat} {rbB rbH : Nat → Nat} (h : sepT (k + 1) n btB btH rbB rbH) (hB : btB < z ∧ ∀ x, k + 1 ≤ x → x < n → rbB x < z) (hH : btH < z ∧ ∀ x, k + 1 ≤ x → x < n → rbH x < z) (h1 : z ≤ bB) (h2 : z ≤ bH) (h3 : bB ≠ bH) :
    sepT k n btB btH (fun q => if q = k then bB else rbB q) (fun q => if q = k then bH else rbH q) := by
  intro x y hx1 hx2 hy1 hy2
  refine ⟨?_, ?_, ?_⟩
  · show (if x = k then bB else rbB x) ≠ btH
    split
    · omega
    · exact (h x x (by omega) hx2 (by omega) hx2).1
  · show (if x = k then bH else rbH x) ≠ btB
    split
    · omega
    · exact (h x x (by omega) hx2 (by omega) hx2).2.1
  · show (if x = k then bB else rbB x) ≠ (if y = k then bH else rbH y)
    split <;> split
    · omega
    · have := hH.2 y (by omega) hy2; omega
    · have := hB.2 x (by omega) hx2; omega
    · exact (h x y (by omega) hx2 (by omega) hy2).2.2

def gP (q : Int × Nat × Nat) : List Value := [.int .i64 q.1]
def gS (q : Int × Nat × Nat) : List Value := [.int .i64 (q.2.1 : Nat), .int .i64 (q.2.2 : Nat)]
def tabG (g : Int × Nat × Nat → List Value) (a b : List Side) (i q : Nat) : Nat → Nat → List Value := fun x y => if i < x ∨ q ≤ y then g (beA a b x y) else g (0, 0, 0)
def tabGF (g : Int × Nat × Nat → List Value) (a b : List Side) : Nat → Nat → List Value := fun x y => g (beA a b x y)
def ovr (g : Int × Nat × Nat → List Value) (i j : Nat) (o : Int × Nat × Nat) (c : Nat → Nat → List Value) : Nat → Nat → List Value := fun x y => if x = i ∧ y = j then g o else c x y
section
variable {w w' : World} {base bt : Nat} {T E : TypeId} {s n m lo : Nat} {rb : Nat → Nat} {a b : List Side} {i j : Nat} {g : Int × Nat × Nat → List Value} {X : List Nat} {o o' : Int × Nat × Nat}
theorem tabG_at {x y : Nat} (h : i < x ∨ j ≤ y) : tabG g a b i j x y = g (beA a b x y) := by unfold tabG; rw [if_pos h]
theorem ovr_at {x y : Nat} (h : i < x ∨ j + 1 ≤ y) : ovr g i j o (tabG g a b i (j + 1)) x y = g (beA a b x y) := by
  unfold ovr; rw [if_neg (by omega), tabG_at h]
theorem ovr_here {c : Nat → Nat → List Value} : ovr g i j o c i j = g o := by unfold ovr; rw [if_pos ⟨rfl, rfl⟩]
theorem tabG_start (h : Tab w base bt T E s n m lo rb (tabG g a b i (j + 1))) : Tab w base bt T E s n m lo rb (ovr g i j (0, 0, 0) (tabG g a b i (j + 1))) := by
  refine h.congr (fun x h1 h2 y => ?_)
  unfold ovr
  by_cases e : x = i ∧ y = j
  · rw [if_pos e]; unfold tabG; rw [if_neg (by omega)]
  · rw [if_neg e]
theorem tabG_done (h : Tab w base bt T E s n m i rb (ovr g i j (beA a b i j) (tabG g a b i (j + 1)))) : Tab w base bt T E s n m i rb (tabG g a b i j) := by
  refine h.congr (fun x h1 h2 y => ?_)
  unfold ovr
  by_cases e : x = i ∧ y = j
  · rw [if_pos e]; unfold tabG; rw [if_pos (by omega), e.1, e.2]
  · rw [if_neg e]
    unfold tabG
    by_cases e2 : i < x ∨ j + 1 ≤ y
    · rw [if_pos e2, if_pos (by omega)]
    · rw [if_neg e2, if_neg (by omega)]
theorem tabG_full (h : Tab w base bt T E s n m i rb (tabG g a b i 0)) : Tab w base bt T E s n m i rb (tabGF g a b) := h.congr (fun x h1 h2 y => by unfold tabGF tabG; rw [if_pos (.inr (Nat.zero_le _))])
theorem tabG_add {c : List Value} (hg : ∀ q, (g q).length = s) (h : Tab w base bt T E s n m (i + 1) rb (tabGF g a b)) (hlo : i < n) {b' : Nat} (hb : w.heap.size ≤ b') (hbase : base ≤ w.heap.size) (he : Evo w w' X) (hX : ∀ x, i < x → x < n → rb x ∉ X)
    (hout : FB w' bt T 1 n (fun q => if q = i then [.slice (some ⟨b', 0, none⟩) m m] else rowsC rb (i + 1) m q))
    (hrow : FB w' b' E s m (fun _ => c)) (hc : c = g (0, 0, 0)) : Tab w' base bt T E s n m i (fun q => if q = i then b' else rb q) (tabG g a b i m) := by
  have hrow' : FB w' b' E s m (tabG g a b i m i) := hrow.congr' (fun y => by unfold tabG; split <;> exact hg _) (fun y hy => by unfold tabG; rw [if_neg (by omega), hc])
  refine (h.congr (c' := tabG g a b i m) (fun x h1 h2 y => tabG_at (by omega))).addX hlo hb hbase he hX hout hrow' rfl (fun x h1 => rfl)
theorem tab_store2 {c : Nat → Nat → List Value} (h : Tab w base bt T E s n m i rb (ovr g i j o c)) (hi : i < n) (he : Evo w w' X) (hbt : bt ∉ X) (hX : ∀ x, i < x → x < n → rb x ∉ X) {vs : List Value}
    (hr : FB w' (rb i) E s m (fun q => if q = j then vs else ovr g i j o c i q)) (hv : vs = g o') : Tab w' base bt T E s n m i rb (ovr g i j o' c) := by
  refine ⟨h.out.evo he hbt, fun x h1 h2 => ?_, h.old, h.apart, h.base⟩
  by_cases e : x = i
  · subst e
    refine hr.congr (fun y => ?_)
    unfold ovr
    by_cases e2 : y = j
    · rw [if_pos ⟨rfl, e2⟩, if_pos e2, hv]
    · rw [if_neg (fun h => e2 h.2), if_neg e2, if_neg (fun h => e2 h.2)]
  · refine ((h.row x h1 h2).evo he (hX x (by omega) h2)).congr (fun y => ?_)
    unfold ovr
    rw [if_neg (fun h => e h.1), if_neg (fun h => e h.1)]
theorem tab_val (h : Tab w base bt T E s n m lo rb (ovr g i j o (tabG g a b i (j + 1)))) (x y : Nat) {v : Value} {r : List Value} (h1 : lo ≤ x) (h2 : x < n) (h3 : y < m) (h4 : i < x ∨ j + 1 ≤ y) (hv : g (beA a b x y) = v :: r) : w.cell? ⟨rb x, 0 + y * s, none⟩ = some v :=
  h.cell0 x y h1 h2 h3 (by rw [ovr_at h4]; exact hv)
theorem tab_here {c : Nat → Nat → List Value} (h : Tab w base bt T E s n m lo rb (ovr g i j o c)) {v : Value} {r : List Value} (h1 : lo ≤ i) (h2 : i < n) (h3 : j < m) (hv : g o = v :: r) : w.cell? ⟨rb i, 0 + j * s, none⟩ = some v :=
  h.cell0 i j h1 h2 h3 (by rw [ovr_here]; exact hv)
theorem tab_hereA {c : Nat → Nat → List Value} (h : Tab w base bt T E s n m lo rb (ovr g i j o c)) (h1 : lo ≤ i) (h2 : i < n) (h3 : j < m) : At w (rb i) (0 + j * s) (g o) := by
  have := h.at i j h1 h2 h3
  rwa [ovr_here] at this
theorem tab_valF (h : Tab w base bt T E s n m lo rb (tabGF g a b)) (x y : Nat) {v : Value} {r : List Value} (h1 : lo ≤ x) (h2 : x < n) (h3 : y < m) (hv : g (beA a b x y) = v :: r) : w.cell? ⟨rb x, 0 + y * s, none⟩ = some v := h.cell0 x y h1 h2 h3 hv
theorem tab_atF (h : Tab w base bt T E s n m lo rb (tabGF g a b)) (x y : Nat) (h1 : lo ≤ x) (h2 : x < n) (h3 : y < m) : At w (rb x) (0 + y * s) (g (beA a b x y)) := h.at x y h1 h2 h3
end
theorem bs_all {a b : List Side} {i j : Nat} (h1 : i ≤ a.length) (h2 : j ≤ b.length) : (bsA a b i j 6).getD (0, 0, 0) = beA a b i j := by
  by_cases hc : i = a.length ∧ j = b.length
  · obtain ⟨rfl, rfl⟩ := hc
    have : bsA a b a.length b.length 6 = none := by
      cases hb : bsA a b a.length b.length 6 with
      | none => rfl
      | some q =>
        obtain ⟨⟨y, _, hy⟩, h3, h4, _⟩ := (bst_spec (prA a b) a.length b.length 6).1 q hb
        have := stp_bd y
        rw [← hy] at this
        omega
    rw [this]
    exact best_corner.symm
  · exact bs_done h1 h2 hc _
/-- no step taken: 'how' reads 0, 0 -/
theorem bs_zero {a b : List Side} {i j x : Nat} : bsA a b i j x = none ↔ ((bsA a b i j x).getD (0, 0, 0)).2 = (0, 0) := by
  cases hb : bsA a b i j x with
  | none => simp
  | some q =>
    obtain ⟨⟨y, _, hy⟩, _⟩ := (bst_spec (prA a b) i j x).1 q hb
    have := stp_bd y
    rw [← hy] at this
    simp
    intro h
    rw [h] at this
    simp at this
theorem bs_zero' {a b : List Side} {i j x : Nat} : bsA a b i j x = none ↔ ((((bsA a b i j x).getD (0, 0, 0)).2.1 : Nat) : Int) = 0 ∧ ((((bsA a b i j x).getD (0, 0, 0)).2.2 : Nat) : Int) = 0 := by
  rw [bs_zero, Prod.ext_iff]
  constructor
  · intro ⟨h1, h2⟩; exact ⟨by rw [h1]; rfl, by rw [h2]; rfl⟩
  · intro ⟨h1, h2⟩; exact ⟨by show _ = (0 : Nat); omega, by show _ = (0 : Nat); omega⟩
def kindsV : List Value := [.int .i64 1, .int .i64 1, .int .i64 2, .int .i64 1, .int .i64 1, .int .i64 2, .int .i64 2, .int .i64 2, .int .i64 1, .int .i64 0, .int .i64 0, .int .i64 1]
theorem kinds_at : ∀ (x : Nat), x < 6 → (kindsV.drop (x * 2)).take 2 = [.int .i64 ((stp x).1 : Nat), .int .i64 ((stp x).2 : Nat)]
  | 0, _ => rfl
  | 1, _ => rfl
  | 2, _ => rfl
  | 3, _ => rfl
  | 4, _ => rfl
  | 5, _ => rfl
  | n + 6, h => absurd h (by omega)
end Go.Vc
