/-
  Blocks of our own, read as functions: what 'make' makes, tables. Generic over the program.
-/
import Derived.Test.YtkdgoghmkmpfnaaDrw
import Derived.Laws.MakeOwn
namespace Go.Vc
open Go Go.RowKit Go.IntWalk

/-- the cells of 'n' elements -/
def flat (n : Nat) (c : Nat → List Value) : List Value := (List.range n).flatMap c
theorem flat_succ (n : Nat) (c : Nat → List Value) : flat (n + 1) c = flat n c ++ c n := by unfold flat; rw [List.range_succ]; simp
theorem flat_length {s : Nat} {c : Nat → List Value} (h : ∀ x, (c x).length = s) : ∀ n, (flat n c).length = n * s
  | 0 => by simp [flat]
  | n + 1 => by rw [flat_succ, List.length_append, flat_length h n, h, Nat.add_mul, Nat.one_mul]
theorem flat_at {s : Nat} {c : Nat → List Value} (h : ∀ x, (c x).length = s) {j : Nat} (hj : j < s) : ∀ (n x : Nat), x < n → (flat n c)[x * s + j]? = (c x)[j]?
  | 0, x, hx => absurd hx (by omega)
  | n + 1, x, hx => by
    rw [flat_succ]
    by_cases e : x = n
    · subst e
      rw [List.getElem?_append_right (by rw [flat_length h]; omega), flat_length h]
      congr 1
      omega
    · have hx' : x < n := by omega
      have : x * s + j < n * s := by
        have := Nat.mul_le_mul_right s (show x + 1 ≤ n from hx')
        rw [Nat.add_mul, Nat.one_mul] at this
        omega
      rw [List.getElem?_append_left (by rw [flat_length h]; exact this)]
      exact flat_at h hj n x hx'
theorem flat_congr {c c' : Nat → List Value} {n : Nat} (h : ∀ x, x < n → c x = c' x) : flat n c = flat n c' := by
  induction n with
  | zero => rfl
  | succ n ih => rw [flat_succ, flat_succ, ih (fun x hx => h x (by omega)), h n (by omega)]
theorem flat_set {s : Nat} {c : Nat → List Value} (h : ∀ x, (c x).length = s) (vs : List Value) (hv : vs.length = s) (n x : Nat) (hx : x < n) :
    (flat n c).take (x * s) ++ vs ++ (flat n c).drop (x * s + vs.length) = flat n (fun y => if y = x then vs else c y) := by
  have h2 : ∀ y, ((fun y => if y = x then vs else c y) y).length = s := fun y => by dsimp only; split <;> simp [*]
  have hle : x * s + s ≤ n * s := by have := Nat.mul_le_mul_right s (show x + 1 ≤ n from hx); rw [Nat.add_mul, Nat.one_mul] at this; exact this
  have hl := flat_length h n
  apply List.ext_getElem?
  intro i
  by_cases hi : i < n * s
  · have hs : 0 < s := by
      rcases Nat.eq_zero_or_pos s with e | e
      · rw [e] at hi; omega
      · exact e
    have hq : i / s < n := (Nat.div_lt_iff_lt_mul hs).2 hi
    have hr : i % s < s := Nat.mod_lt _ hs
    have hi2 : i = (i / s) * s + i % s := by rw [Nat.mul_comm]; exact (Nat.div_add_mod i s).symm
    have e1 : (flat n (fun y => if y = x then vs else c y))[i]? = (if i / s = x then vs else c (i / s))[i % s]? := by
      conv => lhs; rw [hi2]
      exact flat_at h2 hr n _ hq
    have e2 : (flat n c)[i]? = (c (i / s))[i % s]? := by
      conv => lhs; rw [hi2]
      exact flat_at h hr n _ hq
    rw [e1]
    by_cases hx1 : i < x * s
    · have hlt : i / s < x := (Nat.div_lt_iff_lt_mul hs).2 hx1
      rw [List.append_assoc, List.getElem?_append_left (by rw [List.length_take]; omega), List.getElem?_take_of_lt hx1, e2, if_neg (by omega)]
    · by_cases hx2 : i < x * s + s
      · have hix : i / s = x := by
          have h3 : x ≤ i / s := (Nat.le_div_iff_mul_le hs).2 (by omega)
          have h4 : i / s < x + 1 := (Nat.div_lt_iff_lt_mul hs).2 (by rw [Nat.add_mul, Nat.one_mul]; exact hx2)
          omega
        rw [if_pos hix, List.append_assoc, List.getElem?_append_right (by rw [List.length_take]; omega), List.length_take, Nat.min_eq_left (by omega), List.getElem?_append_left (by omega)]
        congr 1
        rw [hix] at hi2
        omega
      · have hgt : i / s ≠ x := by
          intro e
          rw [e] at hi2
          omega
        rw [if_neg hgt, ← e2, List.getElem?_append_right (by rw [List.length_append, List.length_take]; omega), List.getElem?_drop, List.length_append, List.length_take]
        congr 1
        omega
  · rw [List.getElem?_eq_none (by rw [List.length_append, List.length_append, List.length_take, List.length_drop]; omega), List.getElem?_eq_none (by rw [flat_length h2]; omega)]

/-- block 'b' holds 'n' elements of 's' cells each -/
structure FB (w : World) (b : Nat) (T : TypeId) (s n : Nat) (c : Nat → List Value) : Prop where
  blk : Blk w b T (flat n c)
  len : ∀ x, (c x).length = s
section
variable {w w' : World} {b : Nat} {T : TypeId} {s n : Nat} {c : Nat → List Value} {E : List Nat}
theorem FB.evo (h : FB w b T s n c) (he : Evo w w' E) (hn : b ∉ E) : FB w' b T s n c := ⟨h.blk.evo he hn, h.len⟩
theorem FB.evo0 (h : FB w b T s n c) (he : Evo w w' []) : FB w' b T s n c := h.evo he (by simp)
theorem FB.lt (h : FB w b T s n c) : b < w.heap.size := h.blk.lt
theorem FB.cell (h : FB w b T s n c) {x j : Nat} (hx : x < n) (hj : j < s) {v : Value} (hv : (c x)[j]? = some v) : w.cell? ⟨b, 0 + x * s + j, none⟩ = some v := by
  have := h.blk.at (x * s + j) v (by rw [flat_at h.len hj n x hx]; exact hv)
  rwa [← Nat.add_assoc] at this
theorem FB.cell0 (h : FB w b T s n c) {x : Nat} (hx : x < n) {v : Value} {r : List Value} (hv : c x = v :: r) : w.cell? ⟨b, 0 + x * s, none⟩ = some v :=
  h.cell (j := 0) hx (by rw [← h.len x, hv]; simp) (by rw [hv]; rfl)
theorem FB.at (h : FB w b T s n c) {x : Nat} (hx : x < n) : At w b (0 + x * s) (c x) := fun j v hj => h.cell hx (by
  rcases Nat.lt_or_ge j s with h1 | h1
  · exact h1
  · rw [List.getElem?_eq_none (by rw [h.len]; exact h1)] at hj; cases hj) hj
theorem FB.congr (h : FB w b T s n c) {c' : Nat → List Value} (hc : ∀ x, c' x = c x) : FB w b T s n c' := by
  rw [show c' = c from funext hc]; exact h
theorem FB.congr' (h : FB w b T s n c) {c' : Nat → List Value} (hl : ∀ x, (c' x).length = s) (hc : ∀ x, x < n → c' x = c x) : FB w b T s n c' :=
  ⟨by rw [flat_congr hc]; exact h.blk, hl⟩
end

section
variable {P : Program} {B : Exit → Act → World → Prop} {n : Nat} {k : List Kont} {f : Fr} {w : World} {ops : Array Oper} {rest : List Oper}

theorem madeCells_flat {z : Value} {zs : List Value} {m : Nat} (hz : z.cells = zs.toArray) (hm : zs.length = m) (h0 : 0 < m) (len : Nat) : madeCells z.cells (len * m) = (flat len (fun _ => zs)).toArray := by
  have e : flat len (fun _ => zs) = (List.replicate len zs).flatten := by
    unfold flat
    induction len with
    | zero => simp
    | succ len ih => rw [List.range_succ, List.replicate_succ', List.flatMap_append, ih]; simp
  rw [e, ← zeros_cells hz hm h0 len]
  unfold madeCells
  apply Array.ext'
  simp
theorem r_make {T E d m bb len : Nat} {t : TypeId} {pos : String} {aft : Array Edge} {x y : Operand} {z : Value} {zs : List Value} {κ κ' : IntKind} {i j : Int}
    (hu : P.underlying T = some (.slice E)) (ht : tyP P E = some (m, bb, some z)) (hz : z.cells = zs.toArray) (hm : (Nat.beq zs.length m && Nat.ble 1 m) = true) (hd : Nat.blt d n = true)
    (hx : opv f x = .int κ i) (hy : opv f y = .int κ' j) (hi : i = (len : Int)) (hj : j = (len : Int)) (hlen : len * m ≤ 10000000) (hb : bb * len ≤ 10000000)
    (h : ∀ b w', b = w.heap.size → Evo w w' [] → FB w' b E m len (fun _ => zs) → w'.heap.size = b + 1 → KL P B n ops k rest (upd f d (.slice (some ⟨b, 0, none⟩) len len)) w') :
    KL P B n ops k (⟨some d, .makeSlice T x y, t, pos, aft, none⟩ :: rest) f w := by
  simp only [Bool.and_eq_true, Nat.ble_eq] at hm
  have hzl := Nat.eq_of_beq_eq_true hm.1
  obtain ⟨it, hit, h1, h2, h3⟩ := info_of ht
  have hll : len ≤ len * m := Nat.le_mul_of_pos_right len (by omega)
  have hbb : (bb : Int) * (len : Int) = ((bb * len : Nat) : Int) := by simp
  have hrun := run_makeSlice (P := P) (w := w) T E it z hu hit h3 κ κ' (len : Int) (len : Int) (by omega) (Int.le_refl _) (by rw [h1, Int.toNat_natCast]; omega) (by rw [h2, hbb]; omega) (by omega)
  simp only [Int.toNat_natCast, h1] at hrun
  rw [madeCells_flat hz hzl (by omega) len] at hrun
  refine r_op (v := .slice (some ⟨w.heap.size, 0, none⟩) len len) (w' := w.alloc (.cells (flat len (fun _ => zs)).toArray E)) rfl rfl hd ?_ (h _ _ rfl (Evo.alloc _ _ _) ⟨heap_alloc_new w _, fun _ => hzl⟩ (by simp))
  subst hi
  subst hj
  simp [execOp, hx, hy, hrun]
/-- a whole element is stored -/
theorem r_storeF {T T' : TypeId} {t : TypeId} {pos : String} {aft : Array Edge} {x y : Operand} {b len m bb off : Nat} {z : Option Value} {v : Value} {c : Nat → List Value} {vs : List Value} (i : Nat)
    (hx : opv f x = .pointer (some ⟨b, off, none⟩)) (hoff : off = 0 + i * m) (hy : opv f y = v) (hb : FB w b T' m len c) (hi : i < len) (ht : tyP P T = some (m, bb, z)) (hv : v.cells = vs.toArray) (hm : Nat.beq vs.length m = true)
    (h1 : oneCells vs = true)
    (h : ∀ w', Evo w w' [b] → w'.heap.size = w.heap.size → FB w' b T' m len (fun q => if q = i then vs else c q) → KL P B n ops k rest f w') :
    KL P B n ops k (⟨none, .store T x y, t, pos, aft, none⟩ :: rest) f w := by
  subst hoff
  have hm := Nat.eq_of_beq_eq_true hm
  have hle : i * m + m ≤ len * m := by have := Nat.mul_le_mul_right m (show i + 1 ≤ len from hi); rw [Nat.add_mul, Nat.one_mul] at this; exact this
  refine r_store (T' := T') (cs' := flat len (fun q => if q = i then vs else c q)) hx hy hb.blk ht hv hm h1 ?_ ?_ (fun w' he hs hB => h w' he hs ⟨hB, fun q => by split <;> simp [hb.len, hm]⟩)
  · rw [Nat.ble_eq, flat_length hb.len]; omega
  · have := flat_set hb.len vs hm len i hi
    simpa using this
end

/-! ### Tables: a slice of slices, all of our own -/
def rowsC (rb : Nat → Nat) (lo m : Nat) : Nat → List Value := fun x => if lo ≤ x then [.slice (some ⟨rb x, 0, none⟩) m m] else [.slice none 0 0]
theorem rowsC_at {rb : Nat → Nat} {lo m x : Nat} (h : lo ≤ x) : rowsC rb lo m x = [.slice (some ⟨rb x, 0, none⟩) m m] := by unfold rowsC; rw [if_pos h]
/-- 'n' places for rows; the rows from 'lo' on are there, of 'm' elements of 's' cells; 'c' is what they hold -/
structure Tab (w : World) (base bt : Nat) (T E : TypeId) (s n m lo : Nat) (rb : Nat → Nat) (c : Nat → Nat → List Value) : Prop where
  out : FB w bt T 1 n (rowsC rb lo m)
  row : ∀ x, lo ≤ x → x < n → FB w (rb x) E s m (c x)
  old : ∀ x, lo ≤ x → x < n → base ≤ rb x ∧ rb x ≠ bt
  apart : ∀ x y, lo ≤ x → x < n → lo ≤ y → y < n → rb x = rb y → x = y
  base : base ≤ bt
section
variable {w w' : World} {base bt : Nat} {T E : TypeId} {s n m lo : Nat} {rb : Nat → Nat} {c : Nat → Nat → List Value} {X : List Nat}
theorem Tab.new (h : FB w bt T 1 n (fun _ => [.slice none 0 0])) (hb : base ≤ bt) (rb : Nat → Nat) (c : Nat → Nat → List Value) : Tab w base bt T E s n m n rb c :=
  ⟨h.congr' (fun x => by unfold rowsC; split <;> rfl) (fun x hx => by unfold rowsC; rw [if_neg (by omega)]), fun x h1 h2 => absurd h2 (by omega), fun x h1 h2 => absurd h2 (by omega), fun x y h1 h2 => absurd h2 (by omega), hb⟩
theorem Tab.evo (h : Tab w base bt T E s n m lo rb c) (he : Evo w w' X) (h1 : bt ∉ X) (h2 : ∀ x, lo ≤ x → x < n → rb x ∉ X) : Tab w' base bt T E s n m lo rb c :=
  ⟨h.out.evo he h1, fun x h3 h4 => (h.row x h3 h4).evo he (h2 x h3 h4), h.old, h.apart, h.base⟩
theorem Tab.evo0 (h : Tab w base bt T E s n m lo rb c) (he : Evo w w' []) : Tab w' base bt T E s n m lo rb c := h.evo he (by simp) (by simp)
theorem Tab.lt (h : Tab w base bt T E s n m lo rb c) : bt < w.heap.size ∧ ∀ x, lo ≤ x → x < n → rb x < w.heap.size := ⟨h.out.lt, fun x h1 h2 => (h.row x h1 h2).lt⟩
/-- a row is laid: 'b' was new when the table was as 'w' has it -/
theorem Tab.add (h : Tab w base bt T E s n m (lo + 1) rb c) (hlo : lo < n) {b : Nat} {cb : Nat → List Value} (hb : w.heap.size ≤ b) (hbase : base ≤ w.heap.size) (he : Evo w w' [bt]) (hout : FB w' bt T 1 n (fun q => if q = lo then [.slice (some ⟨b, 0, none⟩) m m] else rowsC rb (lo + 1) m q))
    (hrow : FB w' b E s m cb) {c' : Nat → Nat → List Value} (hc : c' lo = cb) (hc2 : ∀ x, lo < x → c' x = c x) : Tab w' base bt T E s n m lo (fun q => if q = lo then b else rb q) c' := by
  refine ⟨hout.congr (fun x => ?_), fun x h1 h2 => ?_, fun x h1 h2 => ?_, fun x y h1 h2 h3 h4 => ?_, h.base⟩
  · unfold rowsC
    show (if lo ≤ x then [Value.slice (some ⟨if x = lo then b else rb x, 0, none⟩) m m] else [Value.slice none 0 0]) = _
    by_cases e : x = lo
    · rw [if_pos (by omega), if_pos e, if_pos e]
    · by_cases e2 : lo + 1 ≤ x
      · rw [if_pos (by omega), if_neg e, if_neg e, if_pos e2]
      · rw [if_neg (by omega), if_neg e, if_neg e2]
  · by_cases e : x = lo
    · subst e; simp only [if_true]; rw [hc]; exact hrow
    · simp only [if_neg e]
      rw [hc2 x (by omega)]
      exact (h.row x (by omega) h2).evo he (by have := (h.old x (by omega) h2).2; simpa using this)
  · by_cases e : x = lo
    · have := h.out.lt
      simp only [if_pos e]
      exact ⟨by omega, by omega⟩
    · simp only [if_neg e]; exact h.old x (by omega) h2
  · have hl := fun z h1 h2 => (h.row z h1 h2).lt
    by_cases e : x = lo <;> by_cases e2 : y = lo
    · intro _; omega
    · simp only [if_pos e, if_neg e2]; intro e3; have := hl y (by omega) h4; omega
    · simp only [if_neg e, if_pos e2]; intro e3; have := hl x (by omega) h2; omega
    · simp only [if_neg e, if_neg e2]; exact h.apart x y (by omega) h2 (by omega) h4
theorem Tab.congr (h : Tab w base bt T E s n m lo rb c) {c' : Nat → Nat → List Value} (hc : ∀ x, lo ≤ x → x < n → ∀ y, c' x y = c x y) : Tab w base bt T E s n m lo rb c' :=
  ⟨h.out, fun x h1 h2 => (h.row x h1 h2).congr (hc x h1 h2), h.old, h.apart, h.base⟩
/-- a store into row 'i' -/
theorem Tab.store (h : Tab w base bt T E s n m lo rb c) {i : Nat} (h1 : lo ≤ i) (h2 : i < n) (he : Evo w w' [rb i]) {cb : Nat → List Value} (hr : FB w' (rb i) E s m cb) : Tab w' base bt T E s n m lo rb (fun x => if x = i then cb else c x) := by
  refine ⟨h.out.evo he (by have := (h.old i h1 h2).2; simpa using Ne.symm this), fun x h3 h4 => ?_, h.old, h.apart, h.base⟩
  by_cases e : x = i
  · subst e; simp only [if_true]; exact hr
  · simp only [if_neg e]
    exact (h.row x h3 h4).evo he (by simp; intro e3; exact e (h.apart x i h3 h4 h1 h2 e3))
theorem Tab.load (h : Tab w base bt T E s n m lo rb c) (x : Nat) (h1 : lo ≤ x) (h2 : x < n) : w.cell? ⟨bt, 0 + x * 1, none⟩ = some (.slice (some ⟨rb x, 0, none⟩) m m) := h.out.cell0 h2 (rowsC_at h1)
theorem Tab.cell (h : Tab w base bt T E s n m lo rb c) (x y j : Nat) (h1 : lo ≤ x) (h2 : x < n) (h3 : y < m) (h4 : j < s) {v : Value} (hv : (c x y)[j]? = some v) : w.cell? ⟨rb x, 0 + y * s + j, none⟩ = some v := (h.row x h1 h2).cell h3 h4 hv
theorem Tab.cell0 (h : Tab w base bt T E s n m lo rb c) (x y : Nat) (h1 : lo ≤ x) (h2 : x < n) (h3 : y < m) {v : Value} {r : List Value} (hv : c x y = v :: r) : w.cell? ⟨rb x, 0 + y * s, none⟩ = some v := (h.row x h1 h2).cell0 h3 hv
theorem Tab.at (h : Tab w base bt T E s n m lo rb c) (x y : Nat) (h1 : lo ≤ x) (h2 : x < n) (h3 : y < m) : At w (rb x) (0 + y * s) (c x y) := (h.row x h1 h2).at h3
end

/-- a slice literal, as a row -/
theorem rowLit {α : Type} [Enc α] {w : World} {b : Nat} {T : TypeId} {cs : List Value} (l : List α) (h : Blk w b T cs) (hc : cs = (l.map Enc.enc).flatten) (hl : Nat.ble l.length 10000 = true) : RowE w (some ⟨b, 0, none⟩) b 0 l.length l := by
  subst hc
  refine ⟨⟨by simp, by have := Nat.le_of_ble_eq_true hl; simp; omega⟩, fun _ => rfl, fun i cs hi => ?_⟩
  have hlen : ∀ c ∈ l.map (Enc.enc (α := α)), c.length = Enc.n α := by
    intro c hc
    obtain ⟨x, _, rfl⟩ := List.mem_map.1 hc
    exact Enc.len x
  have hcs := hlen cs (List.mem_of_getElem? hi)
  refine ⟨hcs, fun j v hj => ?_⟩
  have hjm : j < Enc.n α := by
    rcases Nat.lt_or_ge j (Enc.n α) with h1 | h1
    · exact h1
    · rw [List.getElem?_eq_none (by omega)] at hj; cases hj
  have := h.at (i * Enc.n α + j) v (by rw [flatten_at _ _ i j cs hlen hi hjm]; exact hj)
  rwa [← Nat.add_assoc] at this
end Go.Vc
