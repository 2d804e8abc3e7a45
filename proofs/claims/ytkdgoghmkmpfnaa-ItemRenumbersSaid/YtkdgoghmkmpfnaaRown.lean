/-
  Our own slices of values with memory behind them; stores into elements of our own slices. Generic over the program.
-/
import Derived.Test.YtkdgoghmkmpfnaaArr
import Derived.Test.YtkdgoghmkmpfnaaData
namespace Go.Vc
open Go Go.RowKit Go.IntWalk

theorem Evo.weaken {w w' : World} {X Y : List Nat} (h : Evo w w' X) (hX : ∀ x ∈ X, x ∈ Y ∨ w.heap.size ≤ x) : Evo w w' Y :=
  ⟨h.os, h.tape, h.output, h.size, fun b hb hn => h.same b hb (fun hm => by
    rcases hX b hm with h1 | h1
    · exact hn h1
    · omega)⟩

/-- 'v' owns a row of 'l'; what its elements hold is as it is in every world that differs in new blocks, in those of 'Y' and in the row's own -/
def OwnR {α : Type} [Rep α] (w : World) (base : Nat) (E : TypeId) (Y : List Nat) (v : Value) (l : List α) : Prop :=
  ∃ css, Own w base E (Rep.n α) v css ∧ ∀ w', Evo w w' (Y ++ v.ownBlock.toList) → RepL w' css l
section
variable {α : Type} [Rep α] {w w' : World} {base : Nat} {E : TypeId} {Y X : List Nat} {v : Value} {l : List α}
theorem OwnR.nil (w : World) (base : Nat) (E : TypeId) (Y : List Nat) : OwnR (α := α) w base E Y (.slice none 0 0) [] := ⟨[], Own.nil _ _ _ _, fun _ _ => RepL.nil _⟩
theorem OwnR.block (h : OwnR w base E Y v l) {g : Nat} (hg : v.ownBlock = some g) : base ≤ g ∧ g < w.heap.size := let ⟨_, h1, _⟩ := h; h1.block hg
theorem OwnR.shape (h : OwnR w base E Y v l) : ∃ ao cap, v = .slice ao l.length cap := by
  obtain ⟨css, h1, h2⟩ := h
  have := (h2 w (Evo.refl _ _)).1
  rw [← this]
  exact h1.shape
theorem OwnR.bd (h : OwnR w base E Y v l) : l.length ≤ 140737488355328 := by
  obtain ⟨css, h1, h2⟩ := h
  rw [← (h2 w (Evo.refl _ _)).1]
  exact h1.bd
theorem OwnR.evo (h : OwnR w base E Y v l) (he : Evo w w' X) (hX : ∀ x ∈ X, x ∈ Y ∨ w.heap.size ≤ x) (hb : ∀ g, v.ownBlock = some g → g ∉ X) : OwnR w' base E Y v l := by
  obtain ⟨css, h1, h2⟩ := h
  refine ⟨css, h1.evo he hb, fun w'' he2 => h2 w'' (Evo.trans (he.weaken (Y := Y ++ v.ownBlock.toList) (fun x hx => ?_)) he2 (fun x hx _ => hx))⟩
  rcases hX x hx with h3 | h3
  · exact .inl (List.mem_append_left _ h3)
  · exact .inr h3
theorem OwnR.evo0 (h : OwnR w base E Y v l) (he : Evo w w' []) : OwnR w' base E Y v l := h.evo he (by simp) (by simp)
/-- with what is in 'Y' written -/
theorem OwnR.evoY (h : OwnR w base E Y v l) (he : Evo w w' Y) (hb : ∀ y ∈ Y, y < base) : OwnR w' base E Y v l := h.evo he (fun x hx => .inl hx) (fun g hg hm => by have := hb g hm; have := h.block hg; omega)
theorem OwnR.sub {base' : Nat} {Y' : List Nat} (h : OwnR w base E Y v l) (hb : base' ≤ base) (hY : ∀ y ∈ Y', y ∈ Y) : OwnR w base' E Y' v l := by
  obtain ⟨css, h1, h2⟩ := h
  refine ⟨css, h1.base_le hb, fun w' he => h2 w' (he.mono (fun x hx => ?_))⟩
  rcases List.mem_append.1 hx with h3 | h3
  · exact List.mem_append_left _ (hY x h3)
  · exact List.mem_append_right _ h3
theorem OwnR.rowOf (h : OwnR w base E Y v l) : ∃ ao g cap, v = .slice ao l.length cap ∧ RowR w ao g 0 cap l := by
  obtain ⟨css, h1, h2⟩ := h
  have h3 := h2 w (Evo.refl _ _)
  obtain ⟨ao, g, cap, hv, hr, _⟩ := h1.rowOf
  exact ⟨ao, g, cap, by rw [← h3.1]; exact hv, css, hr, h3⟩
theorem run_lenOR {P : Program} {f : Fr} {o : Oper} {t e : TypeId} {x : Operand} (ho : o.op = .call ⟨.builtin .len, #[x], #[t]⟩) (hx : opv f x = v) (ht : P.underlying t = some (.slice e)) (hown : OwnR w base E Y v l) :
    (execOp (opv f) o).run P w = .ok (.value (.int .i64 (l.length : Int))) w := by
  obtain ⟨ao, cap, rfl⟩ := hown.shape
  exact run_lenSl ho hx ht
/-- 'x = append(x, e)' -/
theorem r_append1R {P : Program} {B : Exit → Act → World → Prop} {n : Nat} {k : List Kont} {f : Fr} {ops : Array Oper} {rest : List Oper} {T d d1 bb m : Nat} {t t1 : TypeId} {pos pos1 : String} {aft aft1 : Array Edge} {x e : Operand} {z u : Value} {us : List Value} {y : α}
    (hd : Nat.blt d n = true) (hd1 : Nat.blt d1 n = true) (hu : P.underlying T = some (.slice E)) (ht : tyP P E = some (m, bb, some z)) (hzs : z.cells.size = m) (hm : (Nat.ble 1 m && Nat.ble m 10000) = true) (hmn : m = Rep.n α)
    (hown : OwnR w base E Y v l) (hx : ∀ q, opv (upd f d1 q) x = v) (he : opv f e = u) (hus : u.cells = us.toArray) (hml : us.length = m) (h1 : oneCells us = true) (hrep : ∀ w', Evo w w' (Y ++ v.ownBlock.toList) → Rep.rep w' us y)
    (hbytes : (l.length + 1) * bb ≤ 140737488355328) (hlen : l.length + 1 ≤ 140737488355328) (hbase : base ≤ w.heap.size)
    (h : ∀ q v' w', Evo w w' v.ownBlock.toList → OwnR w' base E Y v' (l ++ [y]) → (v'.ownBlock = v.ownBlock ∨ ∃ g, v'.ownBlock = some g ∧ w.heap.size ≤ g) → KL P B n ops k rest (upd (upd f d1 q) d v') w') :
    KL P B n ops k (⟨some d1, .buildSlice T 1 #[(0, e)], t1, pos1, aft1, none⟩ :: ⟨some d, .call ⟨.builtin .append, #[x, .tmp d1], #[T, T]⟩, t, pos, aft, none⟩ :: rest) f w := by
  subst hmn
  obtain ⟨css, h2, h3⟩ := hown
  have hl := (h3 w (Evo.refl _ _)).1
  refine r_append1 hd hd1 hu ht hzs hm h2 hx he hus hml h1 (by rw [hl]; exact hbytes) (by rw [hl]; exact hlen) hbase (fun q v' w' he' hown' hloc => h q v' w' he' ⟨_, hown', fun w'' he2 => ?_⟩ hloc)
  have hE : Evo w w'' (Y ++ v.ownBlock.toList) := Evo.trans (he'.weaken (fun x hx => .inl (List.mem_append_right _ hx))) he2 (fun x hx hlt => by
    rcases List.mem_append.1 hx with h4 | h4
    · exact List.mem_append_left _ h4
    · have h5 : v'.ownBlock = some x := by simpa using h4
      rcases hloc with h6 | ⟨g, h6, h7⟩
      · exact List.mem_append_right _ (by rw [← h6]; exact h4)
      · rw [h5] at h6; injection h6 with h6; omega)
  exact (h3 w'' hE).append (RepL.one (hrep w'' hE))
end

theorem run_quow {P : Program} {f : Fr} {w : World} {o : Oper} {t t2 : TypeId} {x y : Operand} {a b : Int} (ho : o.op = .binOp .quo t x y t2) (hx : opv f x = .int .i64 a) (hy : opv f y = .int .i64 b) (h0 : b ≠ 0) :
    (execOp (opv f) o).run P w = .ok (.value (.int .i64 (IntKind.i64.wrap (a.tdiv b)))) w := by
  refine run_bin ho hx hy ?_
  simp [binOp, Op.intDiv, h0]
/-! ### A store into an element of our own slice -/
theorem flatten_set (m : Nat) : ∀ (css : List (List Value)) (i k : Nat) (c vs : List Value), (∀ cs ∈ css, cs.length = m) → css[i]? = some c → k + vs.length ≤ m →
    css.flatten.take (i * m + k) ++ vs ++ css.flatten.drop (i * m + k + vs.length) = (css.set i (c.take k ++ vs ++ c.drop (k + vs.length))).flatten
  | [], i, k, c, vs, _, h, _ => by simp at h
  | d :: css, 0, k, c, vs, hm, h, hk => by
    simp at h; subst h
    have hd : d.length = m := hm d (by simp)
    simp only [List.flatten_cons, Nat.zero_mul, Nat.zero_add, List.set_cons_zero]
    rw [List.take_append_of_le_length (by omega), List.drop_append_of_le_length (by omega)]
    simp
  | d :: css, i + 1, k, c, vs, hm, h, hk => by
    have hd : d.length = m := hm d (by simp)
    have ih := flatten_set m css i k c vs (fun x hx => hm x (by simp [hx])) (by simpa using h) hk
    simp only [List.flatten_cons, List.set_cons_succ]
    rw [← ih]
    have e1 : (i + 1) * m + k = d.length + (i * m + k) := by rw [hd, Nat.add_mul]; omega
    have e2 : (i + 1) * m + k + vs.length = d.length + (i * m + k + vs.length) := by omega
    rw [e2, e1, List.take_length_add_append, List.drop_length_add_append]
    simp
section
variable {P : Program} {B : Exit → Act → World → Prop} {n : Nat} {k : List Kont} {f : Fr} {w : World} {ops : Array Oper} {rest : List Oper}
theorem r_storeO {T E : TypeId} {t : TypeId} {pos : String} {aft : Array Edge} {x y : Operand} {base g m mt bb off : Nat} {z : Option Value} {v u : Value} {css : List (List Value)} {vs c : List Value} (i k0 : Nat)
    (hx : opv f x = .pointer (some ⟨g, off, none⟩)) (hoff : off = 0 + i * m + k0) (hy : opv f y = u) (hown : Own w base E m v css) (hg : v.ownBlock = some g) (hc : css[i]? = some c) (ht : tyP P T = some (mt, bb, z)) (hv : u.cells = vs.toArray) (hm : vs.length = mt)
    (h1 : oneCells vs = true) (hk : k0 + vs.length ≤ m)
    (h : ∀ w', Evo w w' [g] → w'.heap.size = w.heap.size → Own w' base E m v (css.set i (c.take k0 ++ vs ++ c.drop (k0 + vs.length))) → KL P B n ops k rest f w') :
    KL P B n ops k (⟨none, .store T x y, t, pos, aft, none⟩ :: rest) f w := by
  subst hoff
  have hi : i < css.length := by
    rcases Nat.lt_or_ge i css.length with h2 | h2
    · exact h2
    · rw [List.getElem?_eq_none h2] at hc; cases hc
  have hcm : c.length = m := hown.each c (List.mem_of_getElem? hc)
  rcases hown.row.2 with ⟨hv2, _⟩ | ⟨g2, cap, cur, hv2, hb, hblk, hn, hcap, hs, htk⟩
  · rw [hv2] at hg; cases hg
  · have e : g2 = g := by rw [hv2] at hg; simpa [Value.ownBlock] using hg
    subst e
    have hB : Blk w g2 E cur.toList := by simpa [Blk] using hblk
    have hle : i * m + m ≤ css.length * m := by have := Nat.mul_le_mul_right m (show i + 1 ≤ css.length from hi); rw [Nat.add_mul, Nat.one_mul] at this; exact this
    have hle2 : css.length * m ≤ cap * m := Nat.mul_le_mul_right m hn
    refine r_store (T' := E) (cs' := cur.toList.take (0 + i * m + k0) ++ vs ++ cur.toList.drop (0 + i * m + k0 + vs.length)) hx hy hB ht hv hm h1 ?_ rfl (fun w' he hsz hB' => h w' he hsz ⟨⟨?_, .inr ⟨g2, cap, (cur.toList.take (0 + i * m + k0) ++ vs ++ cur.toList.drop (0 + i * m + k0 + vs.length)).toArray, ?_, hb, hB', ?_, hcap, ?_, ?_⟩⟩, ?_, ?_⟩)
    · rw [Nat.ble_eq]; simp [hs]; omega
    · rw [flatten_length _ m, List.length_set]
      intro d hd
      rcases List.mem_or_eq_of_mem_set hd with h3 | h3
      · exact hown.each d h3
      · rw [h3]; simp; omega
    · rw [hv2, List.length_set]
    · rw [List.length_set]; exact hn
    · simp [hs]; omega
    · rw [List.length_set]
      rw [← flatten_set m css i k0 c vs hown.each hc hk]
      have hfl := flatten_length css m hown.each
      obtain ⟨R, hcur⟩ : ∃ R, cur.toList = css.flatten ++ R := ⟨cur.toList.drop (css.length * m), by rw [← htk, List.take_append_drop]⟩
      have e1 : (css.flatten ++ R).take (i * m + k0) = css.flatten.take (i * m + k0) := List.take_append_of_le_length (by omega)
      have e2 : (css.flatten ++ R).drop (i * m + k0 + vs.length) = css.flatten.drop (i * m + k0 + vs.length) ++ R := List.drop_append_of_le_length (by omega)
      simp only [Nat.zero_add]
      rw [hcur, e1, e2, ← List.append_assoc]
      refine List.take_left' ?_
      simp only [List.length_append, List.length_take, List.length_drop]
      omega
    · intro d hd
      rcases List.mem_or_eq_of_mem_set hd with h3 | h3
      · exact hown.each d h3
      · rw [h3]; simp; omega
    · rw [List.length_set]; exact hown.bd
end

/-! ### Sides -/
theorem side_own {w : World} {base E : Nat} {Y : List Nat} {v vs : Value} {ls : List Str} (len : Int) (h : OwnE w base E vs ls) (hY : ∀ y ∈ Y, y < base) (hv : ∀ g, v.ownBlock = some g → g < base) :
    ∀ w', Evo w w' (Y ++ v.ownBlock.toList) → Rep.rep w' [.int .i64 len, vs] (⟨len, ls⟩ : Side) := fun w' he => by
  have h2 := h.evo he (fun g hg hm => by
    have hb := (h.block hg).1
    rcases List.mem_append.1 hm with h3 | h3
    · have := hY g h3; omega
    · have := hv g (by simpa using h3); omega)
  obtain ⟨ao, g, cap, hv2, hr, _⟩ := h2.rowOf
  exact ⟨ao, g, 0, cap, by rw [hv2], hr⟩
theorem side_row {w0 w : World} {Y : List Nat} {v : Value} {ao : Option Addr} {b off cap : Nat} {ls : List Str} (len : Int) (h0 : ∀ w', Evo w0 w' [] → RowE w' ao b off cap ls) (hV : Evo w0 w []) (hY : ∀ y ∈ Y, w0.heap.size ≤ y) (hv : ∀ g, v.ownBlock = some g → w0.heap.size ≤ g) :
    ∀ w', Evo w w' (Y ++ v.ownBlock.toList) → Rep.rep w' [.int .i64 len, .slice ao ls.length cap] (⟨len, ls⟩ : Side) := fun w' he =>
  ⟨ao, b, off, cap, rfl, h0 w' (hV.trans he (fun x hx hlt => by
    rcases List.mem_append.1 hx with h3 | h3
    · have := hY x h3; omega
    · have := hv x (by simpa using h3); omega))⟩
/-- a slice literal of values with memory behind them, as a row -/
theorem rowLitR {α : Type} [Rep α] {w : World} {b : Nat} {T : TypeId} {cs : List Value} (css : List (List Value)) (l : List α) (h : Blk w b T cs) (hc : cs = css.flatten) (hr : RepL w css l) (hl : Nat.ble l.length 10000 = true) : RowR w (some ⟨b, 0, none⟩) b 0 l.length l := by
  subst hc
  have hlen : ∀ c ∈ css, c.length = Rep.n α := by
    intro c hc
    obtain ⟨i, hi⟩ := List.getElem?_of_mem hc
    have hi2 : i < l.length := by
      rw [← hr.1]
      rcases Nat.lt_or_ge i css.length with h1 | h1
      · exact h1
      · rw [List.getElem?_eq_none h1] at hi; cases hi
    exact Rep.len (hr.2 i c l[i] hi (by simp [hi2]))
  refine ⟨css, ⟨⟨by rw [hr.1]; exact Nat.le_refl _, by rw [hr.1]; have := Nat.le_of_ble_eq_true hl; omega⟩, fun _ => rfl, fun i cs hi => ?_⟩, hr⟩
  have hcs := hlen cs (List.mem_of_getElem? hi)
  refine ⟨hcs, fun j v hj => ?_⟩
  have hjm : j < Rep.n α := by
    rcases Nat.lt_or_ge j (Rep.n α) with h1 | h1
    · exact h1
    · rw [List.getElem?_eq_none (by omega)] at hj; cases hj
  have := h.at (i * Rep.n α + j) v (by rw [flatten_at _ _ i j cs hlen hi hjm]; exact hj)
  rwa [← Nat.add_assoc] at this
theorem side_lit {w : World} {b : Nat} {ls : List Str} {n cap : Nat} (len : Int) (h : RowE w (some ⟨b, 0, none⟩) b 0 cap ls) (hn : n = ls.length) : Rep.rep w [.int .i64 len, .slice (some ⟨b, 0, none⟩) n cap] (⟨len, ls⟩ : Side) := ⟨_, b, 0, cap, by rw [hn], h⟩
theorem side_nil (w : World) (len : Int) : Rep.rep w [.int .i64 len, .slice none 0 0] (⟨len, []⟩ : Side) := ⟨none, 0, 0, 0, rfl, RowE.nil _ _ _ _ _⟩
end Go.Vc
