/-
  Slices of our own: nil, or a row that begins a block of our own; append, make, stores into them; the conversions between strings and bytes. Generic over the program.
-/
import Derived.Test.YtkdgoghmkmpfnaaMem
import Derived.Maps.AppendAt
namespace Go.Vc
open Go Go.RowKit Go.IntWalk

/-- 'v' owns a row whose elements have the cells 'css' ('m' each, of type 'E'). -/
structure Own (w : World) (base : Nat) (E : TypeId) (m : Nat) (v : Value) (css : List (List Value)) : Prop where
  row : w.ownsRow base E m v css.length css.flatten
  each : ∀ cs ∈ css, cs.length = m
  bd : css.length ≤ 140737488355328

theorem flatten_at : ∀ (css : List (List Value)) (m i j : Nat) (cs : List Value), (∀ cs ∈ css, cs.length = m) → css[i]? = some cs → j < m → css.flatten[i * m + j]? = cs[j]?
  | [], _, _, _, _, _, h, _ => by simp at h
  | c :: css, m, 0, j, cs, hm, h, hj => by
    simp at h
    subst h
    have hc : c.length = m := hm c (by simp)
    simp only [List.flatten_cons, Nat.zero_mul, Nat.zero_add]
    rw [List.getElem?_append_left (by omega)]
  | c :: css, m, i + 1, j, cs, hm, h, hj => by
    have hc : c.length = m := hm c (by simp)
    have ih := flatten_at css m i j cs (fun x hx => hm x (by simp [hx])) (by simpa using h) hj
    simp only [List.flatten_cons]
    have e : (i + 1) * m + j = c.length + (i * m + j) := by rw [hc, Nat.add_mul]; omega
    rw [e, List.getElem?_append_right (by omega)]
    simpa using ih
theorem flatten_length : ∀ (css : List (List Value)) (m : Nat), (∀ cs ∈ css, cs.length = m) → css.flatten.length = css.length * m
  | [], _, _ => by simp
  | c :: css, m, hm => by
    have := flatten_length css m (fun x hx => hm x (by simp [hx]))
    simp only [List.flatten_cons, List.length_append, List.length_cons, this, hm c (by simp), Nat.add_mul]
    omega

section
variable {w w' : World} {base : Nat} {E : TypeId} {m : Nat} {v : Value} {css : List (List Value)}
theorem Own.nil (w : World) (base : Nat) (E : TypeId) (m : Nat) : Own w base E m (.slice none 0 0) [] := ⟨World.ownsRow_nil w base E m, by simp, by simp⟩
/-- its form -/
theorem Own.form (h : Own w base E m v css) : (v = .slice none 0 0 ∧ css = []) ∨ ∃ g cap, v = .slice (some ⟨g, 0, none⟩) css.length cap ∧ base ≤ g ∧ g < w.heap.size ∧ css.length ≤ cap ∧ cap ≤ maxLen := by
  rcases h.row.2 with ⟨hv, hn⟩ | ⟨g, cap, cur, hv, hb, hg, hn, hc, _⟩
  · exact .inl ⟨hv, List.eq_nil_of_length_eq_zero hn⟩
  · refine .inr ⟨g, cap, hv, hb, ?_, hn, hc⟩
    rcases Nat.lt_or_ge g w.heap.size with h1 | h1
    · exact h1
    · rw [Array.getElem?_eq_none h1] at hg; cases hg
theorem Own.shape (h : Own w base E m v css) : ∃ ao cap, v = .slice ao css.length cap := by
  rcases h.form with ⟨hv, hc⟩ | ⟨g, cap, hv, _⟩
  · exact ⟨none, 0, by rw [hv, hc]; rfl⟩
  · exact ⟨_, cap, hv⟩
theorem Own.block (h : Own w base E m v css) {g : Nat} (hg : v.ownBlock = some g) : base ≤ g ∧ g < w.heap.size := h.row.lt g hg
theorem Own.evo {X : List Nat} (h : Own w base E m v css) (he : Evo w w' X) (hn : ∀ g, v.ownBlock = some g → g ∉ X) : Own w' base E m v css := by
  refine ⟨⟨h.row.1, ?_⟩, h.each, h.bd⟩
  rcases h.row.2 with hv | ⟨g, cap, cur, hv, hb, hg, r⟩
  · exact .inl hv
  · refine .inr ⟨g, cap, cur, hv, hb, ?_, r⟩
    have hlt : g < w.heap.size := (h.row.lt g (by rw [hv]; rfl)).2
    exact (he.same g hlt (hn g (by rw [hv]; rfl))).trans hg
theorem Own.evo0 (h : Own w base E m v css) (he : Evo w w' []) : Own w' base E m v css := h.evo he (by simp)
theorem Own.base_le {base' : Nat} (h : Own w base E m v css) (hb : base' ≤ base) : Own w base' E m v css := by
  refine ⟨⟨h.row.1, ?_⟩, h.each, h.bd⟩
  rcases h.row.2 with hv | ⟨g, cap, cur, hv, hbg, r⟩
  · exact .inl hv
  · exact .inr ⟨g, cap, cur, hv, Nat.le_trans hb hbg, r⟩
/-- as a row that is only read -/
theorem Own.rowOf (h : Own w base E m v css) : ∃ ao g cap, v = .slice ao css.length cap ∧ Row w m ao g 0 cap css ∧ (css ≠ [] → v.ownBlock = some g ∧ base ≤ g ∧ g < w.heap.size) := by
  rcases h.row.2 with ⟨hv, hn⟩ | ⟨g, cap, cur, hv, hb, hg, hn, hc, hs, ht⟩
  · have hc : css = [] := List.eq_nil_of_length_eq_zero hn
    subst hc
    exact ⟨none, 0, 0, hv, ⟨by simp, by simp, by simp⟩, by simp⟩
  · refine ⟨some ⟨g, 0, none⟩, g, cap, hv, ⟨⟨hn, h.bd⟩, fun _ => rfl, fun i cs hi => ⟨h.each cs (List.mem_of_getElem? hi), ?_⟩⟩, fun _ => ⟨by rw [hv]; rfl, h.block (by rw [hv]; rfl)⟩⟩
    intro j u hj
    have hjm : j < m := by
      have h1 := h.each cs (List.mem_of_getElem? hi)
      have h2 : j < cs.length := by
        rcases Nat.lt_or_ge j cs.length with h2 | h2
        · exact h2
        · rw [List.getElem?_eq_none h2] at hj; cases hj
      omega
    have hil : i < css.length := by
      rcases Nat.lt_or_ge i css.length with h2 | h2
      · exact h2
      · rw [List.getElem?_eq_none h2] at hi; cases hi
    have h3 := flatten_at css m i j cs h.each hi hjm
    have h4 : i * m + j < css.length * m := by
      have : (i + 1) * m ≤ css.length * m := Nat.mul_le_mul_right _ hil
      rw [Nat.add_mul] at this
      omega
    rw [cell_of_row w g _ cur E (0, 0) hg, Nat.zero_add]
    rw [← ht, List.getElem?_take_of_lt h4] at h3
    rw [← Array.getElem?_toList, h3]
    exact hj
theorem Own.row_of (h : Own w base E m v css) {ao : Option Addr} {len cap : Nat} (hv : v = .slice ao len cap) : len = css.length ∧ ∃ g, Row w m ao g 0 cap css ∧ (css ≠ [] → v.ownBlock = some g ∧ base ≤ g ∧ g < w.heap.size) := by
  obtain ⟨ao', g, cap', hv', hr, hg⟩ := h.rowOf
  rw [hv] at hv'
  injection hv' with h1 h2 h3
  subst h1
  subst h3
  exact ⟨h2, g, hr, hg⟩
end

/-! ### append -/
theorem news_flat {w : World} {m b off : Nat} {news : List (List Value)} (h : ∀ (i : Nat) cs, news[i]? = some cs → cs.length = m ∧ At w b (off + i * m) cs) (hm : 0 < m) :
    ∀ j u, news.flatten[j]? = some u → w.cell? ⟨b, off + j, none⟩ = some u := by
  intro j u hj
  have hall : ∀ cs ∈ news, cs.length = m := fun cs hcs => by
    obtain ⟨i, hi⟩ := List.getElem?_of_mem hcs
    exact (h i cs hi).1
  have hlen := flatten_length news m hall
  have hjl : j < news.flatten.length := by
    rcases Nat.lt_or_ge j news.flatten.length with h1 | h1
    · exact h1
    · rw [List.getElem?_eq_none h1] at hj; cases hj
  have hdm := Nat.div_add_mod j m
  have hmod : j % m < m := Nat.mod_lt _ hm
  have hi : j / m < news.length := by
    rw [hlen] at hjl
    exact (Nat.div_lt_iff_lt_mul hm).2 hjl
  have hc := flatten_at news m (j / m) (j % m) news[j / m] hall (by simp [hi]) hmod
  have e : j / m * m + j % m = j := by rw [Nat.mul_comm]; exact hdm
  rw [e] at hc
  rw [hj] at hc
  have := (h (j / m) news[j / m] (by simp [hi])).2 (j % m) u hc.symm
  rw [Nat.add_assoc, e] at this
  exact this

section
variable {P : Program} {B : Exit → Act → World → Prop} {n : Nat} {k : List Kont} {f : Fr} {w : World} {ops : Array Oper} {rest : List Oper}
theorem info_of {E m bb : Nat} {z : Value} (h : tyP P E = some (m, bb, some z)) : ∃ i, P.info? E = some i ∧ i.size = m ∧ i.bytes = bb ∧ i.zero = some z := by
  unfold tyP at h
  cases hi : P.info? E with
  | none => rw [hi] at h; cases h
  | some i => rw [hi] at h; simp at h; exact ⟨i, rfl, h.1, h.2.1, h.2.2⟩

theorem run_append_0 {T E ty : TypeId} {m bb : Nat} {z : Value} (hu : P.underlying T = some (.slice E)) (ht : tyP P E = some (m, bb, some z)) (base : Nat) {v : Value} {css : List (List Value)}
    (hown : Own w base E m v css) (ao : Option Addr) (cap : Nat) : (Builtin.append_ #[T, T] ty #[v, .slice ao 0 cap]).run P w = .ok v w := by
  obtain ⟨i, hi, hs, hb, hz⟩ := info_of ht
  rcases hown.form with ⟨rfl, _⟩ | ⟨g, c, rfl, _, _, hn, _⟩
  · cases ao <;> simp [Builtin.append_, run_underlying hu, sizeOf, typeInfo, hi, Builtin.lenOf, Builtin.firstCells, loadCells, loadCellsFrom]
  · cases ao <;> simp [Builtin.append_, run_underlying hu, sizeOf, typeInfo, hi, Builtin.lenOf, Builtin.firstCells, loadCells, loadCellsFrom, hn, storeCells]

theorem run_append_row {T E ty : TypeId} {m bb : Nat} {z : Value} (hu : P.underlying T = some (.slice E)) (ht : tyP P E = some (m, bb, some z)) (hzs : z.cells.size = m) (hm : 0 < m) (base : Nat) {v : Value} {css news : List (List Value)}
    (hown : Own w base E m v css) {ao : Option Addr} {b off cap : Nat} (hr : Row w m ao b off cap news) (h1 : ∀ cs ∈ news, oneCells cs = true)
    (hbytes : (css.length + news.length) * bb ≤ 140737488355328) (hlen : css.length + news.length ≤ 140737488355328) (hbase : base ≤ w.heap.size) :
    ∃ v' w', (Builtin.append_ #[T, T] ty #[v, .slice ao news.length cap]).run P w = .ok v' w' ∧ Own w' base E m v' (css ++ news) ∧ Evo w w' v.ownBlock.toList ∧
      (v'.ownBlock = v.ownBlock ∨ v'.ownBlock = some w.heap.size) := by
  cases news with
  | nil => exact ⟨v, w, run_append_0 hu ht base hown ao cap, by simpa using hown, Evo.refl _ _, .inl rfl⟩
  | cons c cs =>
    obtain ⟨i, hi, hs, hb, hz⟩ := info_of ht
    obtain rfl : ao = some ⟨b, off, none⟩ := hr.2.1 (by simp)
    have hall : ∀ x ∈ (c :: cs), x.length = m := fun x hx => by
      obtain ⟨j, hj⟩ := List.getElem?_of_mem hx
      exact (hr.2.2 j x hj).1
    obtain ⟨v', w', hrun, hown', hg, _, hloc⟩ := run_append_own_at (P := P) (w := w) base T ty E i z m bb hu hi hz hs hb hzs hm v css.length css.flatten hown.row ⟨b, off, none⟩ (c :: cs).length cap (c :: cs).flatten
      (flatten_length _ _ hall) (fun j u hj => by rw [add_lit]; exact news_flat hr.2.2 hm j u hj) (fun u hu => by
        obtain ⟨x, hx, hux⟩ := List.mem_flatten.1 hu
        exact List.all_eq_true.1 (h1 x hx) u hux) (by unfold maxLen; omega) hbytes hbase
    refine ⟨v', w', hrun, ⟨by simpa [List.flatten_append] using hown', fun x hx => ?_, by simpa using hlen⟩, Evo.grown hg, hloc⟩
    rcases List.mem_append.1 hx with hx | hx
    · exact hown.each x hx
    · exact hall x hx

/-- 'x = append(x, y...)' -/
theorem r_append {T E d m bb : Nat} {t : TypeId} {pos : String} {aft : Array Edge} {x y : Operand} {z : Value} {base : Nat} {v : Value} {css news : List (List Value)} {ao : Option Addr} {b off len cap : Nat}
    (hd : Nat.blt d n = true) (hu : P.underlying T = some (.slice E)) (ht : tyP P E = some (m, bb, some z)) (hzs : z.cells.size = m) (hm : 0 < m)
    (hown : Own w base E m v css) (hx : opv f x = v) (hy : opv f y = .slice ao len cap) (hr : Row w m ao b off cap news) (hl : len = news.length) (h1 : ∀ cs ∈ news, oneCells cs = true)
    (hbytes : (css.length + news.length) * bb ≤ 140737488355328) (hlen : css.length + news.length ≤ 140737488355328) (hbase : base ≤ w.heap.size)
    (h : ∀ v' w', Evo w w' v.ownBlock.toList → Own w' base E m v' (css ++ news) → (v'.ownBlock = v.ownBlock ∨ v'.ownBlock = some w.heap.size) → KL P B n ops k rest (upd f d v') w') :
    KL P B n ops k (⟨some d, .call ⟨.builtin .append, #[x, y], #[T, T]⟩, t, pos, aft, none⟩ :: rest) f w := by
  subst hl
  obtain ⟨v', w', hrun, hown', he, hloc⟩ := run_append_row (P := P) (ty := t) hu ht hzs hm base hown (cap := cap) hr h1 hbytes hlen hbase
  refine r_op rfl rfl hd ?_ (h v' w' he hown' hloc)
  exact run_builtin (s := Builtin.append_ #[T, T] t #[v, .slice ao news.length cap]) rfl (by simp [hx, hy]) (fun cs => rfl) hrun

/-- 'x = append(x, e)': the slice of one element, and the append. -/
theorem r_append1 {T E d d1 m bb : Nat} {t t1 : TypeId} {pos pos1 : String} {aft aft1 : Array Edge} {x e : Operand} {z : Value} {base : Nat} {v u : Value} {css : List (List Value)} {us : List Value}
    (hd : Nat.blt d n = true) (hd1 : Nat.blt d1 n = true) (hu : P.underlying T = some (.slice E)) (ht : tyP P E = some (m, bb, some z)) (hzs : z.cells.size = m) (hm : (Nat.ble 1 m && Nat.ble m 10000) = true)
    (hown : Own w base E m v css) (hx : ∀ q, opv (upd f d1 q) x = v) (he : opv f e = u) (hus : u.cells = us.toArray) (hml : us.length = m) (h1 : oneCells us = true)
    (hbytes : (css.length + 1) * bb ≤ 140737488355328) (hlen : css.length + 1 ≤ 140737488355328) (hbase : base ≤ w.heap.size)
    (h : ∀ q v' w', Evo w w' v.ownBlock.toList → Own w' base E m v' (css ++ [us]) → (v'.ownBlock = v.ownBlock ∨ ∃ g, v'.ownBlock = some g ∧ w.heap.size ≤ g) → KL P B n ops k rest (upd (upd f d1 q) d v') w') :
    KL P B n ops k (⟨some d1, .buildSlice T 1 #[(0, e)], t1, pos1, aft1, none⟩ :: ⟨some d, .call ⟨.builtin .append, #[x, .tmp d1], #[T, T]⟩, t, pos, aft, none⟩ :: rest) f w := by
  simp only [Bool.and_eq_true, Nat.ble_eq] at hm
  obtain ⟨zs, hz⟩ : ∃ zs : List Value, z.cells = zs.toArray := ⟨z.cells.toList, by simp⟩
  have hzl : zs.length = m := by rw [hz] at hzs; simpa using hzs
  have hsu : u.cells.toList.length = m := by rw [hus]; simpa using hml
  refine r_bslice (cs := us) (zs := zs) (pv := [(0, u)]) hu ht hz hd1 (by simp [he]) (by simp [hzl]; omega) ?_ ?_
  · have h1 : Nat.beq u.cells.toList.length m = true := by rw [hsu]; simp
    have h2 : Nat.ble (0 * m + m) (List.replicate 1 zs).flatten.length = true := by simp [hzl]
    simp only [fillL, h1, h2, Bool.and_self, cond_true]
    congr 1
    rw [hus]
    simp [hzl]
  intro b w1 hb hev hB hs
  have hrow : Row w1 m (some ⟨b, 0, none⟩) b 0 1 [us] := ⟨by simp, fun _ => rfl, fun i cs hi => by
    cases i with
    | zero => simp at hi; subst hi; exact ⟨hml, by simpa using hB.at⟩
    | succ i => simp at hi⟩
  refine r_append (len := 1) (cap := 1) (b := b) (off := 0) (news := [us]) hd hu ht hzs hm.1 (hown.evo0 hev) (hx _) (by simp only [opv, upd_same]) hrow rfl (by simpa using h1) (by simpa using hbytes) (by simpa using hlen) (Nat.le_trans hbase hev.size) ?_
  intro v' w' he' hown' hloc
  refine h _ v' w' ((hev.mono (by simp)).trans he' (fun x hx _ => hx)) hown' ?_
  rcases hloc with hloc | hloc
  · exact .inl hloc
  · exact .inr ⟨_, hloc, hev.size⟩
end

theorem run_lenO {P : Program} {f : Fr} {w : World} {o : Oper} {t e : TypeId} {x : Operand} {v : Value} {base E m : Nat} {css : List (List Value)} (ho : o.op = .call ⟨.builtin .len, #[x], #[t]⟩) (hx : opv f x = v) (ht : P.underlying t = some (.slice e))
    (hown : Own w base E m v css) : (execOp (opv f) o).run P w = .ok (.value (.int .i64 (css.length : Int))) w := by
  obtain ⟨ao, cap, rfl⟩ := hown.shape
  exact run_lenSl ho hx ht

/-! ### typed -/
def OwnE {α : Type} [Enc α] (w : World) (base : Nat) (E : TypeId) (v : Value) (l : List α) : Prop := Own w base E (Enc.n α) v (l.map Enc.enc)
section
variable {α : Type} [Enc α] {w w' : World} {base : Nat} {E : TypeId} {v : Value} {l : List α}
theorem OwnE.nil (w : World) (base : Nat) (E : TypeId) : OwnE (α := α) w base E (.slice none 0 0) [] := Own.nil w base E _
theorem OwnE.form (h : OwnE w base E v l) : (v = .slice none 0 0 ∧ l = []) ∨ ∃ g cap, v = .slice (some ⟨g, 0, none⟩) l.length cap ∧ base ≤ g ∧ g < w.heap.size ∧ l.length ≤ cap ∧ cap ≤ maxLen := by
  rcases Own.form h with ⟨h1, h2⟩ | ⟨g, cap, h1, h2⟩
  · exact .inl ⟨h1, by simpa using h2⟩
  · exact .inr ⟨g, cap, by simpa using h1, by simpa using h2⟩
theorem OwnE.shape (h : OwnE w base E v l) : ∃ ao cap, v = .slice ao l.length cap := by
  obtain ⟨ao, cap, h1⟩ := Own.shape h
  exact ⟨ao, cap, by simpa using h1⟩
theorem OwnE.bd (h : OwnE w base E v l) : l.length ≤ 140737488355328 := by have := Own.bd h; simpa using this
theorem OwnE.block (h : OwnE w base E v l) {g : Nat} (hg : v.ownBlock = some g) : base ≤ g ∧ g < w.heap.size := Own.block h hg
theorem OwnE.evo {X : List Nat} (h : OwnE w base E v l) (he : Evo w w' X) (hn : ∀ g, v.ownBlock = some g → g ∉ X) : OwnE w' base E v l := Own.evo h he hn
theorem OwnE.evo0 (h : OwnE w base E v l) (he : Evo w w' []) : OwnE w' base E v l := Own.evo0 h he
theorem OwnE.base_le {base' : Nat} (h : OwnE w base E v l) (hb : base' ≤ base) : OwnE w base' E v l := Own.base_le h hb
theorem run_lenOE {P : Program} {f : Fr} {o : Oper} {t e : TypeId} {x : Operand} (ho : o.op = .call ⟨.builtin .len, #[x], #[t]⟩) (hx : opv f x = v) (ht : P.underlying t = some (.slice e))
    (hown : OwnE w base E v l) : (execOp (opv f) o).run P w = .ok (.value (.int .i64 (l.length : Int))) w := by
  obtain ⟨ao, cap, rfl⟩ := hown.shape
  exact run_lenSl ho hx ht
/-- 'x = append(x, e)', typed -/
theorem r_append1E {P : Program} {B : Exit → Act → World → Prop} {n : Nat} {k : List Kont} {f : Fr} {ops : Array Oper} {rest : List Oper} {T d d1 bb m : Nat} {t t1 : TypeId} {pos pos1 : String} {aft aft1 : Array Edge} {x e : Operand} {z u : Value} {y : α}
    (hd : Nat.blt d n = true) (hd1 : Nat.blt d1 n = true) (hu : P.underlying T = some (.slice E)) (ht : tyP P E = some (m, bb, some z)) (hm : (m == Enc.n α && z.cells.size == Enc.n α && Nat.ble m 10000) = true)
    (hown : OwnE w base E v l) (hx : ∀ q, opv (upd f d1 q) x = v) (he : opv f e = u) (hus : u.cells = (Enc.enc y).toArray)
    (hbytes : (l.length + 1) * bb ≤ 140737488355328) (hlen : l.length + 1 ≤ 140737488355328) (hbase : base ≤ w.heap.size)
    (h : ∀ q v' w', Evo w w' v.ownBlock.toList → OwnE w' base E v' (l ++ [y]) → (v'.ownBlock = v.ownBlock ∨ ∃ g, v'.ownBlock = some g ∧ w.heap.size ≤ g) → KL P B n ops k rest (upd (upd f d1 q) d v') w') :
    KL P B n ops k (⟨some d1, .buildSlice T 1 #[(0, e)], t1, pos1, aft1, none⟩ :: ⟨some d, .call ⟨.builtin .append, #[x, .tmp d1], #[T, T]⟩, t, pos, aft, none⟩ :: rest) f w := by
  simp only [Bool.and_eq_true, beq_iff_eq, Nat.ble_eq] at hm
  obtain ⟨⟨rfl, h2⟩, h3⟩ := hm
  have hp := Enc.pos (α := α)
  refine r_append1 (us := Enc.enc y) hd hd1 hu ht h2 (by simp; omega) hown hx he hus (Enc.len y) (Enc.one y) (by simpa using hbytes) (by simpa using hlen) hbase ?_
  intro q v' w' h4 h5 h6
  refine h q v' w' h4 ?_ h6
  unfold OwnE
  simpa using h5
/-- 'x = append(x, y...)', typed -/
theorem r_appendE {P : Program} {B : Exit → Act → World → Prop} {n : Nat} {k : List Kont} {f : Fr} {ops : Array Oper} {rest : List Oper} {T d bb m : Nat} {t : TypeId} {pos : String} {aft : Array Edge} {x y : Operand} {z : Value} {ao : Option Addr} {b off cap len : Nat} {l' : List α}
    (hd : Nat.blt d n = true) (hu : P.underlying T = some (.slice E)) (ht : tyP P E = some (m, bb, some z)) (hm : (m == Enc.n α && z.cells.size == Enc.n α) = true)
    (hown : OwnE w base E v l) (hx : opv f x = v) (hy : opv f y = .slice ao len cap) (hr : RowE w ao b off cap l') (hl : len = l'.length)
    (hbytes : (l.length + l'.length) * bb ≤ 140737488355328) (hlen : l.length + l'.length ≤ 140737488355328) (hbase : base ≤ w.heap.size)
    (h : ∀ v' w', Evo w w' v.ownBlock.toList → OwnE w' base E v' (l ++ l') → (v'.ownBlock = v.ownBlock ∨ v'.ownBlock = some w.heap.size) → KL P B n ops k rest (upd f d v') w') :
    KL P B n ops k (⟨some d, .call ⟨.builtin .append, #[x, y], #[T, T]⟩, t, pos, aft, none⟩ :: rest) f w := by
  simp only [Bool.and_eq_true, beq_iff_eq] at hm
  obtain ⟨rfl, h2⟩ := hm
  refine r_append (news := l'.map Enc.enc) hd hu ht h2 Enc.pos hown hx hy hr (by simpa using hl) (fun cs hcs => ?_) (by simpa using hbytes) (by simpa using hlen) hbase ?_
  · obtain ⟨a, _, rfl⟩ := List.mem_map.1 hcs
    exact Enc.one a
  intro v' w' h4 h5 h6
  refine h v' w' h4 ?_ h6
  unfold OwnE
  rw [List.map_append]
  exact h5
theorem run_slE {l' : List α} {P : Program} {f : Fr} {o : Oper} {T m bb : Nat} {z : Option Value} {x : Operand} {ao : Option Addr} {b off cap : Nat} {lo hi : Option Operand} (i j : Nat) (ho : o.op = .slice T x lo hi none) (hu : P.underlying T = some (.slice E))
    (ht : tyP P E = some (m, bb, z)) (hx : opv f x = .slice ao l.length cap) (hr : RowE w ao b off cap l)
    (hlo : (lo.map (opv f) = none ∧ i = 0) ∨ ∃ κ, lo.map (opv f) = some (.int κ (i : Int))) (hhi : (hi.map (opv f) = none ∧ j = l.length) ∨ ∃ κ, hi.map (opv f) = some (.int κ (j : Int))) (h1 : i ≤ j) (h2 : j ≤ l.length) (hl' : (l.take j).drop i = l') :
    (execOp (opv f) o).run P w = .ok (.value (.slice (if cap = i then ao else ao.map (·.add (i * m))) l'.length (cap - i))) w := by
  have := hr.le
  subst hl'
  rw [run_sl (w := w) i j ho hu ht hx hlo hhi h1 (by omega)]
  simp
  omega
theorem run_slR {β : Type} [Rep β] {ls l' : List β} {P : Program} {f : Fr} {o : Oper} {T m bb : Nat} {z : Option Value} {x : Operand} {ao : Option Addr} {b off cap : Nat} {lo hi : Option Operand} (i j : Nat) (ho : o.op = .slice T x lo hi none) (hu : P.underlying T = some (.slice E))
    (ht : tyP P E = some (m, bb, z)) (hx : opv f x = .slice ao ls.length cap) (hr : RowR w ao b off cap ls)
    (hlo : (lo.map (opv f) = none ∧ i = 0) ∨ ∃ κ, lo.map (opv f) = some (.int κ (i : Int))) (hhi : (hi.map (opv f) = none ∧ j = ls.length) ∨ ∃ κ, hi.map (opv f) = some (.int κ (j : Int))) (h1 : i ≤ j) (h2 : j ≤ ls.length) (hl' : (ls.take j).drop i = l') :
    (execOp (opv f) o).run P w = .ok (.value (.slice (if cap = i then ao else ao.map (·.add (i * m))) l'.length (cap - i))) w := by
  have := hr.le
  subst hl'
  rw [run_sl (w := w) i j ho hu ht hx hlo hhi h1 (by omega)]
  simp
  omega
/-- as a row that is only read -/
theorem OwnE.rowOf (h : OwnE w base E v l) : ∃ ao g cap, v = .slice ao l.length cap ∧ RowE w ao g 0 cap l ∧ (l ≠ [] → v.ownBlock = some g ∧ base ≤ g ∧ g < w.heap.size) := by
  obtain ⟨ao, g, cap, h1, h2, h3⟩ := Own.rowOf h
  exact ⟨ao, g, cap, by simpa using h1, h2, fun hl => h3 (by simpa using hl)⟩
end
end Go.Vc
