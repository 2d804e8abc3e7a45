/-
  Maps of our own: what a map holds, as a list of keys and values in the order of their coming; look-up, store, removal, length, ranging in whatever order. Generic over the program.
-/
import Derived.Test.YtkdgoghmkmpfnaaData
import Derived.Maps.RangeWalk
import Derived.Maps.OwnSet
namespace Go.Vc
open Go Go.RowKit Go.IntWalk

/-- how keys of type 'K' are found -/
structure KeyLaw (P : Program) (K : TypeId) {α : Type} (ek : α → Value) : Prop where
  inj : ∀ x y, ek x = ek y → x = y
  check : ∀ w e x, (Instr.checkKey e 10000 K (ek x)).run P w = .ok () w
  same : ∀ x, Instr.sameBits 10000 (ek x) (ek x) = true
  hit : ∀ w x (es : List MapEntry) (i : Nat) (e : MapEntry), (∀ e ∈ es, ∃ y, e.key = ek y) → es[i]? = some e → e.key = ek x → (∀ j e', j < i → es[j]? = some e' → e'.key ≠ ek x) → (Instr.findKey K (ek x) es).run P w = .ok (some (i, e.val)) w
  miss : ∀ w x (es : List MapEntry), (∀ e ∈ es, ∃ y, e.key = ek y) → (∀ e ∈ es, e.key ≠ ek x) → (Instr.findKey K (ek x) es).run P w = .ok none w

/-! scalar keys -/
theorem findNow_hit {D : TypeDesc} {α : Type} [DecidableEq α] {ek : α → Value} (inj : ∀ x y, ek x = ek y → x = y) (hs : ∀ x y, Instr.sameNow D (ek x) (ek y) = some (decide (x = y))) (x : α) :
    ∀ (es : List MapEntry) (i k : Nat) (e : MapEntry), (∀ e ∈ es, ∃ y, e.key = ek y) → es[i]? = some e → e.key = ek x → (∀ j e', j < i → es[j]? = some e' → e'.key ≠ ek x) → Instr.findNow D (ek x) es k = some (some (k + i, e.val))
  | [], i, k, e, _, h, _, _ => by simp at h
  | a :: es, 0, k, e, _, h, hk, _ => by
    simp at h; subst h
    simp [Instr.findNow, hk, hs]
  | a :: es, i + 1, k, e, hall, h, hk, hne => by
    obtain ⟨y, hy⟩ := hall a (by simp)
    have h0 := hne 0 a (by omega) (by simp)
    have ih := findNow_hit inj hs x es i (k + 1) e (fun e he => hall e (by simp [he])) (by simpa using h) hk (fun j e' hj he' => hne (j + 1) e' (by omega) (by simpa using he'))
    have hd : decide (x = y) = false := by simp; intro h; exact h0 (by rw [hy, h])
    simp only [Instr.findNow, hy, hs, hd]
    rw [ih]
    simp
    omega
theorem findNow_miss {D : TypeDesc} {α : Type} [DecidableEq α] {ek : α → Value} (hs : ∀ x y, Instr.sameNow D (ek x) (ek y) = some (decide (x = y))) (x : α) :
    ∀ (es : List MapEntry) (k : Nat), (∀ e ∈ es, ∃ y, e.key = ek y) → (∀ e ∈ es, e.key ≠ ek x) → Instr.findNow D (ek x) es k = some none
  | [], _, _, _ => rfl
  | a :: es, k, hall, hne => by
    obtain ⟨y, hy⟩ := hall a (by simp)
    have h0 := hne a (by simp)
    have ih := findNow_miss hs x es (k + 1) (fun e he => hall e (by simp [he])) (fun e he => hne e (by simp [he]))
    have hd : decide (x = y) = false := by simp; intro h; exact h0 (by rw [hy, h])
    simp only [Instr.findNow, hy, hs, hd]
    exact ih
theorem KeyLaw.scalar {P : Program} {K : TypeId} {D : TypeDesc} {α : Type} [DecidableEq α] {ek : α → Value} (hu : P.underlying K = some D) (inj : ∀ x y, ek x = ek y → x = y) (hs : ∀ x y, Instr.sameNow D (ek x) (ek y) = some (decide (x = y)))
    (check : ∀ w e x, (Instr.checkKey e 10000 K (ek x)).run P w = .ok () w) (same : ∀ x, Instr.sameBits 10000 (ek x) (ek x) = true) : KeyLaw P K ek where
  inj := inj
  check := check
  same := same
  hit w x es i e hall h hk hne := by
    have := findNow_hit inj hs x es i 0 e hall h hk hne
    simp [Instr.findKey, run_underlying hu, this]
  miss w x es hall hne := by
    have := findNow_miss hs x es 0 hall hne
    simp [Instr.findKey, run_underlying hu, this]
theorem check_scalar {P : Program} {K : TypeId} {D : TypeDesc} (hu : P.underlying K = some D) (w : World) (e : Bool) (n : Nat) (v : Value) (hD : (D = .string ∧ ∃ s, v = .string s) ∨ (∃ k a, D = .int k ∧ v = .int k a)) : (Instr.checkKey e (n + 1) K v).run P w = .ok () w := by
  rcases hD with ⟨rfl, s, rfl⟩ | ⟨k, a, rfl, rfl⟩ <;> simp only [Instr.checkKey, Sem.run_bind, run_underlying hu, Result.andThen_ok, Sem.run_pure]
theorem bits_str (n : Nat) (s : ByteArray) : Instr.sameBits n (.string s) (.string s) = true := by
  cases n <;> simp only [Instr.sameBits, beq_toListBytes, beq_self_eq_true]
theorem bits_int (n : Nat) (k : IntKind) (a : Int) : Instr.sameBits n (.int k a) (.int k a) = true := by
  cases n <;> simp only [Instr.sameBits, beq_self_eq_true, Bool.and_self]
theorem key_str {P : Program} {K : TypeId} (hu : P.underlying K = some .string) : KeyLaw P K S := by
  refine KeyLaw.scalar hu (fun x y h => S_inj h) (fun x y => ?_) (fun w e x => ?_) (fun x => ?_)
  · unfold S
    simp only [Instr.sameNow, beq_toListBytes, toList_S]
    congr 1
    rw [Bool.eq_iff_iff]
    simp
  · exact check_scalar hu w e 9999 _ (.inl ⟨rfl, _, rfl⟩)
  · exact bits_str _ _
theorem key_int {P : Program} {K : TypeId} {k : IntKind} (hu : P.underlying K = some (.int k)) : KeyLaw P K (Value.int k) := by
  refine KeyLaw.scalar hu (fun x y h => by injection h) (fun x y => ?_) (fun w e x => ?_) (fun x => ?_)
  · simp only [Instr.sameNow, if_true]
    congr 1
  · exact check_scalar hu w e 9999 _ (.inr ⟨_, _, rfl, rfl⟩)
  · exact bits_int _ _ _

/-! what a map holds -/
section
variable {α β : Type} [DecidableEq α]
/-- the value at a key, if there is one -/
def getM (m : List (α × β)) (x : α) : Option β := (m.find? (·.1 = x)).map (·.2)
def setM (m : List (α × β)) (x : α) (v : β) : List (α × β) := if m.any (·.1 = x) then m.map (fun p => if p.1 = x then (x, v) else p) else m ++ [(x, v)]
def delM (m : List (α × β)) (x : α) : List (α × β) := m.filter (fun p => ! decide (p.1 = x))
end
structure MapIs {α β : Type} (w : World) (b : Nat) (ek : α → Value) (ev : β → Value) (m : List (α × β)) : Prop where
  ex : ∃ es clock, w.heap[b]? = some (.map es clock) ∧ es.toList.map (fun e => (e.key, e.val)) = m.map (fun p => (ek p.1, ev p.2)) ∧ (es.toList.map (·.born)).Nodup ∧ (∀ e ∈ es.toList, e.born < clock) ∧ (m.map (·.1)).Nodup

section
variable {α β : Type} {ek : α → Value} {ev : β → Value} {w w' : World} {b : Nat} {m : List (α × β)} {E : List Nat}
theorem MapIs.lt (h : MapIs w b ek ev m) : b < w.heap.size := by
  obtain ⟨es, c, hb, _⟩ := h.ex
  rcases Nat.lt_or_ge b w.heap.size with h1 | h1
  · exact h1
  · rw [Array.getElem?_eq_none h1] at hb; cases hb
theorem MapIs.evo (h : MapIs w b ek ev m) (he : Evo w w' E) (hn : b ∉ E) : MapIs w' b ek ev m := by
  obtain ⟨es, c, hb, r⟩ := h.ex
  exact ⟨es, c, (he.same b h.lt hn).trans hb, r⟩
theorem MapIs.evo0 (h : MapIs w b ek ev m) (he : Evo w w' []) : MapIs w' b ek ev m := h.evo he (by simp)
theorem MapIs.nodup (h : MapIs w b ek ev m) : (m.map (·.1)).Nodup := let ⟨_, _, _, _, _, _, h⟩ := h.ex; h
theorem MapIs.made (w : World) : MapIs (w.alloc (.map #[] 0)) w.heap.size ek ev [] := ⟨#[], 0, heap_alloc_new w _, by simp, by simp, by simp, by simp⟩

theorem keys_of {es : List MapEntry} (h : es.map (fun e => (e.key, e.val)) = m.map (fun p => (ek p.1, ev p.2))) : ∀ e ∈ es, ∃ y, e.key = ek y := by
  intro e he
  have : (e.key, e.val) ∈ es.map (fun e => (e.key, e.val)) := List.mem_map.2 ⟨e, he, rfl⟩
  rw [h] at this
  obtain ⟨p, _, hp⟩ := List.mem_map.1 this
  exact ⟨p.1, (congrArg Prod.fst hp).symm⟩
theorem entry_at {es : List MapEntry} (h : es.map (fun e => (e.key, e.val)) = m.map (fun p => (ek p.1, ev p.2))) (i : Nat) : (es[i]?).map (fun e => (e.key, e.val)) = (m[i]?).map (fun p => (ek p.1, ev p.2)) := by
  have := congrArg (·[i]?) h
  simpa using this

theorem find_idx [DecidableEq α] (x : α) : ∀ (m : List (α × β)), (∀ p ∈ m, p.1 ≠ x) ∨ ∃ i v, m[i]? = some (x, v) ∧ ∀ (j : Nat) (p : α × β), j < i → m[j]? = some p → p.1 ≠ x
  | [] => .inl (by simp)
  | p :: m => by
    by_cases h : p.1 = x
    · exact .inr ⟨0, p.2, by simp [← h], by simp⟩
    · rcases find_idx x m with h1 | ⟨i, v, h1, h2⟩
      · refine .inl (fun q hq => ?_)
        rcases List.mem_cons.1 hq with rfl | hq
        · exact h
        · exact h1 q hq
      · refine .inr ⟨i + 1, v, by simpa using h1, fun j q hj hq => ?_⟩
        cases j with
        | zero => simp at hq; subst hq; exact h
        | succ j => exact h2 j q (by omega) (by simpa using hq)
theorem getM_none [DecidableEq α] {x : α} (h : ∀ p ∈ m, p.1 ≠ x) : getM m x = none := by
  unfold getM
  rw [List.find?_eq_none.2 (by intro p hp; simpa using h p hp)]
  rfl
theorem getM_some [DecidableEq α] {x : α} {v : β} {i : Nat} (h1 : m[i]? = some (x, v)) (h2 : ∀ (j : Nat) (p : α × β), j < i → m[j]? = some p → p.1 ≠ x) : getM m x = some v := by
  have : m.find? (·.1 = x) = some (x, v) := by
    induction m generalizing i with
    | nil => simp at h1
    | cons p m ih =>
      cases i with
      | zero => simp at h1; subst h1; simp
      | succ i =>
        have h0 := h2 0 p (by omega) (by simp)
        simp only [List.find?_cons, decide_eq_false h0]
        exact ih (by simpa using h1) (fun j q hj hq => h2 (j + 1) q (by omega) (by simpa using hq))
  simp [getM, this]

variable {P : Program} {K : TypeId} (L : KeyLaw P K ek)
include L
theorem MapIs.find [DecidableEq α] (h : MapIs w b ek ev m) (x : α) : ∃ es clock, w.heap[b]? = some (.map es clock) ∧
    ((getM m x = none ∧ (Instr.findKey K (ek x) es.toList).run P w = .ok none w) ∨
      ∃ i v, getM m x = some v ∧ m[i]? = some (x, v) ∧ (∀ (j : Nat) (p : α × β), j < i → m[j]? = some p → p.1 ≠ x) ∧ (Instr.findKey K (ek x) es.toList).run P w = .ok (some (i, ev v)) w) := by
  obtain ⟨es, c, hb, he, hbn, hlt, hnd⟩ := h.ex
  refine ⟨es, c, hb, ?_⟩
  rcases find_idx x m with h1 | ⟨i, v, h1, h2⟩
  · refine .inl ⟨getM_none h1, L.miss w x _ (keys_of he) (fun e hm hk => ?_)⟩
    obtain ⟨i, hi⟩ := List.getElem?_of_mem hm
    have := entry_at he i
    rw [hi] at this
    cases hp : m[i]? with
    | none => rw [hp] at this; simp at this
    | some p =>
      rw [hp] at this
      simp at this
      exact h1 p (List.mem_of_getElem? hp) (L.inj _ _ (this.1.symm.trans hk))
  · have hi := entry_at he i
    rw [h1] at hi
    cases hes : es.toList[i]? with
    | none => rw [hes] at hi; simp at hi
    | some e =>
      rw [hes] at hi
      simp only [Option.map_some, Option.some.injEq, Prod.mk.injEq] at hi
      refine .inr ⟨i, v, getM_some h1 h2, h1, h2, ?_⟩
      rw [← hi.2]
      refine L.hit w x _ i e (keys_of he) hes hi.1 (fun j e' hj he' hk => ?_)
      have := entry_at he j
      rw [he'] at this
      cases hp : m[j]? with
      | none => rw [hp] at this; simp at this
      | some p =>
        rw [hp] at this
        simp at this
        exact h2 j p hj hp (L.inj _ _ (this.1.symm.trans hk))
end

/-! the operations -/
section
variable {P : Program} {B : Exit → Act → World → Prop} {n : Nat} {k : List Kont} {f : Fr} {w : World} {ops : Array Oper} {rest : List Oper} {o : Oper}
variable {α β : Type} {ek : α → Value} {ev : β → Value} {b : Nat} {m : List (α × β)} {K E : TypeId}
open Go.ChangeMaps (setBlock)

theorem heap_setB {w : World} {b : Nat} (hb : b < w.heap.size) (ob : Obj) : (setBlock w b ob).heap[b]? = some ob := by simp [setBlock, hb]
theorem heap_setB_ne {w : World} {b i : Nat} (ob : Obj) (h : i ≠ b) : (setBlock w b ob).heap[i]? = w.heap[i]? := by
  simp only [setBlock]
  rw [Array.getElem?_setIfInBounds_ne (Ne.symm h)]
theorem Evo.setB (w : World) (b : Nat) (ob : Obj) : Evo w (setBlock w b ob) [b] := ⟨rfl, rfl, rfl, by simp [setBlock], fun i _ hn => heap_setB_ne ob (by simpa using hn)⟩

theorem r_makeMap {T d : Nat} {t : TypeId} {pos : String} {aft : Array Edge} (ek : α → Value) (ev : β → Value) (hd : Nat.blt d n = true)
    (h : ∀ b w', b = w.heap.size → Evo w w' [] → MapIs w' b ek ev [] → w'.heap.size = b + 1 → KL P B n ops k rest (upd f d (.map (some b))) w') :
    KL P B n ops k (⟨some d, .makeMap T none, t, pos, aft, none⟩ :: rest) f w := by
  refine r_op (v := .map (some w.heap.size)) (w' := w.alloc (.map #[] 0)) rfl rfl hd ?_ (h _ _ rfl (Evo.alloc _ _ _) (MapIs.made w) (by simp))
  simp [execOp, Instr.makeMap]

theorem run_lookupM [DecidableEq α] (L : KeyLaw P K ek) {T : TypeId} {ok : Bool} {z : Value} {s bb : Nat} {y x : Operand} {a : α} (ho : o.op = .lookup T x y ok) (hu : P.underlying T = some (.map K E)) (hz : tyP P E = some (s, bb, some z))
    (hx : opv f x = .map (some b)) (hy : opv f y = ek a) (h : MapIs w b ek ev m) :
    (execOp (opv f) o).run P w = .ok (.value (if ok then .tuple #[((getM m a).map ev).getD z, .bool (getM m a).isSome] else ((getM m a).map ev).getD z)) w := by
  obtain ⟨es, c, hb, hf⟩ := h.find L a
  unfold execOp; rw [ho]; simp only []; rw [hx, hy]
  rcases hf with ⟨hg, hf⟩ | ⟨i, v, hg, _, _, hf⟩
  · cases ok <;> simp [Instr.lookup, getObj, run_underlying hu, Sem.run, hb, L.check, hf, run_zero hz, hg]
  · cases ok <;> simp [Instr.lookup, getObj, run_underlying hu, Sem.run, hb, L.check, hf, hg]
theorem run_lookup1 [DecidableEq α] (L : KeyLaw P K ek) {T : TypeId} {z : β} {s bb : Nat} {y x : Operand} {a : α} (ho : o.op = .lookup T x y false) (hu : P.underlying T = some (.map K E)) (hz : tyP P E = some (s, bb, some (ev z)))
    (hx : opv f x = .map (some b)) (hy : opv f y = ek a) (h : MapIs w b ek ev m) {v : Value} (hv : ev ((getM m a).getD z) = v) :
    (execOp (opv f) o).run P w = .ok (.value v) w := by
  rw [run_lookupM L ho hu hz hx hy h, ← hv]
  cases getM m a <;> rfl
theorem run_lookup2 [DecidableEq α] (L : KeyLaw P K ek) {T : TypeId} {z : β} {s bb : Nat} {y x : Operand} {a : α} (ho : o.op = .lookup T x y true) (hu : P.underlying T = some (.map K E)) (hz : tyP P E = some (s, bb, some (ev z)))
    (hx : opv f x = .map (some b)) (hy : opv f y = ek a) (h : MapIs w b ek ev m) {v : Value} (hv : ev ((getM m a).getD z) = v) :
    (execOp (opv f) o).run P w = .ok (.value (.tuple #[v, .bool (getM m a).isSome])) w := by
  rw [run_lookupM L ho hu hz hx hy h, ← hv]
  cases getM m a <;> rfl
theorem run_lenM {T : TypeId} {x : Operand} (ho : o.op = .call ⟨.builtin .len, #[x], #[T]⟩) (hu : P.underlying T = some (.map K E)) (hx : opv f x = .map (some b)) (h : MapIs w b ek ev m) :
    (execOp (opv f) o).run P w = .ok (.value (.int .i64 (m.length : Int))) w := by
  obtain ⟨es, c, hb, he, _⟩ := h.ex
  have hl : es.size = m.length := by have := congrArg List.length he; simpa using this
  refine run_builtin (s := Builtin.len_ #[T] o.type #[.map (some b)]) ho (by simp [hx]) (fun cs => rfl) ?_
  simp [Builtin.len_, run_underlying hu, goInt, getObj, Sem.run, hb, hl]

theorem setM_miss [DecidableEq α] {x : α} {v : β} (h : ∀ p ∈ m, p.1 ≠ x) : setM m x v = m ++ [(x, v)] := by
  unfold setM
  rw [if_neg]
  intro hh
  obtain ⟨p, hp, he⟩ := List.any_eq_true.1 hh
  exact h p hp (by simpa using he)
theorem setM_hit [DecidableEq α] {x : α} {v u : β} {i : Nat} (h1 : m[i]? = some (x, u)) (hn : (m.map (·.1)).Nodup) : setM m x v = m.set i (x, v) := by
  unfold setM
  rw [if_pos (by simp; exact ⟨_, List.mem_of_getElem? h1⟩)]
  apply List.ext_getElem?
  intro j
  rw [List.getElem?_map, List.getElem?_set]
  by_cases hj : i = j
  · subst hj
    have hi : i < m.length := by
      rcases Nat.lt_or_ge i m.length with h2 | h2
      · exact h2
      · rw [List.getElem?_eq_none h2] at h1; cases h1
    have hm : m[i] = (x, u) := by rw [List.getElem?_eq_getElem hi] at h1; injection h1
    simp [hi, hm]
  · simp only [hj, if_false]
    cases hm : m[j]? with
    | none => rfl
    | some p =>
      have : p.1 ≠ x := by
        intro e
        have hi : i < (m.map (·.1)).length := by
          rcases Nat.lt_or_ge i (m.map (·.1)).length with h2 | h2
          · exact h2
          · rw [List.getElem?_eq_none (by simpa using h2)] at h1; cases h1
        have := (List.getElem?_inj hi hn (j := j)).1 (by simp [h1, hm, e])
        exact hj this
      simp [this]
theorem keys_setM [DecidableEq α] (x : α) (v : β) (m : List (α × β)) (hn : (m.map (·.1)).Nodup) : ((setM m x v).map (·.1)).Nodup := by
  rcases find_idx x m with h | ⟨i, u, h, _⟩
  · rw [setM_miss h]
    simp only [List.map_append, List.map_cons, List.map_nil]
    rw [List.nodup_append]
    refine ⟨hn, by simp, fun a ha c hc => ?_⟩
    simp at hc
    subst hc
    obtain ⟨p, hp, rfl⟩ := List.mem_map.1 ha
    exact h p hp
  · rw [setM_hit h hn, List.map_set]
    have : (m.map (·.1)).set i x = m.map (·.1) := by
      apply List.ext_getElem?
      intro j
      rw [List.getElem?_set]
      by_cases hj : i = j
      · subst hj
        have hi : i < m.length := by
          rcases Nat.lt_or_ge i m.length with h2 | h2
          · exact h2
          · rw [List.getElem?_eq_none h2] at h; cases h
        have hm : m[i] = (x, u) := by rw [List.getElem?_eq_getElem hi] at h; injection h
        simp [hi, hm]
      · simp [hj]
    rw [this]
    exact hn

theorem run_mapset [DecidableEq α] (L : KeyLaw P K ek) {T : TypeId} (hu : P.underlying T = some (.map K E)) (a : α) (v : β) (h : MapIs w b ek ev m) :
    ∃ w', (Instr.mapUpdate T (.map (some b)) (ek a) (ev v)).run P w = .ok () w' ∧ Evo w w' [b] ∧ w'.heap.size = w.heap.size ∧ MapIs w' b ek ev (setM m a v) := by
  obtain ⟨es, c, hb, he, hbn, hlt, hnd⟩ := h.ex
  have hbl := h.lt
  obtain ⟨es', c', hb', hf⟩ := h.find L a
  rw [hb] at hb'
  injection hb' with hb'
  injection hb' with e1 e2
  subst e1; subst e2
  rcases hf with ⟨hg, hf⟩ | ⟨i, u, hg, hi, hne, hf⟩
  · have hmiss : ∀ p ∈ m, p.1 ≠ a := by
      intro p hp e
      unfold getM at hg
      have hg' := hg
      simp only [Option.map_eq_none_iff, List.find?_eq_none, decide_eq_true_eq] at hg'
      exact hg' p hp e
    refine ⟨setBlock w b (.map (es.push { key := ek a, val := ev v, born := c }) (c + 1)), ?_, Evo.setB _ _ _, by simp [setBlock], ⟨_, _, heap_setB hbl _, ?_, ?_, ?_, keys_setM a v m hnd⟩⟩
    · simp only [Instr.mapUpdate, getObj, Sem.run_bind, run_underlying hu, Result.andThen_ok, Sem.run, hb, L.check, hf, setObj, setBlock]
    · rw [setM_miss hmiss]; simp [he]
    · simp only [Array.toList_push, List.map_append, List.map_cons, List.map_nil]
      rw [List.nodup_append]
      refine ⟨hbn, by simp, fun x hx y hy => ?_⟩
      simp at hy
      subst hy
      obtain ⟨e, hem, rfl⟩ := List.mem_map.1 hx
      have := hlt e hem
      omega
    · intro e hem
      simp only [Array.toList_push, List.mem_append, List.mem_singleton] at hem
      rcases hem with hem | rfl
      · have := hlt e hem; omega
      · simp
  · have hent := entry_at he i
    rw [hi] at hent
    cases hes : es.toList[i]? with
    | none => rw [hes] at hent; simp at hent
    | some e =>
      rw [hes] at hent
      simp only [Option.map_some, Option.some.injEq, Prod.mk.injEq] at hent
      have hes' : es[i]? = some e := by simpa using hes
      have hstay : (Instr.keyThatStays (((es[i]?).map (·.key)).getD (ek a)) (ek a)).run P w = .ok (ek a) w := by
        rw [hes']
        simp only [Option.map_some, Option.getD_some, hent.1, Instr.keyThatStays, L.same, if_true, Sem.run_pure]
      refine ⟨setBlock w b (.map (es.modify i fun e => { e with key := ek a, val := ev v }) c), ?_, Evo.setB _ _ _, by simp [setBlock], ⟨_, _, heap_setB hbl _, ?_, ?_, ?_, keys_setM a v m hnd⟩⟩
      · simp only [Instr.mapUpdate, getObj, Sem.run_bind, run_underlying hu, Result.andThen_ok, Sem.run, hb, L.check, hf, hstay, setObj, setBlock]
      · rw [setM_hit hi hnd]
        apply List.ext_getElem?
        intro j
        have hj := entry_at he j
        simp only [List.getElem?_map, Array.getElem?_toList, Array.getElem?_modify] at hj ⊢
        rw [List.getElem?_set]
        by_cases hij : i = j
        · subst hij
          have hil : i < m.length := by
            rcases Nat.lt_or_ge i m.length with h2 | h2
            · exact h2
            · rw [List.getElem?_eq_none h2] at hi; cases hi
          simp [hes', hil]
        · simp [hij, hj]
      · have : (es.modify i fun e => { e with key := ek a, val := ev v }).toList.map (·.born) = es.toList.map (·.born) := by
          apply List.ext_getElem?
          intro j
          simp only [List.getElem?_map, Array.getElem?_toList, Array.getElem?_modify]
          by_cases hij : i = j
          · subst hij; simp [hes']
          · simp [hij]
        rw [this]; exact hbn
      · intro x hx
        obtain ⟨j, hj⟩ := List.getElem?_of_mem hx
        simp only [Array.getElem?_toList, Array.getElem?_modify] at hj
        by_cases hij : i = j
        · subst hij
          simp [hes'] at hj
          rw [← hj]
          exact hlt e (by rw [← Array.getElem?_toList] at hes'; exact List.mem_of_getElem? hes')
        · simp only [hij, if_false] at hj
          exact hlt x (by rw [← Array.getElem?_toList] at hj; exact List.mem_of_getElem? hj)

theorem r_mapset [DecidableEq α] (L : KeyLaw P K ek) {T : TypeId} {t : TypeId} {pos : String} {aft : Array Edge} {x y z : Operand} {a : α} {v : β} (hu : P.underlying T = some (.map K E)) (hx : opv f x = .map (some b)) (hy : opv f y = ek a) (hz : opv f z = ev v)
    (h : MapIs w b ek ev m) (h2 : ∀ w', Evo w w' [b] → w'.heap.size = w.heap.size → MapIs w' b ek ev (setM m a v) → KL P B n ops k rest f w') :
    KL P B n ops k (⟨none, .mapUpdate T x y z, t, pos, aft, none⟩ :: rest) f w := by
  obtain ⟨w', hr, he, hs, hm⟩ := run_mapset L hu a v h
  refine r_op0 (w' := w') rfl rfl ?_ (h2 w' he hs hm)
  simp [execOp, hx, hy, hz, hr]

/-! ranging -/
structure IterIs (w : World) (r b : Nat) (ek : α → Value) (ev : β → Value) (m left : List (α × β)) (last : Option (α × β)) : Prop where
  ex : ∃ (es : Array MapEntry) (clock : Nat) (seen : Array Nat), w.heap[b]? = some (.map es clock) ∧ es.toList.map (fun e => (e.key, e.val)) = m.map (fun p => (ek p.1, ev p.2)) ∧ (es.toList.map (·.born)).Nodup ∧ (∀ e ∈ es.toList, e.born < clock) ∧ (m.map (·.1)).Nodup ∧
    w.heap[r]? = some (.mapIter (some b) clock seen clock) ∧ (es.toList.filter (fun e => !seen.contains e.born)).map (fun e => (e.key, e.val)) = left.map (fun p => (ek p.1, ev p.2)) ∧
    (∀ p, last = some p → ∃ e ∈ es.toList, (∃ s : Array Nat, seen = s.push e.born) ∧ e.key = ek p.1 ∧ e.val = ev p.2)
theorem IterIs.lt {left : List (α × β)} {last : Option (α × β)} {r : Nat} (h : IterIs w r b ek ev m left last) : r < w.heap.size := by
  obtain ⟨es, c, seen, hb, _, _, _, _, hr, _⟩ := h.ex
  rcases Nat.lt_or_ge r w.heap.size with h1 | h1
  · exact h1
  · rw [Array.getElem?_eq_none h1] at hr; cases hr
theorem IterIs.map {left : List (α × β)} {last : Option (α × β)} {r : Nat} (h : IterIs w r b ek ev m left last) : MapIs w b ek ev m := by
  obtain ⟨es, c, seen, hb, h1, h2, h3, h4, _⟩ := h.ex
  exact ⟨es, c, hb, h1, h2, h3, h4⟩
theorem IterIs.ne {left : List (α × β)} {last : Option (α × β)} {r : Nat} (h : IterIs w r b ek ev m left last) : r ≠ b := by
  obtain ⟨es, c, seen, hb, _, _, _, _, hr, _⟩ := h.ex
  intro e
  rw [e, hb] at hr
  cases hr
theorem IterIs.evo {w' : World} {X : List Nat} {left : List (α × β)} {last : Option (α × β)} {r : Nat} (h : IterIs w r b ek ev m left last) (he : Evo w w' X) (hr : r ∉ X) (hb : b ∉ X) : IterIs w' r b ek ev m left last := by
  have h1 := h.lt
  have h2 := h.map.lt
  obtain ⟨es, c, seen, h3, h4, h5, h6, h7, h8, h9⟩ := h.ex
  exact ⟨es, c, seen, (he.same b h2 hb).trans h3, h4, h5, h6, h7, (he.same r h1 hr).trans h8, h9⟩
theorem IterIs.evo0 {w' : World} {left : List (α × β)} {last : Option (α × β)} {r : Nat} (h : IterIs w r b ek ev m left last) (he : Evo w w' []) : IterIs w' r b ek ev m left last := h.evo he (by simp) (by simp)

theorem r_range {T d : Nat} {t : TypeId} {pos : String} {aft : Array Edge} {x : Operand} (hd : Nat.blt d n = true) (hu : P.underlying T = some (.map K E)) (hx : opv f x = .map (some b)) (h : MapIs w b ek ev m)
    (h2 : ∀ r w', r = w.heap.size → Evo w w' [] → IterIs w' r b ek ev m m none → w'.heap.size = r + 1 → KL P B n ops k rest (upd f d (.pointer (some ⟨r, 0, none⟩))) w') :
    KL P B n ops k (⟨some d, .range T x, t, pos, aft, none⟩ :: rest) f w := by
  obtain ⟨es, c, hb, h3, h4, h5, h6⟩ := h.ex
  refine r_op (v := .pointer (some ⟨w.heap.size, 0, none⟩)) (w' := w.alloc (.mapIter (some b) c #[] c)) rfl rfl hd ?_ (h2 _ _ rfl (Evo.alloc _ _ _) ⟨es, c, #[], ?_, h3, h4, h5, h6, heap_alloc_new w _, ?_, by simp⟩ (by simp))
  · simp [execOp, hx, Instr.range, run_underlying hu, getObj, Sem.run, hb, newObj]
  · rw [Below.heap_alloc w _ b h.lt]; exact hb
  · rw [← h3]; congr 1; exact List.filter_eq_self.2 (fun _ _ => by simp)
theorem seen_push {es : List MapEntry} {seen : Array Nat} {e : MapEntry} (hn : (es.map (·.born)).Nodup) (he : e ∈ es.filter (fun e => !seen.contains e.born)) :
    ∃ l1 l2, es.filter (fun e => !seen.contains e.born) = l1 ++ e :: l2 ∧ es.filter (fun x => !(seen.push e.born).contains x.born) = l1 ++ l2 := by
  obtain ⟨l1, l2, h⟩ := List.append_of_mem he
  refine ⟨l1, l2, h, ?_⟩
  have e1 : es.filter (fun x => !(seen.push e.born).contains x.born) = (es.filter (fun e => !seen.contains e.born)).filter (fun x => x.born != e.born) := by
    rw [List.filter_filter]
    congr 1
    funext x
    simp only [Array.contains_push, Bool.not_or]
    by_cases hx : x.born = e.born
    · simp [hx]
    · have hb1 : (x.born != e.born) = true := by simpa using hx
      have hb2 : (x.born == e.born) = false := by simpa using hx
      have hb3 : (e.born == x.born) = false := by simpa using fun h => hx h.symm
      simp [hb1, hb2]
  have hn2 : ((l1 ++ e :: l2).map (·.born)).Nodup := by
    rw [← h]
    exact List.Nodup.sublist (List.Sublist.map _ List.filter_sublist) hn
  rw [e1, h]
  simp only [List.map_append, List.map_cons, List.nodup_append, List.nodup_cons] at hn2
  obtain ⟨_, ⟨h3, _⟩, h4⟩ := hn2
  rw [List.filter_append, List.filter_cons]
  have f1 : l1.filter (fun x => x.born != e.born) = l1 := List.filter_eq_self.2 (fun x hx => by
    simpa using h4 x.born (List.mem_map.2 ⟨x, hx, rfl⟩) e.born (by simp))
  have f2 : l2.filter (fun x => x.born != e.born) = l2 := List.filter_eq_self.2 (fun x hx => by
    simp
    intro hxe
    exact h3 (List.mem_map.2 ⟨x, hx, hxe⟩))
  simp [f1, f2]
theorem r_next {d : Nat} {t : TypeId} {pos : String} {aft : Array Edge} {x : Operand} {r : Nat} {left : List (α × β)} {last : Option (α × β)} (hd : Nat.blt d n = true) (hx : opv f x = .pointer (some ⟨r, 0, none⟩)) (h : IterIs w r b ek ev m left last)
    (h1 : left = [] → KL P B n ops k rest (upd f d (.tuple #[.bool false])) w)
    (h2 : ∀ l1 p l2 w', left = l1 ++ p :: l2 → Evo w w' [r] → w'.heap.size = w.heap.size → IterIs w' r b ek ev m (l1 ++ l2) (some p) → KL P B n ops k rest (upd f d (.tuple #[.bool true, ek p.1, ev p.2])) w') :
    KL P B n ops k (⟨some d, .next x false, t, pos, aft, none⟩ :: rest) f w := by
  have hrl := h.lt
  have hne := h.ne
  obtain ⟨es, c, seen, hb, he, hn, hlt, hnd, hr, hleft, hlast⟩ := h.ex
  have hlo : (leftOf es seen).toList = es.toList.filter (fun e => !seen.contains e.born) := by simp [leftOf]
  rcases run_next_at (P := P) w t r b c c seen es c hr hb hlt (Nat.le_refl _) with ⟨h0, hrun⟩ | ⟨e, hem, w1, hw1, hrun⟩
  · refine r_op (v := .tuple #[.bool false]) (w' := w) rfl rfl hd ?_ (h1 ?_)
    · simp [execOp, hx, hrun]
    · have : (es.toList.filter (fun e => !seen.contains e.born)).length = 0 := by rw [← hlo]; simpa using h0
      have h3 := congrArg List.length hleft
      simp only [List.length_map] at h3
      exact List.eq_nil_of_length_eq_zero (by omega)
  · rw [hlo] at hem
    obtain ⟨m1, m2, hs1, hs2⟩ := seen_push hn hem
    rw [hs1] at hleft
    have hleft' := hleft
    simp only [List.map_append, List.map_cons] at hleft'
    obtain ⟨l1, l3, hl, q1, q2⟩ := List.map_eq_append_iff.1 hleft'.symm
    obtain ⟨p, l2, hl3, q3, q4⟩ := List.map_eq_cons_iff.1 q2
    subst hl3
    have hk : ek p.1 = e.key := congrArg Prod.fst q3
    have hv : ev p.2 = e.val := congrArg Prod.snd q3
    have hheap : w1.heap = w.heap := by rcases hw1 with rfl | rfl <;> rfl
    have hos : w1.os = w.os ∧ w1.tape = w.tape ∧ w1.output = w.output := by rcases hw1 with rfl | rfl <;> exact ⟨rfl, rfl, rfl⟩
    refine r_op (v := .tuple #[.bool true, ek p.1, ev p.2]) (w' := setBlock w1 r (.mapIter (some b) c (seen.push e.born) c)) rfl rfl hd ?_ (h2 l1 p l2 _ hl ?_ ?_ ?_)
    · simp [execOp, hx, hrun, hk, hv]
    · refine ⟨hos.1, hos.2.1, hos.2.2, by simp [setBlock, hheap], fun i _ hi => ?_⟩
      rw [heap_setB_ne _ (by simpa using hi), hheap]
    · simp [setBlock, hheap]
    · refine ⟨es, c, seen.push e.born, ?_, he, hn, hlt, hnd, heap_setB (by rw [hheap]; exact hrl) _, ?_, ?_⟩
      · rw [heap_setB_ne _ (Ne.symm hne), hheap]; exact hb
      · rw [hs2]; simp [q1, q4]
      · intro p' hp'
        injection hp' with hp'
        subst hp'
        exact ⟨e, (List.mem_filter.1 hem).1, ⟨seen, rfl⟩, hk.symm, hv.symm⟩
theorem run_entryI {x : Operand} {r : Nat} {left : List (α × β)} {p : α × β} (ho : o.op = .entry x) (hx : opv f x = .pointer (some ⟨r, 0, none⟩)) (h : IterIs w r b ek ev m left (some p)) :
    (execOp (opv f) o).run P w = .ok (.value (.tuple #[ek p.1, ev p.2])) w := by
  obtain ⟨es, c, seen, hb, he, hn, hlt, hnd, hr, hleft, hlast⟩ := h.ex
  obtain ⟨e, hem, ⟨s, hs⟩, hk, hv⟩ := hlast p rfl
  rw [hs] at hr
  have := run_entry_at (P := P) w r b c s es c e hr hb hem hn
  unfold execOp; rw [ho]; simp only []; rw [hx]
  simp [this, hk, hv]
end
end Go.Vc
