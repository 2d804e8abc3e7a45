/-
  Maps keyed by items; 'm[k] op= v': the entry first, then the store. Generic over the program.
-/
import Derived.Test.YtomklacppmaljaaLb
namespace Go.Vc
open Go Go.RowKit Go.IntWalk
open Go.ChangeMaps (setBlock)
/-! ### keys that are asked -/
theorem asking_hit {P : Program} {K : TypeId} {α : Type} [DecidableEq α] {ek : α → Value} (heq : ∀ (w : World) (x y : α), (Op.equal K (ek x) (ek y)).run P w = .ok (decide (x = y)) w) (x : α) (w : World) :
    ∀ (es : List MapEntry) (i k : Nat) (e : MapEntry), (∀ e ∈ es, ∃ y, e.key = ek y) → es[i]? = some e → e.key = ek x → (∀ j e', j < i → es[j]? = some e' → e'.key ≠ ek x) → (Instr.findAsking K (ek x) es k).run P w = .ok (some (k + i, e.val)) w
  | [], i, k, e, _, h, _, _ => by simp at h
  | a :: es, 0, k, e, _, h, hk, _ => by
    simp at h; subst h
    simp only [Instr.findAsking, Sem.run_bind, hk, heq, Result.andThen_ok, decide_true, if_true, Sem.run_pure, Nat.add_zero]
  | a :: es, i + 1, k, e, hall, h, hk, hne => by
    obtain ⟨y, hy⟩ := hall a (by simp)
    have h0 := hne 0 a (by omega) (by simp)
    have ih := asking_hit heq x w es i (k + 1) e (fun e he => hall e (by simp [he])) (by simpa using h) hk (fun j e' hj he' => hne (j + 1) e' (by omega) (by simpa using he'))
    have hd : decide (x = y) = false := by simp; intro h; exact h0 (by rw [hy, h])
    simp only [Instr.findAsking, Sem.run_bind, hy, heq, hd, Result.andThen_ok, Bool.false_eq_true, if_false]
    rw [ih, show k + 1 + i = k + (i + 1) by omega]
theorem asking_miss {P : Program} {K : TypeId} {α : Type} [DecidableEq α] {ek : α → Value} (heq : ∀ (w : World) (x y : α), (Op.equal K (ek x) (ek y)).run P w = .ok (decide (x = y)) w) (x : α) (w : World) :
    ∀ (es : List MapEntry) (k : Nat), (∀ e ∈ es, ∃ y, e.key = ek y) → (∀ e ∈ es, e.key ≠ ek x) → (Instr.findAsking K (ek x) es k).run P w = .ok none w
  | [], _, _, _ => rfl
  | a :: es, k, hall, hne => by
    obtain ⟨y, hy⟩ := hall a (by simp)
    have h0 := hne a (by simp)
    have ih := asking_miss heq x w es (k + 1) (fun e he => hall e (by simp [he])) (fun e he => hne e (by simp [he]))
    have hd : decide (x = y) = false := by simp; intro h; exact h0 (by rw [hy, h])
    simp only [Instr.findAsking, Sem.run_bind, hy, heq, hd, Result.andThen_ok, Bool.false_eq_true, if_false]
    exact ih
theorem KeyLaw.asked {P : Program} {K : TypeId} {D : TypeDesc} {α : Type} [DecidableEq α] {ek : α → Value} (hu : P.underlying K = some D) (inj : ∀ x y, ek x = ek y → x = y) (hno : ∀ x y, Instr.sameNow D (ek x) (ek y) = none)
    (heq : ∀ (w : World) (x y : α), (Op.equal K (ek x) (ek y)).run P w = .ok (decide (x = y)) w) (check : ∀ w e x, (Instr.checkKey e 10000 K (ek x)).run P w = .ok () w) (same : ∀ x, Instr.sameBits 10000 (ek x) (ek x) = true) : KeyLaw P K ek where
  inj := inj
  check := check
  same := same
  hit w x es i e hall h hk hne := by
    have h1 := asking_hit heq x w es i 0 e hall h hk hne
    rw [Nat.zero_add] at h1
    cases es with
    | nil => simp at h
    | cons a es =>
      obtain ⟨y, hy⟩ := hall a (by simp)
      have h2 : Instr.findNow D (ek x) (a :: es) 0 = none := by simp only [Instr.findNow, hy, hno]
      simp only [Instr.findKey, Sem.run_bind, run_underlying hu, Result.andThen_ok, h2]
      exact h1
  miss w x es hall hne := by
    have h1 := asking_miss heq x w es 0 hall hne
    cases es with
    | nil => simp only [Instr.findKey, Sem.run_bind, run_underlying hu, Result.andThen_ok, Instr.findNow]; rfl
    | cons a es =>
      obtain ⟨y, hy⟩ := hall a (by simp)
      have h2 : Instr.findNow D (ek x) (a :: es) 0 = none := by simp only [Instr.findNow, hy, hno]
      simp only [Instr.findKey, Sem.run_bind, run_underlying hu, Result.andThen_ok, h2]
      exact h1
theorem key_item {P : Program} {T : TypeId} {f0 f1 f2 : Field} (hu : P.underlying T = some (.struct #[f0, f1, f2])) (n0 : f0.name ≠ "_") (n1 : f1.name ≠ "_") (n2 : f2.name ≠ "_")
    (o0 : f0.offset = 0) (o1 : f1.offset = 1) (o2 : f2.offset = 2) (u0 : P.underlying f0.type = some (.int .i64)) (u1 : P.underlying f1.type = some .string) (u2 : P.underlying f2.type = some (.int .i64))
    (a0 : aggP P f0.type = some false) (a1 : aggP P f1.type = some false) (a2 : aggP P f2.type = some false)
    (he : ∀ (w : World) (x y : Item), (Op.equalIn 10000 T (.agg (Enc.enc x).toArray) (.agg (Enc.enc y).toArray)).run P w = .ok (decide (x = y)) w) : KeyLaw P T (fun x : Item => Value.agg (Enc.enc x).toArray) := by
  refine KeyLaw.asked hu (fun x y h => ?_) (fun x y => rfl) (fun w x y => he w x y) (fun w e x => ?_) (fun x => ?_)
  · obtain ⟨k1, t1, i1⟩ := x
    obtain ⟨k2, t2, i2⟩ := y
    have h1 : [Value.int .i64 k1, S t1, Value.int .i64 i1] = [Value.int .i64 k2, S t2, Value.int .i64 i2] := by
      have h2 := Value.agg.inj h
      exact List.toArray_inj h2
    simp only [List.cons.injEq, Value.int.injEq, true_and, and_true] at h1
    rw [h1.1, S_inj h1.2.1, h1.2.2]
  · have p0 : ∀ (z : Item), (part f0.type (Enc.enc z).toArray 0).run P w = .ok (.int .i64 z.kind) w := fun z => run_part1 a0 rfl
    have p1 : ∀ (z : Item), (part f1.type (Enc.enc z).toArray 1).run P w = .ok (S z.text) w := fun z => run_part1 a1 rfl
    have p2 : ∀ (z : Item), (part f2.type (Enc.enc z).toArray 2).run P w = .ok (.int .i64 z.id) w := fun z => run_part1 a2 rfl
    have c0 := check_scalar u0 w e 9998 (.int .i64 x.kind) (.inr ⟨_, _, rfl, rfl⟩)
    have c1 := check_scalar u1 w e 9998 (S x.text) (.inl ⟨rfl, _, rfl⟩)
    have c2 := check_scalar u2 w e 9998 (.int .i64 x.id) (.inr ⟨_, _, rfl, rfl⟩)
    unfold Instr.checkKey
    simp only [Sem.run_bind, run_underlying hu, Result.andThen_ok]
    simp [n0, n1, n2, o0, o1, o2, p0, p1, p2, c0, c1, c2, Sem.run_bind]
  · show Instr.sameBits 10000 (.agg #[.int .i64 x.kind, S x.text, .int .i64 x.id]) (.agg #[.int .i64 x.kind, S x.text, .int .i64 x.id]) = true
    have h1 := bits_str 9999 ⟨x.text.toArray⟩
    have h0 := bits_int 9999 .i64 x.kind
    have h2 := bits_int 9999 .i64 x.id
    unfold Instr.sameBits
    simp only [S] at *
    simp [h0, h1, h2]
/-! ### 'm[k] op= v' -/
def StampIs {α : Type} (w : World) (b : Nat) (ek : α → Value) (a : α) (s : Int) : Prop := ∃ (es : Array MapEntry) (clock i : Nat) (e : MapEntry), w.heap[b]? = some (.map es clock) ∧ es[i]? = some e ∧ (e.born : Int) = s ∧ e.key = ek a
section
variable {P : Program} {B : Exit → Act → World → Prop} {n : Nat} {k : List Kont} {f : Fr} {w : World} {ops : Array Oper} {rest : List Oper}
variable {α β : Type} {ek : α → Value} {ev : β → Value} {b : Nat} {m : List (α × β)} {K E : TypeId}
theorem StampIs.evo {w' : World} {a : α} {s : Int} {X : List Nat} (h : StampIs w b ek a s) (he : Evo w w' X) (hb : b < w.heap.size) (hn : b ∉ X) : StampIs w' b ek a s := by
  obtain ⟨es, c, i, e, h1, h2⟩ := h
  exact ⟨es, c, i, e, (he.same b hb hn).trans h1, h2⟩
theorem run_mapEntry [DecidableEq α] (L : KeyLaw P K ek) {T : TypeId} {z : β} {s0 bb : Nat} (hu : P.underlying T = some (.map K E)) (hz : tyP P E = some (s0, bb, some (ev z))) (a : α) (h : MapIs w b ek ev m) :
    ∃ w' s, (Instr.mapEntry T (.map (some b)) (ek a)).run P w = .ok (.tuple #[ev ((getM m a).getD z), .int .i64 s]) w' ∧ Evo w w' [b] ∧ w'.heap.size = w.heap.size ∧ MapIs w' b ek ev (setM m a ((getM m a).getD z)) ∧ StampIs w' b ek a s := by
  obtain ⟨es, c, hb, he, hbn, hlt, hnd⟩ := h.ex
  have hbl := h.lt
  obtain ⟨es', c', hb', hf⟩ := h.find L a
  rw [hb] at hb'
  injection hb' with hb'
  injection hb' with e1 e2
  subst e1; subst e2
  rcases hf with ⟨hg, hf⟩ | ⟨i, u, hg, hi, hne, hf⟩
  · have hmiss : ∀ p ∈ m, p.1 ≠ a := by
      intro p hp e
      unfold getM at hg
      have hg' := hg
      simp only [Option.map_eq_none_iff, List.find?_eq_none, decide_eq_true_eq] at hg'
      exact hg' p hp e
    refine ⟨setBlock w b (.map (es.push { key := ek a, val := ev z, born := c }) (c + 1)), (c : Int), ?_, Evo.setB _ _ _, by simp [setBlock], ⟨_, _, heap_setB hbl _, ?_, ?_, ?_, keys_setM a _ m hnd⟩, ⟨_, _, es.size, { key := ek a, val := ev z, born := c }, heap_setB hbl _, by simp, rfl, rfl⟩⟩
    · rw [hg]
      simp only [Instr.mapEntry, getObj, Sem.run_bind, run_underlying hu, Result.andThen_ok, Sem.run, hb, L.check, hf, setObj, setBlock, run_zero hz, goInt]
      rfl
    · rw [hg, setM_miss hmiss]; simp [he]
    · simp only [Array.toList_push, List.map_append, List.map_cons, List.map_nil]
      rw [List.nodup_append]
      refine ⟨hbn, by simp, fun x hx y hy => ?_⟩
      simp at hy
      subst hy
      obtain ⟨e, hem, rfl⟩ := List.mem_map.1 hx
      have := hlt e hem
      omega
    · intro e hem
      simp only [Array.toList_push, List.mem_append, List.mem_singleton] at hem
      rcases hem with hem | rfl
      · have := hlt e hem; omega
      · simp
  · have hent := entry_at he i
    rw [hi] at hent
    cases hes : es.toList[i]? with
    | none => rw [hes] at hent; simp at hent
    | some e =>
      rw [hes] at hent
      simp only [Option.map_some, Option.some.injEq, Prod.mk.injEq] at hent
      have hes' : es[i]? = some e := by simpa using hes
      have hstay : (Instr.keyThatStays (((es[i]?).map (·.key)).getD (ek a)) (ek a)).run P w = .ok (ek a) w := by
        rw [hes']
        simp only [Option.map_some, Option.getD_some, hent.1, Instr.keyThatStays, L.same, if_true, Sem.run_pure]
      have hsame : (es.modify i fun e => { e with key := ek a }) = es := by
        apply Array.ext_getElem?
        intro j
        rw [Array.getElem?_modify]
        by_cases hij : i = j
        · subst hij
          rw [if_pos rfl, hes']
          obtain ⟨k0, v0, b0⟩ := e
          obtain rfl : k0 = ek a := hent.1
          rfl
        · rw [if_neg hij]
      have hset : setM m a ((getM m a).getD z) = m := by
        rw [hg, setM_hit hi hnd]
        apply List.ext_getElem?
        intro j
        rw [List.getElem?_set]
        by_cases hij : i = j
        · subst hij
          have hil : i < m.length := (List.getElem?_eq_some_iff.1 hi).1
          rw [if_pos rfl, if_pos hil, hi]; rfl
        · rw [if_neg hij]
      refine ⟨setBlock w b (.map es c), (e.born : Int), ?_, Evo.setB _ _ _, by simp [setBlock], ?_, ⟨es, c, i, e, heap_setB hbl _, hes', rfl, hent.1⟩⟩
      · rw [hg]
        simp only [Instr.mapEntry, getObj, Sem.run_bind, run_underlying hu, Result.andThen_ok, Sem.run, hb, L.check, hf, hstay, setObj, setBlock, hsame, goInt]
        rw [hes']
        rfl
      · rw [hset]
        exact ⟨es, c, heap_setB hbl _, he, hbn, hlt, hnd⟩
theorem run_entryStore [DecidableEq α] (L : KeyLaw P K ek) {T : TypeId} {a : α} {s : Int} (v : β) (h : MapIs w b ek ev m) (hs : StampIs w b ek a s) :
    ∃ w', (Instr.entryStore T (.map (some b)) (.int .i64 s) (ev v)).run P w = .ok () w' ∧ Evo w w' [b] ∧ w'.heap.size = w.heap.size ∧ MapIs w' b ek ev (setM m a v) := by
  obtain ⟨es, c, hb, he, hbn, hlt, hnd⟩ := h.ex
  have hbl := h.lt
  obtain ⟨es', c', i, e, hb', hes', hborn, hkey⟩ := hs
  rw [hb] at hb'
  injection hb' with hb'
  injection hb' with e1 e2
  subst e1; subst e2
  have hent := entry_at he i
  have hes : es.toList[i]? = some e := by simpa using hes'
  rw [hes] at hent
  cases hi : m[i]? with
  | none => rw [hi] at hent; simp at hent
  | some p =>
    rw [hi] at hent
    simp only [Option.map_some, Option.some.injEq, Prod.mk.injEq] at hent
    obtain ⟨a', u⟩ := p
    have ha : a' = a := L.inj _ _ (hent.1.symm.trans hkey)
    subst ha
    have hfind : es.findIdx? (fun e => (e.born : Int) == s) = some i := by
      cases hq : es.findIdx? (fun e => (e.born : Int) == s) with
      | none =>
        rw [Array.findIdx?_eq_none_iff] at hq
        have := hq e (by rw [← Array.mem_toList_iff]; exact List.mem_of_getElem? hes)
        simp [hborn] at this
      | some j =>
        obtain ⟨hj, hp, _⟩ := Array.findIdx?_eq_some_iff_getElem.1 hq
        have h1 : ((es[j]).born : Int) = s := by simpa using hp
        have h2 : (es.toList.map (·.born))[j]? = (es.toList.map (·.born))[i]? := by
          rw [List.getElem?_map, List.getElem?_map, hes, Array.getElem?_toList, Array.getElem?_eq_getElem hj]
          simp only [Option.map_some, Option.some.injEq]
          omega
        have h3 := (List.getElem?_inj (by simpa using hj) hbn).1 h2
        rw [h3]
    refine ⟨setBlock w b (.map (es.modify i fun e => { e with val := ev v }) c), ?_, Evo.setB _ _ _, by simp [setBlock], ⟨_, _, heap_setB hbl _, ?_, ?_, ?_, keys_setM a' v m hnd⟩⟩
    · have hint : (asInt (.int .i64 s)).run P w = .ok s w := rfl
      simp only [Instr.entryStore, getObj, Sem.run_bind, Result.andThen_ok, Sem.run, hb, hint, hfind, setObj, setBlock]
    · rw [setM_hit hi hnd]
      apply List.ext_getElem?
      intro j
      have hj := entry_at he j
      simp only [List.getElem?_map, Array.getElem?_toList, Array.getElem?_modify] at hj ⊢
      rw [List.getElem?_set]
      by_cases hij : i = j
      · subst hij
        have hil : i < m.length := (List.getElem?_eq_some_iff.1 hi).1
        simp [hes', hil, hkey]
      · simp [hij, hj]
    · have : (es.modify i fun e => { e with val := ev v }).toList.map (·.born) = es.toList.map (·.born) := by
        apply List.ext_getElem?
        intro j
        simp only [List.getElem?_map, Array.getElem?_toList, Array.getElem?_modify]
        by_cases hij : i = j
        · subst hij; simp [hes']
        · simp [hij]
      rw [this]; exact hbn
    · intro x hx
      obtain ⟨j, hj⟩ := List.getElem?_of_mem hx
      simp only [Array.getElem?_toList, Array.getElem?_modify] at hj
      by_cases hij : i = j
      · subst hij
        simp [hes'] at hj
        rw [← hj]
        exact hlt e (List.mem_of_getElem? hes)
      · simp only [hij, if_false] at hj
        exact hlt x (by rw [← Array.getElem?_toList] at hj; exact List.mem_of_getElem? hj)
theorem r_mapEntry [DecidableEq α] (L : KeyLaw P K ek) {T d : Nat} {z : β} {s0 bb : Nat} {t : TypeId} {pos : String} {aft : Array Edge} {x y : Operand} {a : α} (hd : Nat.blt d n = true) (hu : P.underlying T = some (.map K E)) (hz : tyP P E = some (s0, bb, some (ev z)))
    (hx : opv f x = .map (some b)) (hy : opv f y = ek a) (h : MapIs w b ek ev m)
    (h2 : ∀ s w', Evo w w' [b] → w'.heap.size = w.heap.size → MapIs w' b ek ev (setM m a ((getM m a).getD z)) → StampIs w' b ek a s → KL P B n ops k rest (upd f d (.tuple #[ev ((getM m a).getD z), .int .i64 s])) w') :
    KL P B n ops k (⟨some d, .mapEntry T x y, t, pos, aft, none⟩ :: rest) f w := by
  obtain ⟨w', s, hr, he, hs, hm, hst⟩ := run_mapEntry L hu hz a h
  refine r_op (w' := w') rfl rfl hd ?_ (h2 s w' he hs hm hst)
  simp [execOp, hx, hy, hr]
theorem r_entryStore [DecidableEq α] (L : KeyLaw P K ek) {T : TypeId} {t : TypeId} {pos : String} {aft : Array Edge} {x y u : Operand} {a : α} {s : Int} {v : β} (hx : opv f x = .map (some b)) (hy : opv f y = .int .i64 s) (hu : opv f u = ev v)
    (h : MapIs w b ek ev m) (hs : StampIs w b ek a s) (h2 : ∀ w', Evo w w' [b] → w'.heap.size = w.heap.size → MapIs w' b ek ev (setM m a v) → KL P B n ops k rest f w') :
    KL P B n ops k (⟨none, .entryStore T x y u, t, pos, aft, none⟩ :: rest) f w := by
  obtain ⟨w', hr, he, hsz, hm⟩ := run_entryStore (T := T) L v h hs
  refine r_op0 (w' := w') rfl rfl ?_ (h2 w' he hsz hm)
  simp [execOp, hx, hy, hu, hr]
theorem setM_twice [DecidableEq α] (x : α) (u v : β) (m : List (α × β)) : setM (setM m x u) x v = setM m x v := by
  unfold setM
  by_cases h : m.any (·.1 = x) = true
  · have h2 : (m.map (fun p => if p.1 = x then (x, u) else p)).any (·.1 = x) = true := by
      obtain ⟨p, hp, hx⟩ := List.any_eq_true.1 h
      refine List.any_eq_true.2 ⟨(x, u), List.mem_map.2 ⟨p, hp, by simp at hx; simp [hx]⟩, by simp⟩
    rw [if_pos h, if_pos h2, if_pos h, List.map_map]
    refine List.map_congr_left (fun p _ => ?_)
    by_cases e : p.1 = x
    · simp [e]
    · simp [e]
  · have h2 : (m ++ [(x, u)]).any (·.1 = x) = true := by simp
    rw [if_neg h, if_pos h2, if_neg h, List.map_append]
    congr 1
    · conv => rhs; rw [← List.map_id m]
      refine List.map_congr_left (fun p hp => ?_)
      have : ¬ p.1 = x := fun e => h (List.any_eq_true.2 ⟨p, hp, by simpa using e⟩)
      simp [this]
    · simp
end
end Go.Vc
