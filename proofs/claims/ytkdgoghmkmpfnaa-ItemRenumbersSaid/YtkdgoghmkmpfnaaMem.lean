/-
  Memory: how worlds follow one another, blocks of our own, rows that are only read; the rules of the operations that touch memory. Generic over the program.
-/
import Derived.Test.YtkdgoghmkmpfnaaOps
import Derived.OneCell
import Derived.Lib.Strings
namespace Go.Vc
open Go Go.RowKit Go.IntWalk

/-! ### Worlds -/
/-- 'w'' is 'w' with new blocks and with writes to the blocks of 'E' alone. -/
structure Evo (w w' : World) (E : List Nat) : Prop where
  os : w'.os = w.os
  tape : w'.tape = w.tape
  output : w'.output = w.output
  size : w.heap.size ≤ w'.heap.size
  same : ∀ b, b < w.heap.size → b ∉ E → w'.heap[b]? = w.heap[b]?
theorem Evo.refl (w : World) (E : List Nat) : Evo w w E := ⟨rfl, rfl, rfl, Nat.le_refl _, fun _ _ _ => rfl⟩
theorem Evo.trans {a b c : World} {E E' : List Nat} (h : Evo a b E) (k : Evo b c E') (hE : ∀ x ∈ E', x < a.heap.size → x ∈ E) : Evo a c E :=
  ⟨k.os.trans h.os, k.tape.trans h.tape, k.output.trans h.output, Nat.le_trans h.size k.size, fun x hx hn =>
    (k.same x (Nat.lt_of_lt_of_le hx h.size) (fun hm => hn (hE x hm hx))).trans (h.same x hx hn)⟩
theorem Evo.mono {a b : World} {E E' : List Nat} (h : Evo a b E) (hE : ∀ x ∈ E, x ∈ E') : Evo a b E' := ⟨h.os, h.tape, h.output, h.size, fun x hx hn => h.same x hx (fun hm => hn (hE x hm))⟩
theorem Evo.drew (w : World) (E : List Nat) : Evo w w.drew E := ⟨rfl, rfl, rfl, Nat.le_refl _, fun _ _ _ => rfl⟩
theorem Evo.drewN (w : World) (m : Nat) (E : List Nat) : Evo w (w.drewN m) E := by
  refine ⟨?_, ?_, ?_, ?_, fun _ _ _ => ?_⟩ <;> simp [World.drewN]
theorem Evo.alloc (w : World) (o : Obj) (E : List Nat) : Evo w (w.alloc o) E := ⟨rfl, rfl, rfl, by simp, fun b hb _ => Below.heap_alloc w o b hb⟩
theorem Evo.setCell (w : World) (a : Addr) (v : Value) : Evo w (w.setCell a v) [a.block] := ⟨rfl, rfl, rfl, by simp, fun b _ hn => Below.heap_setCell w a v b (by simpa using hn)⟩
theorem Evo.setRow (w : World) (g : Nat) (cs : Array Value) : Evo w (w.setRow g cs) [g] := ⟨rfl, rfl, rfl, by simp, fun b _ hn => setRow_other w g b cs (by simpa using hn)⟩
theorem Evo.below {w w' : World} (h : Evo w w' []) : Below w.heap.size w w' := ⟨h.os, h.tape, h.output, h.size, fun k hk => h.same k hk (by simp)⟩
theorem Evo.of_below {w w' : World} (h : Below w.heap.size w w') : Evo w w' [] := ⟨h.os, h.tape, h.output, h.size, fun b hb _ => h.block b hb⟩
theorem Evo.grown {w w' : World} {row : Option Nat} (h : w.grownBy w' row) : Evo w w' row.toList := ⟨h.os, h.tape, h.output, h.size, fun b hb hn => h.block b hb (by
  intro e; apply hn; rw [← e]; simp)⟩
/-- below 'B' all is as it was when the call began -/
theorem below_evo {B : Nat} {w0 w w' : World} {E : List Nat} (h : Below B w0 w) (he : Evo w w' E) (hB : B ≤ w.heap.size) (hE : ∀ x ∈ E, B ≤ x) : Below B w0 w' :=
  ⟨he.os.trans h.os, he.tape.trans h.tape, he.output.trans h.output, Nat.le_trans h.size he.size, fun k hk =>
    (he.same k (by omega) (fun hm => by have := hE k hm; omega)).trans (h.block k hk)⟩

theorem evo_step0 {w0 w w' : World} {X : List Nat} (h : Evo w0 w X) (he : Evo w w' []) : Evo w0 w' X := h.trans he (by simp)
theorem evo_step1 {w0 w w' : World} {X : List Nat} {b : Nat} (h : Evo w0 w X) (he : Evo w w' [b]) (hb : w0.heap.size ≤ b ∨ b ∈ X) : Evo w0 w' X := h.trans he (fun x hx hlt => by
  simp at hx
  subst hx
  rcases hb with hb | hb
  · omega
  · exact hb)
theorem evo_stepo {w0 w w' : World} {X : List Nat} {v : Value} (h : Evo w0 w X) (he : Evo w w' v.ownBlock.toList) (hb : ∀ g, v.ownBlock = some g → w0.heap.size ≤ g ∨ g ∈ X) : Evo w0 w' X := h.trans he (fun x hx hlt => by
  have hv : v.ownBlock = some x := by simpa using hx
  rcases hb x hv with hb | hb
  · omega
  · exact hb)

/-! ### Closed facts of a program -/
def tyP (P : Program) (T : TypeId) : Option (Nat × Nat × Option Value) := (P.info? T).map (fun i => (i.size, i.bytes, i.zero))
def aggP (P : Program) (T : TypeId) : Option Bool :=
  match P.underlying T with
  | some (.struct _) => some true
  | some (.array _ _) => some true
  | some _ => some false
  | none => none
def fieldP (P : Program) (T : TypeId) (f : Nat) : Option Nat :=
  match P.underlying T with
  | some (.struct fs) => match fs[f]? with
    | some d => match P.info? d.type with
      | some i => if i.size = 0 then none else some d.offset
      | none => none
    | none => none
  | _ => none

section
variable {P : Program} {w : World} {T : TypeId}
theorem run_sizeOf {n b : Nat} {z : Option Value} (h : tyP P T = some (n, b, z)) : (sizeOf T).run P w = .ok n w := by
  unfold tyP at h
  cases hi : P.info? T with
  | none => rw [hi] at h; cases h
  | some i => rw [hi] at h; simp at h; simp [sizeOf, typeInfo, hi, h.1]
theorem run_zero {n b : Nat} {z : Value} (h : tyP P T = some (n, b, some z)) : (zeroValue T).run P w = .ok z w := by
  unfold tyP at h
  cases hi : P.info? T with
  | none => rw [hi] at h; cases h
  | some i => rw [hi] at h; simp at h; simp [zeroValue, typeInfo, hi, h.2.2]
theorem run_isAgg {b : Bool} (h : aggP P T = some b) : (isAgg T).run P w = .ok b w := by
  unfold aggP at h
  unfold isAgg
  cases hu : P.underlying T with
  | none => rw [hu] at h; cases h
  | some d =>
    rw [hu] at h
    cases d <;> simp_all [run_underlying hu]
theorem run_fieldAt {f off b o : Nat} (h : fieldP P T f = some off) : (Instr.fieldAt T (.pointer (some ⟨b, o, none⟩)) f).run P w = .ok (.pointer (some ⟨b, o + off, none⟩)) w := by
  unfold fieldP at h
  unfold Instr.fieldAt
  cases hu : P.underlying T with
  | none => rw [hu] at h; cases h
  | some d =>
    rw [hu] at h
    cases d <;> try (simp at h; done)
    case struct fs =>
      simp only at h
      cases hf : fs[f]? with
      | none => rw [hf] at h; cases h
      | some d =>
        rw [hf] at h
        simp only at h
        cases hi : P.info? d.type with
        | none => rw [hi] at h; cases h
        | some i =>
          rw [hi] at h
          simp only at h
          by_cases hz : i.size = 0
          · rw [if_pos hz] at h; cases h
          · rw [if_neg hz] at h
            injection h with h
            have hadd : (⟨b, o, none⟩ : Addr).add d.offset = ⟨b, o + off, none⟩ := by
              rw [h]; unfold Addr.add; split <;> simp_all
            simp [run_underlying hu, hf, Instr.sureAddr, fieldPlace, sizeOf, typeInfo, hi, hz, hadd]
end

/-! ### Cells -/
def At (w : World) (b off : Nat) (cs : List Value) : Prop := ∀ j v, cs[j]? = some v → w.cell? ⟨b, off + j, none⟩ = some v
def Blk (w : World) (b : Nat) (T : TypeId) (cs : List Value) : Prop := w.heap[b]? = some (.cells cs.toArray T (0, 0))

theorem At.cell {w : World} {b off : Nat} {cs : List Value} (h : At w b off cs) (j : Nat) {v : Value} (hj : cs[j]? = some v) : w.cell? ⟨b, off + j, none⟩ = some v := h j v hj
theorem At.evo {w w' : World} {b off : Nat} {cs : List Value} {E : List Nat} (h : At w b off cs) (he : Evo w w' E) (hn : b ∉ E) : At w' b off cs := by
  intro j v hj
  have h1 := h j v hj
  rw [World.cell?_of_block (w := w) (he.same b (World.block_lt_of_cell? w _ h1) hn)]
  exact h1
theorem At.evo0 {w w' : World} {b off : Nat} {cs : List Value} (h : At w b off cs) (he : Evo w w' []) : At w' b off cs := h.evo he (by simp)
theorem At.below {w0 w : World} {b off : Nat} {cs : List Value} (h : At w0 b off cs) (hb : Below w0.heap.size w0 w) : At w b off cs := by
  intro j v hj
  have h1 := h j v hj
  rw [hb.cell (World.block_lt_of_cell? w0 _ h1)]
  exact h1
theorem At.sub {w : World} {b off : Nat} {cs : List Value} (h : At w b off cs) (i : Nat) (ds : List Value) (hd : ∀ j v, ds[j]? = some v → cs[i + j]? = some v) : At w b (off + i) ds := by
  intro j v hj
  have := h (i + j) v (hd j v hj)
  rwa [← Nat.add_assoc] at this
theorem At.part {w : World} {b off : Nat} {cs ds : List Value} (h : At w b off cs) (i m : Nat) (hd : (cs.drop i).take m = ds) : At w b (off + i) ds := by
  refine h.sub i ds (fun j v hj => ?_)
  subst hd
  rw [List.getElem?_take] at hj
  split at hj
  · simpa using hj
  · cases hj
theorem Blk.lt {w : World} {b : Nat} {T : TypeId} {cs : List Value} (h : Blk w b T cs) : b < w.heap.size := by
  unfold Blk at h
  rcases Nat.lt_or_ge b w.heap.size with h1 | h1
  · exact h1
  · rw [Array.getElem?_eq_none h1] at h; cases h
theorem Blk.at {w : World} {b : Nat} {T : TypeId} {cs : List Value} (h : Blk w b T cs) : At w b 0 cs := by
  intro j v hj
  unfold Blk at h
  simp only [World.cell?, h, Nat.zero_add, Option.isSome_none, Bool.false_eq_true, if_false]
  simpa using hj
theorem Blk.evo {w w' : World} {b : Nat} {T : TypeId} {cs : List Value} {E : List Nat} (h : Blk w b T cs) (he : Evo w w' E) (hn : b ∉ E) : Blk w' b T cs := (he.same b h.lt hn).trans h
theorem Blk.evo0 {w w' : World} {b : Nat} {T : TypeId} {cs : List Value} (h : Blk w b T cs) (he : Evo w w' []) : Blk w' b T cs := h.evo he (by simp)
theorem Blk.below {w0 w : World} {b : Nat} {T : TypeId} {cs : List Value} (h : Blk w0 b T cs) (hb : Below w0.heap.size w0 w) : Blk w b T cs := (hb.block b h.lt).trans h

/-- the parts of a composite of two, three .. cells: what 'cell' is handed -/
theorem run_load1 {P : Program} {w : World} {T : TypeId} {b off : Nat} {v : Value} (ha : aggP P T = some false) (hc : w.cell? ⟨b, off, none⟩ = some v) :
    (Instr.loadAt T (.pointer (some ⟨b, off, none⟩))).run P w = .ok v w := by
  simp [Instr.loadAt, Instr.sureAddr, loadVar, run_isAgg ha, run_load, hc]
theorem add_lit (b o j : Nat) : (⟨b, o, none⟩ : Addr).add j = ⟨b, o + j, none⟩ := by unfold Addr.add; split <;> simp_all
theorem run_loadN {P : Program} {w : World} {T : TypeId} {b off n bb : Nat} {z : Option Value} {cs : List Value} (ha : aggP P T = some true) (ht : tyP P T = some (n, bb, z)) (hn : cs.length = n) (hc : At w b off cs) :
    (Instr.loadAt T (.pointer (some ⟨b, off, none⟩))).run P w = .ok (.agg cs.toArray) w := by
  have h1 := run_loadCells_list (P := P) w ⟨b, off, none⟩ cs (fun j v hj => by rw [add_lit]; exact hc j v hj)
  rw [hn] at h1
  simp [Instr.loadAt, Instr.sureAddr, loadVar, run_isAgg ha, run_sizeOf ht, h1]

section
variable {P : Program} {B : Exit → Act → World → Prop} {n : Nat} {k : List Kont} {f : Fr} {w : World} {ops : Array Oper} {rest : List Oper} {o : Oper}

theorem run_ld1 {T : TypeId} {x : Operand} {b off : Nat} {v : Value} (ho : o.op = .load T x) (ha : aggP P T = some false) (hx : opv f x = .pointer (some ⟨b, off, none⟩)) (hc : w.cell? ⟨b, off, none⟩ = some v) :
    (execOp (opv f) o).run P w = .ok (.value v) w := by
  unfold execOp; rw [ho]; simp only []; rw [hx]; simp [run_load1 ha hc]
theorem run_ldN {T : TypeId} {x : Operand} {b off m bb : Nat} {z : Option Value} {cs : List Value} (ho : o.op = .load T x) (ha : aggP P T = some true) (ht : tyP P T = some (m, bb, z))
    (hx : opv f x = .pointer (some ⟨b, off, none⟩)) (hn : cs.length = m) (hc : At w b off cs) :
    (execOp (opv f) o).run P w = .ok (.value (.agg cs.toArray)) w := by
  unfold execOp; rw [ho]; simp only []; rw [hx]; simp [run_loadN ha ht hn hc]
theorem run_fa {T : TypeId} {x : Operand} {i b off fo : Nat} (ho : o.op = .fieldAddr T x i) (hx : opv f x = .pointer (some ⟨b, off, none⟩)) (hf : fieldP P T i = some fo) :
    (execOp (opv f) o).run P w = .ok (.value (.pointer (some ⟨b, off + fo, none⟩))) w := by
  unfold execOp; rw [ho]; simp only []; rw [hx]; simp [run_fieldAt hf]
theorem run_nc {x : Operand} {a : Addr} (ho : o.op = .nilCheck x) (hx : opv f x = .pointer (some a)) :
    (execOp (opv f) o).run P w = .ok (.value (.pointer (some a))) w := by
  unfold execOp; rw [ho]; simp only []; rw [hx]; rfl

/-- a new variable, the zero value in it -/
theorem r_alloc {T d m bb : Nat} {t : TypeId} {pos : String} {aft : Array Edge} {z : Value} {zs : List Value} (ht : tyP P T = some (m, bb, some z)) (hz : z.cells = zs.toArray) (hd : Nat.blt d n = true)
    (h : ∀ b w', b = w.heap.size → Evo w w' [] → Blk w' b T zs → w'.heap.size = b + 1 → KL P B n ops k rest (upd f d (.pointer (some ⟨b, 0, none⟩))) w') :
    KL P B n ops k (⟨some d, .alloc T, t, pos, aft, none⟩ :: rest) f w := by
  refine r_op (v := .pointer (some ⟨w.heap.size, 0, none⟩)) (w' := w.alloc (.cells zs.toArray T)) rfl rfl hd ?_ (h _ _ rfl (Evo.alloc _ _ _) (heap_alloc_new w _) (by simp))
  simp [execOp, Instr.alloc, run_zero ht, newVar, newRow, hz]
theorem r_box {T d : Nat} {t : TypeId} {pos : String} {aft : Array Edge} {x : Operand} {v : Value} {vs : List Value} (hx : opv f x = v) (hv : v.cells = vs.toArray) (hd : Nat.blt d n = true)
    (h : ∀ b w', b = w.heap.size → Evo w w' [] → Blk w' b T vs → w'.heap.size = b + 1 → KL P B n ops k rest (upd f d (.pointer (some ⟨b, 0, none⟩))) w') :
    KL P B n ops k (⟨some d, .box T x, t, pos, aft, none⟩ :: rest) f w := by
  refine r_op (v := .pointer (some ⟨w.heap.size, 0, none⟩)) (w' := w.alloc (.cells vs.toArray T)) rfl rfl hd ?_ (h _ _ rfl (Evo.alloc _ _ _) (heap_alloc_new w _) (by simp))
  simp [execOp, hx, Instr.box, newVar, newRow, hv]

def oneCells (vs : List Value) : Bool := vs.all (·.oneCell')
theorem run_storeB {T T' : TypeId} {b off m bb : Nat} {z : Option Value} {v : Value} {cs vs : List Value} (hb : Blk w b T' cs) (ht : tyP P T = some (m, bb, z)) (hv : v.cells = vs.toArray) (hm : vs.length = m)
    (h1 : oneCells vs = true) (hfit : off + vs.length ≤ cs.length) :
    (Instr.storeAt T (.pointer (some ⟨b, off, none⟩)) v).run P w = .ok () (w.setRow b (cs.take off ++ vs ++ cs.drop (off + vs.length)).toArray) := by
  have h2 := run_storeCells_at P b off T' vs 0 cs.toArray w hb (by simpa using hfit) (fun u hu => by
    have := List.all_eq_true.1 h1 u hu; exact this)
  have h3 : v.cells.size = m := by rw [hv]; simpa using hm
  simp only [Nat.add_zero] at h2
  rw [hv] at h3
  simp only [Instr.storeAt, Instr.sureAddr, storeVar, Sem.run_bind, run_sizeOf ht, hv, Sem.run_pure, Result.andThen_ok]
  simp only [h3, ne_eq, not_true_eq_false, if_false]
  simpa using h2
/-- a store into a block of our own -/
theorem r_store {T T' : TypeId} {t : TypeId} {pos : String} {aft : Array Edge} {x y : Operand} {b off m bb : Nat} {z : Option Value} {v : Value} {cs vs cs' : List Value}
    (hx : opv f x = .pointer (some ⟨b, off, none⟩)) (hy : opv f y = v) (hb : Blk w b T' cs) (ht : tyP P T = some (m, bb, z)) (hv : v.cells = vs.toArray) (hm : vs.length = m)
    (h1 : oneCells vs = true) (hfit : Nat.ble (off + vs.length) cs.length = true) (hcs : cs.take off ++ vs ++ cs.drop (off + vs.length) = cs')
    (h : ∀ w', Evo w w' [b] → w'.heap.size = w.heap.size → Blk w' b T' cs' → KL P B n ops k rest f w') :
    KL P B n ops k (⟨none, .store T x y, t, pos, aft, none⟩ :: rest) f w := by
  refine r_op0 (w' := w.setRow b cs'.toArray) rfl rfl ?_ (h _ (Evo.setRow _ _ _) (by simp) (setRow_heap w b _ _ _ _ hb))
  have := run_storeB (P := P) hb ht hv hm h1 (by simpa using hfit)
  simp [execOp, hx, hy, this, ← hcs]
/-- 'var x = v': a new variable and what it holds, in one -/
theorem r_var {T d : Nat} {t t2 : TypeId} {pos pos2 : String} {aft aft2 : Array Edge} {y : Operand} {m bb : Nat} {z v : Value} {zs vs : List Value}
    (ht : tyP P T = some (m, bb, some z)) (hz : z.cells = zs.toArray) (hd : Nat.blt d n = true) (hy : opv (upd f d undef) y = v) (hyd : ∀ u, opv (upd f d u) y = opv (upd f d undef) y) (hv : v.cells = vs.toArray) (hm : vs.length = m) (hzm : zs.length = m) (h1 : oneCells vs = true)
    (h : ∀ b w', b = w.heap.size → Evo w w' [] → Blk w' b T vs → w'.heap.size = b + 1 → KL P B n ops k rest (upd f d (.pointer (some ⟨b, 0, none⟩))) w') :
    KL P B n ops k (⟨some d, .alloc T, t, pos, aft, none⟩ :: ⟨none, .store T (.tmp d) y, t2, pos2, aft2, none⟩ :: rest) f w := by
  refine r_alloc ht hz hd ?_
  intro b w' hb he hB hs
  refine r_store (b := b) (off := 0) (cs := zs) (vs := vs) (cs' := vs) (by simp only [opv, upd_same]) ((hyd _).trans hy) hB ht hv hm h1 (by simp [hm, hzm]) (by simp [hm, hzm]) ?_
  intro w'' he' hs' hB'
  refine h b w'' hb (he.trans he' (by simp; omega)) hB' (by omega)

/-! struct and slice literals -/
theorem map_parts (f : Fr) (ps : List (Nat × Operand)) : (ps.toArray.map fun (i, x) => (i, opv f x)) = (ps.map fun p => (p.1, opv f p.2)).toArray := by simp
/-- 'fill' on lists -/
def fillL (place : Nat → Option (Nat × Nat)) (cells : List Value) : List (Nat × Value) → Option (List Value)
  | [] => some cells
  | (i, v) :: rest =>
    match place i with
    | none => none
    | some (off, size) => bif Nat.beq v.cells.toList.length size && Nat.ble (off + size) cells.length then fillL place (cells.take off ++ v.cells.toList ++ cells.drop (off + size)) rest else none
theorem fold_set : ∀ (l : List Value) (i off : Nat) (A : Array Value), off + i + l.length ≤ A.size → (l.zipIdx i).foldl (fun cs x => cs.setIfInBounds (off + x.2) x.1) A = (A.toList.take (off + i) ++ l ++ A.toList.drop (off + i + l.length)).toArray
  | [], i, off, A, h => by simp
  | c :: l, i, off, A, h => by
    have h2 := fold_set l (i + 1) off (A.setIfInBounds (off + i) c) (by simp at h ⊢; omega)
    simp only [List.zipIdx_cons, List.foldl_cons]
    rw [h2]
    apply Array.ext'
    simp only [Array.toList_setIfInBounds]
    have hi : off + i < A.toList.length := by simp at h ⊢; omega
    have e1 : off + (i + 1) = off + i + 1 := by omega
    rw [e1, List.take_set, List.take_succ_eq_append_getElem hi, List.set_append_right _ _ (by rw [List.length_take]; omega)]
    have e2 : off + i - (A.toList.take (off + i)).length = 0 := by rw [List.length_take]; omega
    rw [e2, List.drop_set_of_lt (by omega)]
    simp only [List.set_cons_zero, List.length_cons, List.append_assoc, List.cons_append, List.nil_append]
    congr 3
    congr 1
    omega
theorem fill_of {place : Nat → Option (Nat × Nat)} : ∀ (parts : List (Nat × Value)) (cells cells' : List Value), fillL place cells parts = some cells' → Instr.fill place cells.toArray parts = some cells'.toArray
  | [], cells, cells', h => by simp [fillL] at h; subst h; rfl
  | (i, v) :: rest, cells, cells', h => by
    simp only [fillL] at h
    simp only [Instr.fill]
    cases hp : place i with
    | none => rw [hp] at h; cases h
    | some q =>
      obtain ⟨off, size⟩ := q
      rw [hp] at h
      simp only at h ⊢
      cases hb : (Nat.beq v.cells.toList.length size && Nat.ble (off + size) cells.length)
      · rw [hb] at h; cases h
      · rw [hb] at h
        simp only [Bool.and_eq_true, Nat.ble_eq] at hb
        have hsz : v.cells.size = size := by have := Nat.eq_of_beq_eq_true hb.1; simpa using this
        rw [if_neg (by simp [hsz]; omega)]
        have hf := fold_set v.cells.toList 0 off cells.toArray (by simp [hsz]; omega)
        have : v.cells.zipIdx.foldl (fun cs (x : Value × Nat) => cs.setIfInBounds (off + x.2) x.1) cells.toArray = (cells.take off ++ v.cells.toList ++ cells.drop (off + size)).toArray := by
          rw [← Array.foldl_toList, Array.toList_zipIdx, hf]
          simp [hsz]
        have e : (v.cells.zipIdx.foldl (fun cs (c, j) => cs.setIfInBounds (off + j) c) cells.toArray) = (cells.take off ++ v.cells.toList ++ cells.drop (off + size)).toArray := this
        rw [e]
        exact fill_of rest _ _ h
/-- where the parts of a struct or an array lie -/
def placesP (P : Program) (T : TypeId) : Option (List (Nat × Nat)) :=
  match P.underlying T with
  | some (.struct fs) => fs.toList.mapM (fun f => (P.info? f.type).map fun i => (f.offset, i.size))
  | some (.array n e) => (P.info? e).map fun i => (List.range n).map (fun j => (j * i.size, i.size))
  | _ => none
theorem fillL_mono {p q : Nat → Option (Nat × Nat)} (h : ∀ i x, p i = some x → q i = some x) : ∀ (parts : List (Nat × Value)) (cells cells' : List Value), fillL p cells parts = some cells' → fillL q cells parts = some cells'
  | [], _, _, hh => hh
  | (i, v) :: rest, cells, cells', hh => by
    simp only [fillL] at hh ⊢
    cases hp : p i with
    | none => rw [hp] at hh; cases hh
    | some x =>
      rw [hp] at hh
      rw [h i x hp]
      obtain ⟨off, size⟩ := x
      simp only at hh ⊢
      cases hb : (Nat.beq v.cells.toList.length size && Nat.ble (off + size) cells.length)
      · rw [hb] at hh; cases hh
      · rw [hb] at hh
        exact fillL_mono h rest _ _ hh
theorem run_bld {T : TypeId} {ps : List (Nat × Operand)} {pv : List (Nat × Value)} {pl : List (Nat × Nat)} {m bb : Nat} {z : Value} {zs cells : List Value} (ho : o.op = .build T ps.toArray) (ht : tyP P T = some (m, bb, some z)) (hz : z.cells = zs.toArray) (hpl : placesP P T = some pl)
    (hps : (ps.map fun p => (p.1, opv f p.2)) = pv) (h : fillL (fun i => pl[i]?) zs pv = some cells) :
    (execOp (opv f) o).run P w = .ok (.value (.agg cells.toArray)) w := by
  unfold execOp; rw [ho]; simp only []
  rw [map_parts, hps]
  have hb : P.built T pv = some cells.toArray := by
    unfold Program.built
    unfold tyP at ht
    unfold placesP at hpl
    cases hi : P.info? T with
    | none => rw [hi] at ht; cases ht
    | some it =>
      rw [hi] at ht
      simp at ht
      cases hu : P.underlying T with
      | none => rw [hu] at hpl; cases hpl
      | some d =>
        rw [hu] at hpl
        cases d <;> try (simp at hpl; done)
        case array n e =>
          simp only at hpl
          cases hie : P.info? e with
          | none => rw [hie] at hpl; cases hpl
          | some ie =>
            rw [hie] at hpl
            simp only [Option.map_some, Option.some.injEq] at hpl
            subst hpl
            simp only [ht.2.2, hie, hz]
            refine fill_of _ _ _ (fillL_mono (fun i x hx => ?_) _ _ _ h)
            simp only [List.getElem?_map] at hx
            cases hr : (List.range n)[i]? with
            | none => rw [hr] at hx; cases hx
            | some j =>
              rw [hr] at hx
              have : j = i := by
                have := List.getElem?_range (n := n) (i := i) (by
                  rcases Nat.lt_or_ge i n with h1 | h1
                  · exact h1
                  · rw [List.getElem?_eq_none (by simpa using h1)] at hr; cases hr)
                rw [this] at hr
                injection hr with hr
                exact hr.symm
              subst this
              simpa using hx
        case struct fs =>
          simp only at hpl
          simp only [ht.2.2, hpl, hz]
          exact fill_of _ _ _ (fillL_mono (fun i x hx => by simpa using hx) _ _ _ h)
  simp [run_build w T pv.toArray cells.toArray (by simpa using hb)]

theorem zeros_cells {z : Value} {zs : List Value} {m : Nat} (hz : z.cells = zs.toArray) (hm : zs.length = m) (hm0 : 0 < m) : ∀ len, (Array.range (len * m)).map (z.cells[· % z.cells.size]!) = ((List.replicate len zs).flatten).toArray
  | 0 => by simp
  | len + 1 => by
    have ih := zeros_cells hz hm hm0 len
    apply Array.ext'
    have hl := congrArg Array.toList ih
    rw [List.replicate_succ', List.flatten_append]
    simp only [Array.toList_map, Array.toList_range, List.flatten_cons, List.flatten_nil, List.append_nil] at hl ⊢
    rw [← hl, Nat.add_mul, Nat.one_mul, List.range_add, List.map_append]
    congr 1
    apply List.ext_getElem?
    intro j
    rw [List.map_map, List.getElem?_map]
    by_cases hj : j < m
    · rw [List.getElem?_range hj]
      have hs : z.cells.size = m := by rw [hz]; simpa using hm
      have e : (len * m + j) % m = j := by rw [Nat.add_comm, Nat.add_mul_mod_self_right, Nat.mod_eq_of_lt hj]
      simp only [Option.map_some, Function.comp, hs, e]
      have hj2 : j < zs.length := by omega
      rw [hz]
      simp [hj2]
    · rw [List.getElem?_eq_none (by simp; omega), List.getElem?_eq_none (by omega)]
      rfl
theorem r_bslice {T E d len m bb : Nat} {t : TypeId} {pos : String} {aft : Array Edge} {ps : List (Nat × Operand)} {pv : List (Nat × Value)} {z : Value} {zs cs : List Value}
    (hu : P.underlying T = some (.slice E)) (ht : tyP P E = some (m, bb, some z)) (hz : z.cells = zs.toArray) (hd : Nat.blt d n = true) (hps : (ps.map fun p => (p.1, opv f p.2)) = pv) (hlen : (Nat.beq zs.length m && Nat.ble 1 m && Nat.ble (len * m) 10000) = true)
    (hf : fillL (fun i => some (i * m, m)) (List.replicate len zs).flatten pv = some cs)
    (h : ∀ b w', b = w.heap.size → Evo w w' [] → Blk w' b E cs → w'.heap.size = b + 1 → KL P B n ops k rest (upd f d (.slice (some ⟨b, 0, none⟩) len len)) w') :
    KL P B n ops k (⟨some d, .buildSlice T len ps.toArray, t, pos, aft, none⟩ :: rest) f w := by
  refine r_op (v := .slice (some ⟨w.heap.size, 0, none⟩) len len) (w' := w.alloc (.cells cs.toArray E)) rfl rfl hd ?_ (h _ _ rfl (Evo.alloc _ _ _) (heap_alloc_new w _) (by simp))
  unfold execOp
  simp only []
  rw [map_parts, hps]
  simp only [Bool.and_eq_true, Nat.ble_eq] at hlen
  have hzl := Nat.eq_of_beq_eq_true hlen.1.1
  have h24 : ¬ (2 ^ 24 < len * m) := by have : (2:Nat) ^ 24 = 16777216 := by decide
                                        omega
  have hfill := fill_of _ _ _ hf
  rw [← zeros_cells hz hzl (by omega) len] at hfill
  by_cases h0 : len * m = 0
  · have hl0 : len = 0 := by
      rcases Nat.mul_eq_zero.1 h0 with h1 | h1
      · exact h1
      · omega
    subst hl0
    have e0 : ∀ g : Nat → Value, (Array.range 0).map g = #[] := fun g => Array.eq_empty_of_size_eq_zero (by simp)
    have hfill' : Instr.fill (fun i => some (i * m, m)) #[] pv = some cs.toArray := by
      rw [show 0 * m = 0 by omega, e0] at hfill
      exact hfill
    simp [Instr.buildSlice, run_underlying hu, run_sizeOf ht, newRow, e0, hfill']
  · simp [Instr.buildSlice, run_underlying hu, run_sizeOf ht, run_zero ht, h24, h0, newRow]
    rw [hfill]
    simp
end

/-! ### Rows that are only read -/
/-- a slice's elements, each by its cells -/
def Row (w : World) (n : Nat) (ao : Option Addr) (b off cap : Nat) (css : List (List Value)) : Prop :=
  (css.length ≤ cap ∧ css.length ≤ 140737488355328) ∧ (css ≠ [] → ao = some ⟨b, off, none⟩) ∧ ∀ (i : Nat) cs, css[i]? = some cs → cs.length = n ∧ At w b (off + i * n) cs
section
variable {w0 w w' : World} {n : Nat} {ao : Option Addr} {b off cap : Nat} {css : List (List Value)} {E : List Nat}
theorem Row.evo (h : Row w n ao b off cap css) (he : Evo w w' E) (hn : b ∉ E) : Row w' n ao b off cap css :=
  ⟨h.1, h.2.1, fun i cs hi => ⟨(h.2.2 i cs hi).1, (h.2.2 i cs hi).2.evo he hn⟩⟩
theorem Row.evo0 (h : Row w n ao b off cap css) (he : Evo w w' []) : Row w' n ao b off cap css := h.evo he (by simp)
theorem Row.bd (h : Row w n ao b off cap css) : css.length ≤ 140737488355328 := h.1.2
theorem Row.addr (h : Row w n ao b off cap css) {i : Nat} (hi : i < css.length) : ao = some ⟨b, off, none⟩ := h.2.1 (by intro e; rw [e] at hi; simp at hi)
theorem Row.take (h : Row w n ao b off cap css) (k : Nat) : Row w n ao b off cap (css.take k) :=
  ⟨by have := h.1; simp; omega, fun hne => h.2.1 (fun e => hne (by simp [e])), fun i cs hi => h.2.2 i cs (by
    rw [List.getElem?_take] at hi
    split at hi
    · exact hi
    · cases hi)⟩
theorem Row.drop (h : Row w n ao b off cap css) (k : Nat) : Row w n (if cap = k then ao else ao.map (·.add (k * n))) b (off + k * n) (cap - k) (css.drop k) := by
  refine ⟨by have := h.1; simp; omega, fun hne => ?_, fun i cs hi => ?_⟩
  · have hlt : k < css.length := by
      rcases Nat.lt_or_ge k css.length with h1 | h1
      · exact h1
      · exact absurd (List.drop_eq_nil_of_le h1) hne
    have := h.1
    rw [if_neg (by omega), h.addr hlt]
    simp [add_lit]
  · have := h.2.2 (k + i) cs (by simpa using hi)
    refine ⟨this.1, ?_⟩
    have h2 := this.2
    rw [Nat.add_mul] at h2
    rwa [Nat.add_assoc]
end

/-- a value that lies in cells of its own, without memory behind them -/
class Enc (α : Type) where
  n : Nat
  enc : α → List Value
  len : ∀ x, (enc x).length = n
  one : ∀ x, oneCells (enc x) = true
  pos : 0 < n

def RowE {α : Type} [Enc α] (w : World) (ao : Option Addr) (b off cap : Nat) (l : List α) : Prop := Row w (Enc.n α) ao b off cap (l.map Enc.enc)
section
variable {α : Type} [Enc α] {w w' : World} {ao : Option Addr} {b off cap : Nat} {l : List α} {E : List Nat}
theorem RowE.evo (h : RowE w ao b off cap l) (he : Evo w w' E) (hn : b ∉ E) : RowE w' ao b off cap l := Row.evo h he hn
theorem RowE.evo0 (h : RowE w ao b off cap l) (he : Evo w w' []) : RowE w' ao b off cap l := Row.evo0 h he
theorem RowE.at (h : RowE w ao b off cap l) (i : Nat) (hi : i < l.length) : At w b (off + i * Enc.n α) (Enc.enc l[i]) :=
  (h.2.2 i _ (by simp [hi])).2
theorem RowE.atD [Inhabited α] (h : RowE w ao b off cap l) (i : Nat) (hi : i < l.length) : At w b (off + i * Enc.n α) (Enc.enc (l.getD i default)) := by
  have := h.at i hi
  rwa [show l.getD i default = l[i] from by simp [List.getD, hi]]
theorem RowE.addr (h : RowE w ao b off cap l) {i : Nat} (hi : i < l.length) : ao = some ⟨b, off, none⟩ := Row.addr h (i := i) (by simpa using hi)
theorem RowE.le (h : RowE w ao b off cap l) : l.length ≤ cap := by have := h.1.1; simpa using this
theorem RowE.bd (h : RowE w ao b off cap l) : l.length ≤ 140737488355328 := by have := h.1.2; simpa using this
theorem RowE.take (h : RowE w ao b off cap l) (k : Nat) : RowE w ao b off cap (l.take k) := by
  have := Row.take h k
  unfold RowE
  rwa [List.map_take]
theorem RowE.drop (h : RowE w ao b off cap l) (k : Nat) : RowE w (if cap = k then ao else ao.map (·.add (k * Enc.n α))) b (off + k * Enc.n α) (cap - k) (l.drop k) := by
  have := Row.drop h k
  unfold RowE
  rwa [List.map_drop]
theorem RowE.nil (w : World) (ao : Option Addr) (b off cap : Nat) : RowE (α := α) w ao b off cap [] := ⟨by simp, by simp, by simp⟩
end

/-- a value with memory behind its cells, which is only read -/
class Rep (α : Type) where
  n : Nat
  rep : World → List Value → α → Prop
  len : ∀ {w cs x}, rep w cs x → cs.length = n
  evo0 : ∀ {w w' cs x}, rep w cs x → Evo w w' [] → rep w' cs x
  pos : 0 < n
/-- cells and what they stand for, one by one -/
def RepL {α : Type} [Rep α] (w : World) (css : List (List Value)) (l : List α) : Prop := css.length = l.length ∧ ∀ (i : Nat) cs x, css[i]? = some cs → l[i]? = some x → Rep.rep w cs x
def RowR {α : Type} [Rep α] (w : World) (ao : Option Addr) (b off cap : Nat) (l : List α) : Prop := ∃ css, Row w (Rep.n α) ao b off cap css ∧ RepL w css l
section
variable {α : Type} [Rep α] {w w' : World} {ao : Option Addr} {b off cap : Nat} {l : List α} {css : List (List Value)}
theorem RepL.evo0 (h : RepL w css l) (he : Evo w w' []) : RepL w' css l := ⟨h.1, fun i cs x h1 h2 => Rep.evo0 (h.2 i cs x h1 h2) he⟩
theorem RepL.nil (w : World) : RepL (α := α) w [] [] := ⟨rfl, by simp⟩
theorem RepL.take (h : RepL w css l) (k : Nat) : RepL w (css.take k) (l.take k) := ⟨by simp [h.1], fun i cs x h1 h2 => by
  rw [List.getElem?_take] at h1 h2
  split at h1
  · rename_i hi
    rw [if_pos hi] at h2
    exact h.2 i cs x h1 h2
  · cases h1⟩
theorem RepL.drop (h : RepL w css l) (k : Nat) : RepL w (css.drop k) (l.drop k) := ⟨by simp [h.1], fun i cs x h1 h2 => h.2 (k + i) cs x (by simpa using h1) (by simpa using h2)⟩
theorem RepL.append {css' : List (List Value)} {l' : List α} (h : RepL w css l) (h' : RepL w css' l') : RepL w (css ++ css') (l ++ l') := ⟨by simp [h.1, h'.1], fun i cs x h1 h2 => by
  by_cases hi : i < css.length
  · rw [List.getElem?_append_left hi] at h1
    rw [List.getElem?_append_left (by rw [← h.1]; exact hi)] at h2
    exact h.2 i cs x h1 h2
  · rw [List.getElem?_append_right (by omega)] at h1
    rw [List.getElem?_append_right (by rw [← h.1]; omega), ← h.1] at h2
    exact h'.2 _ cs x h1 h2⟩
theorem RepL.one {cs : List Value} {x : α} (h : Rep.rep w cs x) : RepL w [cs] [x] := ⟨rfl, fun i cs' x' h1 h2 => by
  cases i with
  | zero => simp at h1 h2; subst h1; subst h2; exact h
  | succ i => simp at h1⟩
theorem RowR.evo0 (h : RowR w ao b off cap l) (he : Evo w w' []) : RowR w' ao b off cap l := let ⟨css, h1, h2⟩ := h; ⟨css, h1.evo0 he, h2.evo0 he⟩
theorem RowR.addr (h : RowR w ao b off cap l) {i : Nat} (hi : i < l.length) : ao = some ⟨b, off, none⟩ := let ⟨_, h1, h2⟩ := h; h1.addr (i := i) (by rw [h2.1]; exact hi)
theorem RowR.le (h : RowR w ao b off cap l) : l.length ≤ cap := let ⟨_, h1, h2⟩ := h; by rw [← h2.1]; exact h1.1.1
theorem RowR.bd (h : RowR w ao b off cap l) : l.length ≤ 140737488355328 := let ⟨_, h1, h2⟩ := h; by rw [← h2.1]; exact h1.1.2
theorem RowR.atD [Inhabited α] (h : RowR w ao b off cap l) (i : Nat) (hi : i < l.length) : ∃ cs, At w b (off + i * Rep.n α) cs ∧ Rep.rep w cs (l.getD i default) := by
  obtain ⟨css, h1, h2⟩ := h
  have hi' : i < css.length := by rw [h2.1]; exact hi
  refine ⟨css[i], (h1.2.2 i _ (by simp [hi'])).2, h2.2 i _ _ (by simp [hi']) (by simp [List.getD, hi])⟩
theorem RowR.take (h : RowR w ao b off cap l) (k : Nat) : RowR w ao b off cap (l.take k) := let ⟨css, h1, h2⟩ := h; ⟨css.take k, h1.take k, h2.take k⟩
theorem RowR.drop (h : RowR w ao b off cap l) (k : Nat) : RowR w (if cap = k then ao else ao.map (·.add (k * Rep.n α))) b (off + k * Rep.n α) (cap - k) (l.drop k) := let ⟨css, h1, h2⟩ := h; ⟨css.drop k, h1.drop k, h2.drop k⟩
theorem RowR.nil (w : World) (ao : Option Addr) (b off cap : Nat) : RowR (α := α) w ao b off cap [] := ⟨[], ⟨by simp, by simp, by simp⟩, RepL.nil w⟩
end

/-- the same, in every world that differs from 'w' in new blocks and those of 'E' alone -/
def RowRK {α : Type} [Rep α] (w : World) (E : List Nat) (ao : Option Addr) (b off cap : Nat) (l : List α) : Prop :=
  ∃ css, ∀ w', Evo w w' E → Row w' (Rep.n α) ao b off cap css ∧ RepL w' css l
section
variable {α : Type} [Rep α] {w w' : World} {ao : Option Addr} {b off cap : Nat} {l : List α} {E : List Nat}
theorem RowRK.now (h : RowRK w E ao b off cap l) (he : Evo w w' E) : RowR w' ao b off cap l := let ⟨css, h1⟩ := h; ⟨css, h1 w' he⟩
theorem RowR.keep (h : RowR w ao b off cap l) : RowRK w [] ao b off cap l := let ⟨css, h1, h2⟩ := h; ⟨css, fun _ he => ⟨h1.evo0 he, h2.evo0 he⟩⟩
theorem RowRK.addr (h : RowRK w E ao b off cap l) {i : Nat} (hi : i < l.length) : ao = some ⟨b, off, none⟩ := (h.now (Evo.refl _ _)).addr hi
theorem RowRK.bd (h : RowRK w E ao b off cap l) : l.length ≤ 140737488355328 := (h.now (Evo.refl _ _)).bd
theorem RowRK.take (h : RowRK w E ao b off cap l) (k : Nat) : RowRK w E ao b off cap (l.take k) := let ⟨css, h1⟩ := h; ⟨css.take k, fun w' he => ⟨(h1 w' he).1.take k, (h1 w' he).2.take k⟩⟩
theorem RowRK.drop (h : RowRK w E ao b off cap l) (k : Nat) : RowRK w E (if cap = k then ao else ao.map (·.add (k * Rep.n α))) b (off + k * Rep.n α) (cap - k) (l.drop k) := let ⟨css, h1⟩ := h; ⟨css.drop k, fun w' he => ⟨(h1 w' he).1.drop k, (h1 w' he).2.drop k⟩⟩
theorem RowRK.atD [Inhabited α] (h : RowRK w E ao b off cap l) (i : Nat) (hi : i < l.length) : ∃ cs, ∀ w', Evo w w' E → At w' b (off + i * Rep.n α) cs ∧ Rep.rep w' cs (l.getD i default) := by
  obtain ⟨css, h1⟩ := h
  have hl := (h1 w (Evo.refl _ _)).2.1
  have hi' : i < css.length := by rw [hl]; exact hi
  exact ⟨css[i], fun w' he => ⟨((h1 w' he).1.2.2 i _ (by simp [hi'])).2, (h1 w' he).2.2 i _ _ (by simp [hi']) (by simp [List.getD, hi])⟩⟩
/-- handed on to a call that writes to blocks of 'X' -/
theorem RowRK.pass {X : List Nat} (h : RowRK w E ao b off cap l) (he : Evo w w' E) (hX : ∀ x ∈ X, w.heap.size ≤ x ∨ x ∈ E) : RowRK w' X ao b off cap l := let ⟨css, h1⟩ := h; ⟨css, fun w'' he' => h1 w'' (he.trans he' (fun x hx hlt => by
  rcases hX x hx with h2 | h2
  · omega
  · exact h2))⟩
end
theorem keepE {α : Type} [Enc α] {w : World} {ao : Option Addr} {b off cap : Nat} {l : List α} (h : RowE w ao b off cap l) : ∀ w', Evo w w' [] → RowE w' ao b off cap l := fun _ he => h.evo0 he
theorem passK {Φ : World → Prop} {w w' : World} {E X : List Nat} (h : ∀ w', Evo w w' E → Φ w') (he : Evo w w' E) (hX : ∀ x ∈ X, w.heap.size ≤ x ∨ x ∈ E) : ∀ w'', Evo w' w'' X → Φ w'' := fun w'' he' => h w'' (he.trans he' (fun x hx hlt => by
  rcases hX x hx with h2 | h2
  · omega
  · exact h2))

section
variable {P : Program} {f : Fr} {w : World} {o : Oper}
/-- the address of an element -/
theorem run_ix {T E : TypeId} {x y : Operand} {ao : Option Addr} {b off len cap m bb : Nat} {z : Option Value} {κ : IntKind} {i : Int} (j : Nat) (ho : o.op = .indexAddr T x y) (hu : P.underlying T = some (.slice E))
    (ht : tyP P E = some (m, bb, z)) (hx : opv f x = .slice ao len cap) (hy : opv f y = .int κ i) (hij : i = (j : Int)) (hlt : j < len) (hao : ao = some ⟨b, off, none⟩) :
    (execOp (opv f) o).run P w = .ok (.value (.pointer (some ⟨b, off + j * m, none⟩))) w := by
  subst hij
  subst hao
  unfold execOp; rw [ho]; simp only []; rw [hx, hy]
  have h1 : (0 : Int) ≤ (j : Int) ∧ (j : Int) < (len : Int) := by omega
  simp [Instr.indexAt, run_underlying hu, asIntOf, run_sizeOf ht, h1, add_lit]
  intro h2
  omega

/-! slices of slices and of strings -/
theorem run_bounds {isS : Bool} {len cap l h : Nat} {lo hi : Option Value} (hlo : (lo = none ∧ l = 0) ∨ ∃ κ, lo = some (.int κ (l : Int))) (hhi : (hi = none ∧ h = len) ∨ ∃ κ, hi = some (.int κ (h : Int)))
    (h1 : l ≤ h) (h2 : h ≤ cap) : (Instr.sliceBounds isS len cap lo hi none).run P w = .ok (l, h, cap) w := by
  have e1 : ∀ κ code, (Instr.sliceBound (.int κ (l : Int)) h code).run P w = .ok l w := fun κ code => by
    rw [run_sliceBound w κ l h code (by omega) (by omega)]; simp
  have e2 : ∀ κ code, (Instr.sliceBound (.int κ (h : Int)) cap code).run P w = .ok h w := fun κ code => by
    rw [run_sliceBound w κ h cap code (by omega) (by omega)]; simp
  rcases hlo with ⟨rfl, rfl⟩ | ⟨κ, rfl⟩ <;> rcases hhi with ⟨rfl, rfl⟩ | ⟨κ2, rfl⟩ <;> simp [Instr.sliceBounds, e1, e2]
theorem run_sl {T E : TypeId} {x : Operand} {ao : Option Addr} {len cap m bb : Nat} {z : Option Value} {lo hi : Option Operand} (l h : Nat) (ho : o.op = .slice T x lo hi none) (hu : P.underlying T = some (.slice E))
    (ht : tyP P E = some (m, bb, z)) (hx : opv f x = .slice ao len cap)
    (hlo : (lo.map (opv f) = none ∧ l = 0) ∨ ∃ κ, lo.map (opv f) = some (.int κ (l : Int))) (hhi : (hi.map (opv f) = none ∧ h = len) ∨ ∃ κ, hi.map (opv f) = some (.int κ (h : Int))) (h1 : l ≤ h) (h2 : h ≤ cap) :
    (execOp (opv f) o).run P w = .ok (.value (.slice (if cap = l then ao else ao.map (·.add (l * m))) (h - l) (cap - l))) w := by
  unfold execOp; rw [ho]; simp only []; rw [hx, Option.map_none]
  have e1 : (Instr.sliceAt T (.slice ao len cap) (lo.map (opv f)) (hi.map (opv f)) none).run P w = .ok (.slice (if cap = l then ao else ao.map (·.add (l * m))) (h - l) (cap - l)) w := by
    have hb := run_bounds (P := P) (w := w) (isS := true) hlo hhi h1 h2
    simp only [Instr.sliceAt, Instr.slice, Sem.run_bind, run_underlying hu, Result.andThen_ok, hb, run_sizeOf ht, Sem.run_pure]
  simp [e1]
theorem run_slS {T : TypeId} {x : Operand} {s : List UInt8} {lo hi : Option Operand} (l h : Nat) (ho : o.op = .slice T x lo hi none) (hu : P.underlying T = some .string) (hx : opv f x = S s)
    (hlo : (lo.map (opv f) = none ∧ l = 0) ∨ ∃ κ, lo.map (opv f) = some (.int κ (l : Int))) (hhi : (hi.map (opv f) = none ∧ h = s.length) ∨ ∃ κ, hi.map (opv f) = some (.int κ (h : Int))) (h1 : l ≤ h) (h2 : h ≤ s.length) :
    (execOp (opv f) o).run P w = .ok (.value (S ((s.drop l).take (h - l)))) w := by
  unfold execOp; rw [ho]; simp only []; rw [hx, Option.map_none]
  have e0 : (ByteArray.mk s.toArray).extract l h = ⟨((s.drop l).take (h - l)).toArray⟩ := by
    have := Lib.extract_eq (ByteArray.mk s.toArray) l h
    simpa using this
  have hsz : (ByteArray.mk s.toArray).size = s.length := size_S s
  have e1 : (Instr.sliceAt T (S s) (lo.map (opv f)) (hi.map (opv f)) none).run P w = .ok (S ((s.drop l).take (h - l))) w := by
    unfold S
    have hb := run_bounds (P := P) (w := w) (isS := false) (len := s.length) (cap := s.length) hlo hhi h1 h2
    simp only [Instr.sliceAt, Instr.slice, Sem.run_bind, run_underlying hu, Result.andThen_ok, hsz, Option.isSome_none, Bool.false_eq_true, if_false, hb, Sem.run_pure, e0]
  simp [e1]
theorem lo0 {f : Fr} : ((none : Option Operand).map (opv f) = none ∧ (0 : Nat) = 0) ∨ ∃ κ, (none : Option Operand).map (opv f) = some (.int κ ((0 : Nat) : Int)) := .inl ⟨rfl, rfl⟩
theorem hi0 {f : Fr} {n : Nat} : ((none : Option Operand).map (opv f) = none ∧ n = n) ∨ ∃ κ, (none : Option Operand).map (opv f) = some (.int κ (n : Int)) := .inl ⟨rfl, rfl⟩
theorem at1 {f : Fr} {l n : Nat} {y : Operand} {κ : IntKind} {i : Int} (h : opv f y = .int κ i) (hi : i = (l : Int)) : ((some y).map (opv f) = none ∧ l = n) ∨ ∃ κ, (some y).map (opv f) = some (.int κ (l : Int)) := .inr ⟨κ, by simp [h, hi]⟩
/-- a byte of a string -/
theorem run_ixS {T : TypeId} {x y : Operand} {s : List UInt8} {κ : IntKind} {i : Int} (j : Nat) (ho : o.op = .index T x y) (hu : P.underlying T = some .string) (hx : opv f x = S s) (hy : opv f y = .int κ i) (hij : i = (j : Int)) (hlt : j < s.length) :
    (execOp (opv f) o).run P w = .ok (.value (.int .u8 ((s.getD j 0).toNat : Int))) w := by
  subst hij
  unfold execOp; rw [ho]; simp only []; rw [hx, hy]
  unfold S
  have hb : (ByteArray.mk s.toArray)[j]? = some (s.getD j 0) := by
    have hsz : j < (ByteArray.mk s.toArray).size := by rw [size_S]; exact hlt
    rw [getElem?_pos (ByteArray.mk s.toArray) j hsz]
    congr 1
    simp [List.getD, hlt]
    rfl
  simp [Instr.index, run_underlying hu, asIntOf, hb]
end
end Go.Vc
