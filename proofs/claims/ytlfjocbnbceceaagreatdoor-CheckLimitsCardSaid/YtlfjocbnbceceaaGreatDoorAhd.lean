/-
  Library, plain laws and walks that the statements reach (joined by a program out of smaller texts).
-/
import Derived.Test.YtlfjocbnbceceaaGreatDoorAha
import Derived.Shelf.SlSortCmp.NoneTotal
import Derived.Test.YtlfjocbnbceceaaGreatDoorAhb
import Derived.Test.YtlfjocbnbceceaaGreatDoorAhc
import Derived.Shelf.LaysM
import Derived.Shelf.Strconv.Itoa3
import Derived.Test.YtlfjocbnbceceaaGreatDoorProg
import Derived.Lib.ItoaNum
import Derived.Lib.LaidTab
import Derived.Sort.OwnSorted
import Derived.ArgAppend
import Derived.Laws.Slices
import Derived.MapKept
set_option linter.unusedVariables false
set_option linter.unusedSimpArgs false
namespace Go.Vc
open Go Go.RowKit Go.IntWalk Go.Sort
section
variable {P : Program} {B : Exit → Act → World → Prop} {n : Nat} {k : List Kont} {f : Fr} {w : World} {ops : Array Oper} {rest : List Oper}
theorem r_boxD {T d : Nat} {t : TypeId} {pos : String} {aft : Array Edge} {x : Operand} {v : Value} {vs : List Value} (hx : opv f x = v) (hv : v.cells = vs.toArray) (hd : Nat.blt d n = true)
    (h : ∀ b w', b = w.heap.size → Evo w w' [] → Blk w' b T vs → w'.heap.size = b + 1 → w.drawn ≤ w'.drawn → KL P B n ops k rest (upd f d (.pointer (some ⟨b, 0, none⟩))) w') :
    KL P B n ops k (⟨some d, .box T x, t, pos, aft, none⟩ :: rest) f w := by
  refine r_op (v := .pointer (some ⟨w.heap.size, 0, none⟩)) (w' := w.alloc (.cells vs.toArray T)) rfl rfl hd ?_ (h _ _ rfl (Evo.alloc _ _ _) (heap_alloc_new w _) (by simp) (Nat.le_refl _))
  simp [execOp, hx, Instr.box, newVar, newRow, hv]
theorem h_regionD {id : Nat} {l : List Oper} (E : List Nat) (hm : P.follows .mixedOrders = true) (h : ∀ w1, Evo w w1 [] → Evo w w1 E → w.drawn ≤ w1.drawn → HA P B n k (fun w' => Evo w w' E) l.toArray l.toArray.size [] f w1) : KF P B n (.code (.region id l.toArray true) :: k) f w := by
  intro a ha
  show (Code.region id l.toArray true).wp P (Kx P B k) a w
  exact wp_region_noPanic (wp_region_any hm (any_of_F _ _ _ _ (h _ (Evo.drew _ _) (Evo.drew _ _) (Nat.le_succ _) a ha)))
theorem r_bsliceD {T E d len m bb : Nat} {t : TypeId} {pos : String} {aft : Array Edge} {ps : List (Nat × Operand)} {pv : List (Nat × Value)} {z : Value} {zs cs : List Value}
    (hu : P.underlying T = some (.slice E)) (ht : tyP P E = some (m, bb, some z)) (hz : z.cells = zs.toArray) (hd : Nat.blt d n = true) (hps : (ps.map fun p => (p.1, opv f p.2)) = pv) (hlen : (Nat.beq zs.length m && Nat.ble 1 m && Nat.ble (len * m) 10000) = true)
    (hf : fillL (fun i => some (i * m, m)) (List.replicate len zs).flatten pv = some cs)
    (h : ∀ b w', b = w.heap.size → Evo w w' [] → Blk w' b E cs → w'.heap.size = b + 1 → w.drawn ≤ w'.drawn → KL P B n ops k rest (upd f d (.slice (some ⟨b, 0, none⟩) len len)) w') :
    KL P B n ops k (⟨some d, .buildSlice T len ps.toArray, t, pos, aft, none⟩ :: rest) f w := by
  refine r_op (v := .slice (some ⟨w.heap.size, 0, none⟩) len len) (w' := w.alloc (.cells cs.toArray E)) rfl rfl hd ?_ (h _ _ rfl (Evo.alloc _ _ _) (heap_alloc_new w _) (by simp) (Nat.le_refl _))
  unfold execOp
  simp only []
  rw [map_parts, hps]
  simp only [Bool.and_eq_true, Nat.ble_eq] at hlen
  have hzl := Nat.eq_of_beq_eq_true hlen.1.1
  have h24 : ¬ (2 ^ 24 < len * m) := by have : (2:Nat) ^ 24 = 16777216 := by decide
                                        omega
  have hfill := fill_of _ _ _ hf
  rw [← zeros_cells hz hzl (by omega) len] at hfill
  by_cases h0 : len * m = 0
  · have hl0 : len = 0 := by
      rcases Nat.mul_eq_zero.1 h0 with h1 | h1
      · exact h1
      · omega
    subst hl0
    have e0 : ∀ g : Nat → Value, (Array.range 0).map g = #[] := fun g => Array.eq_empty_of_size_eq_zero (by simp)
    have hfill' : Instr.fill (fun i => some (i * m, m)) #[] pv = some cs.toArray := by
      rw [show 0 * m = 0 by omega, e0] at hfill
      exact hfill
    simp [Instr.buildSlice, run_underlying hu, run_sizeOf ht, newRow, e0, hfill']
  · simp [Instr.buildSlice, run_underlying hu, run_sizeOf ht, run_zero ht, h24, h0, newRow]
    rw [hfill]
    simp
end
theorem growD_of {w w' : World} (h : Evo w w' []) (hd : w.drawn ≤ w'.drawn) : ∃ q os', w' = grow (w.drewN q) os' := by
  obtain ⟨h1, h2, h3, h4, h5⟩ := h
  refine ⟨w'.drawn - w.drawn, w'.heap.extract w.heap.size w'.heap.size, ?_⟩
  have hh : w'.heap = w.heap ++ w'.heap.extract w.heap.size w'.heap.size := by
    apply Array.ext_getElem?
    intro i
    rcases Nat.lt_or_ge i w.heap.size with hi | hi
    · rw [Array.getElem?_append_left hi]; exact h5 i hi (by simp)
    · rw [Array.getElem?_append_right hi, Array.getElem?_extract]
      split
      · congr 1; omega
      · rw [Array.getElem?_eq_none (by omega)]
  cases w; cases w'
  simp only [grow, World.drewN] at *
  subst h1; subst h2; subst h3
  simp only [World.mk.injEq, true_and]
  refine ⟨hh, ?_, trivial⟩
  omega
end Go.Vc
namespace Go.Vc
open Go Go.RowKit Go.IntWalk Go.Sort Go.Proofs
section
variable {α : Type} [Enc α] [Inhabited α] {w : World} {base : Nat} {E : TypeId} {v : Value} {l : List α}
theorem flatK_list (l : List α) : (flatK (Enc.enc : α → List Value) (Enc.n α) l.toArray).toList = (l.map Enc.enc).flatten := by
  have hall : ∀ cs ∈ l.map (Enc.enc : α → List Value), cs.length = Enc.n α := fun cs hcs => by
    obtain ⟨x, _, rfl⟩ := List.mem_map.1 hcs; exact Enc.len x
  have hp := Enc.pos (α := α)
  have hfl := flatten_length _ _ hall
  rw [List.length_map] at hfl
  apply List.ext_getElem?
  intro t
  rcases Nat.lt_or_ge t (l.length * Enc.n α) with ht | ht
  · have hi : t / Enc.n α < l.length := (Nat.div_lt_iff_lt_mul hp).2 ht
    have hj : t % Enc.n α < Enc.n α := Nat.mod_lt _ hp
    have h1 := flatten_at (l.map Enc.enc) (Enc.n α) (t / Enc.n α) (t % Enc.n α) (Enc.enc l[t / Enc.n α]) hall (by simp [hi]) hj
    have e : t / Enc.n α * Enc.n α + t % Enc.n α = t := by rw [Nat.mul_comm]; exact Nat.div_add_mod _ _
    rw [e] at h1
    rw [h1, Array.getElem?_toList]
    have hlen : (Enc.enc l[t / Enc.n α]).length = Enc.n α := Enc.len _
    simp [flatK, ht, hi, getElem!_pos, hlen, hj]
  · rw [List.getElem?_eq_none (by simpa using ht), List.getElem?_eq_none (by rw [hfl]; exact ht)]
theorem holdsK_of {g cur : _} (hb : w.heap[g]? = some (.cells cur E (0, 0))) (ht : cur.toList.take (l.length * Enc.n α) = (l.map Enc.enc).flatten) : HoldsK (Enc.enc : α → List Value) (Enc.n α) w g 0 l.toArray := by
  intro j hj
  have hj' : j < l.length * Enc.n α := by simpa using hj
  refine ⟨?_, by simp [World.frozen?, hb]⟩
  have h1 : (cur.toList.take (l.length * Enc.n α))[j]? = (flatK (Enc.enc : α → List Value) (Enc.n α) l.toArray).toList[j]? := by rw [ht, flatK_list]
  rw [List.getElem?_take_of_lt hj'] at h1
  simp only [World.cell?, hb, Nat.zero_add]
  simp only [Option.isSome_none, Bool.false_eq_true, if_false]
  rw [← Array.getElem?_toList, h1, Array.getElem?_toList]
  simp [hj']
theorem heap_sortedK {g n : Nat} {os : Array Obj} {cur : Array Value} (d : Array α) (hb : w.heap[g]? = some (.cells cur E (0, 0))) :
    (sortWorldK (Enc.enc : α → List Value) (Enc.n α) w g 0 n d os).heap[g]? = some (.cells (putCells id 0 (flatK Enc.enc (Enc.n α) d) cur) E (0, 0)) := by
  have hg : g < w.heap.size := (Array.getElem?_eq_some_iff.1 hb).1
  unfold sortWorldK putRowK
  rw [heap_grow_old _ _ (by simpa [putRow, mapBlock, Sort.ahead] using hg)]
  simp [putRow, mapBlock, Sort.ahead, Array.getElem?_modify, hb, onCells]
theorem evo_sortedK {g n : Nat} {os : Array Obj} (d : Array α) : Evo w (sortWorldK (Enc.enc : α → List Value) (Enc.n α) w g 0 n d os) [g] := by
  unfold sortWorldK putRowK
  refine ⟨rfl, rfl, rfl, by simp [putRow, mapBlock, Sort.ahead], fun k hk hne => ?_⟩
  rw [heap_grow_old _ _ (by simpa [putRow, mapBlock, Sort.ahead] using hk)]
  have : g ≠ k := fun e => hne (by simp [e])
  simp [putRow, mapBlock, Sort.ahead, Array.getElem?_modify, this]
theorem take_putK (cur : Array Value) (F : Array Value) (h : F.size ≤ cur.size) : (putCells id 0 F cur).toList.take F.size = F.toList := by
  apply List.ext_getElem?
  intro j
  by_cases hj : j < F.size
  · rw [List.getElem?_take_of_lt hj, Array.getElem?_toList]
    simp [putCells, hj, show j < cur.size by omega]
  · rw [List.getElem?_take_eq_none (by omega), List.getElem?_eq_none (by simp; omega)]
theorem own_sortedK {g n cap : Nat} {os : Array Obj} {cur : Array Value} {l' : List α} (hl : l'.length = l.length) (hb : base ≤ g) (hg : w.heap[g]? = some (.cells cur E (0, 0))) (h1 : l.length ≤ cap) (h2 : cap ≤ maxLen) (h3 : cur.size = cap * Enc.n α) (hbd : l.length ≤ 140737488355328) :
    OwnE (sortWorldK (Enc.enc : α → List Value) (Enc.n α) w g 0 n l'.toArray os) base E (.slice (some ⟨g, 0, none⟩) l.length cap) l' := by
  have hall : ∀ cs ∈ l'.map (Enc.enc : α → List Value), cs.length = Enc.n α := fun cs hcs => by
    obtain ⟨x, _, rfl⟩ := List.mem_map.1 hcs; exact Enc.len x
  have hle : l.length * Enc.n α ≤ cap * Enc.n α := Nat.mul_le_mul_right _ h1
  refine ⟨⟨?_, .inr ⟨g, cap, _, by rw [List.length_map, hl], hb, heap_sortedK _ hg, by rw [List.length_map, hl]; exact h1, h2, by simp [putCells, h3], ?_⟩⟩, hall, by rw [List.length_map, hl]; exact hbd⟩
  · rw [flatten_length _ _ hall]
  · rw [List.length_map, hl, ← flatK_list]
    have hs : (flatK (Enc.enc : α → List Value) (Enc.n α) l'.toArray).size = l.length * Enc.n α := by simp [hl]
    rw [← hs]
    exact take_putK cur _ (by rw [hs, h3]; exact hle)
theorem sortf_of {P : Program} {fn g : FuncId} {cb : Array Value} {R : List α → List α → Prop} (hs : ∀ l l', R l l' → l'.length = l.length) (hs0 : R [] [])
    (c : ∀ (blk off cap : Nat) (d : Array α) (w : World), HoldsK (Enc.enc : α → List Value) (Enc.n α) w blk off d → blk < w.heap.size → d.size < 4611686018427387904 →
      Calls P fn #[.slice (some ⟨blk, off, none⟩) d.size cap, .func (.func g) #[] cb] w fun e w' => e = .returned (.tuple #[]) ∧ ∃ (d' : Array α) (n : Nat) (os : Array Obj), R d.toList d'.toList ∧ w' = sortWorldK (Enc.enc : α → List Value) (Enc.n α) w blk off n d' os)
    (c0 : ∀ w : World, Calls P fn #[.slice none 0 0, .func (.func g) #[] cb] w fun e w' => e = .returned (.tuple #[]) ∧ w' = w)
    (h : OwnE w base E v l) : Calls P fn #[v, .func (.func g) #[] cb] w fun e w' => e = .returned (.tuple #[]) ∧ Evo w w' v.ownBlock.toList ∧ ∃ l', R l l' ∧ OwnE w' base E v l' := by
  have h0 : Own w base E (Enc.n α) v (l.map Enc.enc) := h
  rcases h0.row.2 with ⟨hv, hl⟩ | ⟨g2, cap, cur, hv, hb, hg, h2, h3, h4, h5⟩
  · have hln : l = [] := List.eq_nil_of_length_eq_zero (by simpa using hl)
    subst hln; subst hv
    refine (c0 w).mono ?_
    rintro e w' ⟨rfl, rfl⟩
    exact ⟨rfl, Evo.refl _ _, [], hs0, h⟩
  · rw [List.length_map] at hv h2 h5
    have hbd := h.bd
    subst hv
    refine (c g2 0 cap l.toArray w (holdsK_of hg h5) (Array.getElem?_eq_some_iff.1 hg).1 (by simp; omega)).mono ?_
    rintro e w' ⟨rfl, d', n, os, hR, rfl⟩
    exact ⟨rfl, evo_sortedK _, d'.toList, hR, own_sortedK (l' := d'.toList) (hs _ _ hR) hb hg h2 h3 h4 hbd⟩
end
def SortR {α : Type} (lt : α → α → Bool) (l l' : List α) : Prop := l'.Perm l ∧ l'.Pairwise (fun x y => lt y x = false)
theorem sortR_of {α : Type} [Inhabited α] {lt : α → α → Bool} {d d' : Array α} (hp : PermIn 0 d.size d d') (hs : SortedIn lt 0 d.size d') : SortR lt d.toList d'.toList := by
  obtain ⟨h1, _, h2⟩ := hp
  refine ⟨?_, List.pairwise_iff_getElem.2 fun i j hi hj hij => ?_⟩
  · have e : d'.extract 0 d.size = d' := by rw [← h1]; simp
    rw [e] at h2; simpa using h2
  · have := hs i j (Nat.zero_le _) hij (by rw [← h1]; simpa using hj)
    simp at hi hj
    rwa [getElem!_pos d' j hj, getElem!_pos d' i hi] at this
section
variable {P : Program} {f : Fr} {w : World} {o : Oper}
theorem run_sgtrD {t t2 : TypeId} {x y : Operand} {a b : List UInt8} (ho : o.op = .binOp .gtr t x y t2) (hx : opv f x = S a) (hy : opv f y = S b) :
    (execOp (opv f) o).run P w = .ok (.value (.bool (decide (¬ (blt a b || a == b) = true)))) w := run_binS ho hx hy (by
  simp only [Op.stringOp, toList_S, blt, Sem.run_pure]
  congr 2
  rw [Bool.eq_iff_iff]; simp)
end
def cmpS (a b : Str) : Int := if a < b then -1 else if b < a then 1 else 0
def orI (a b : Int) : Int := if ¬ a = 0 then a else b
theorem slt_irrefl (a : Str) : ¬ a < a := List.lt_irrefl a
theorem slt_trans {a b c : Str} (h : a < b) (h2 : b < c) : a < c := List.lt_trans h h2
theorem slt_tri {a b : Str} (h : ¬ a < b) (h2 : ¬ b < a) : a = b := List.le_antisymm (List.not_lt.1 h2) (List.not_lt.1 h)
def ltP (x y : Str × Str) : Prop := x.1 < y.1 ∨ (x.1 = y.1 ∧ x.2 < y.2)
instance (x y : Str × Str) : Decidable (ltP x y) := by unfold ltP; infer_instance
def prG (x : Gram) : Str × Str := (x.fst, x.snd)
theorem cmpS_neg {a b : Str} : cmpS a b < 0 ↔ a < b := by
  unfold cmpS
  by_cases h : a < b
  · simp [h]
  · by_cases h2 : b < a <;> simp [h, h2]
theorem cmpS_zero {a b : Str} : cmpS a b = 0 ↔ a = b := by
  unfold cmpS
  by_cases h : a < b
  · simp [h]; intro e; exact slt_irrefl _ (e ▸ h)
  · by_cases h2 : b < a
    · simp [h, h2]; intro e; exact slt_irrefl _ (e ▸ h2)
    · simp [h, h2]; exact slt_tri h h2
def AscG (g : List Gram) : Prop := g.Pairwise (fun x y => ltP (prG x) (prG y))
def GramsOk (ps : List (Str × Str)) (g : List Gram) : Prop := AscG g ∧ (∀ x ∈ g, 0 < ps.count (prG x) ∧ x.count = ((ps.count (prG x) : Nat) : Int)) ∧ ∀ p ∈ ps, ∃ x ∈ g, prG x = p
theorem GramsOk.nil : GramsOk [] [] := ⟨List.Pairwise.nil, by simp, by simp⟩
open Go.ChangeMaps (setBlock)
theorem asking_hit {P : Program} {K : TypeId} {α : Type} [DecidableEq α] {ek : α → Value} (heq : ∀ (w : World) (x y : α), (Op.equal K (ek x) (ek y)).run P w = .ok (decide (x = y)) w) (x : α) (w : World) :
    ∀ (es : List MapEntry) (i k : Nat) (e : MapEntry), (∀ e ∈ es, ∃ y, e.key = ek y) → es[i]? = some e → e.key = ek x → (∀ j e', j < i → es[j]? = some e' → e'.key ≠ ek x) → (Instr.findAsking K (ek x) es k).run P w = .ok (some (k + i, e.val)) w
  | [], i, k, e, _, h, _, _ => by simp at h
  | a :: es, 0, k, e, _, h, hk, _ => by
    simp at h; subst h
    simp only [Instr.findAsking, Sem.run_bind, hk, heq, Result.andThen_ok, decide_true, if_true, Sem.run_pure, Nat.add_zero]
  | a :: es, i + 1, k, e, hall, h, hk, hne => by
    obtain ⟨y, hy⟩ := hall a (by simp)
    have h0 := hne 0 a (by omega) (by simp)
    have ih := asking_hit heq x w es i (k + 1) e (fun e he => hall e (by simp [he])) (by simpa using h) hk (fun j e' hj he' => hne (j + 1) e' (by omega) (by simpa using he'))
    have hd : decide (x = y) = false := by simp; intro h; exact h0 (by rw [hy, h])
    simp only [Instr.findAsking, Sem.run_bind, hy, heq, hd, Result.andThen_ok, Bool.false_eq_true, if_false]
    rw [ih, show k + 1 + i = k + (i + 1) by omega]
theorem asking_miss {P : Program} {K : TypeId} {α : Type} [DecidableEq α] {ek : α → Value} (heq : ∀ (w : World) (x y : α), (Op.equal K (ek x) (ek y)).run P w = .ok (decide (x = y)) w) (x : α) (w : World) :
    ∀ (es : List MapEntry) (k : Nat), (∀ e ∈ es, ∃ y, e.key = ek y) → (∀ e ∈ es, e.key ≠ ek x) → (Instr.findAsking K (ek x) es k).run P w = .ok none w
  | [], _, _, _ => rfl
  | a :: es, k, hall, hne => by
    obtain ⟨y, hy⟩ := hall a (by simp)
    have h0 := hne a (by simp)
    have ih := asking_miss heq x w es (k + 1) (fun e he => hall e (by simp [he])) (fun e he => hne e (by simp [he]))
    have hd : decide (x = y) = false := by simp; intro h; exact h0 (by rw [hy, h])
    simp only [Instr.findAsking, Sem.run_bind, hy, heq, hd, Result.andThen_ok, Bool.false_eq_true, if_false]
    exact ih
theorem KeyLaw.asked {P : Program} {K : TypeId} {D : TypeDesc} {α : Type} [DecidableEq α] {ek : α → Value} (hu : P.underlying K = some D) (inj : ∀ x y, ek x = ek y → x = y) (hno : ∀ x y, Instr.sameNow D (ek x) (ek y) = none)
    (heq : ∀ (w : World) (x y : α), (Op.equal K (ek x) (ek y)).run P w = .ok (decide (x = y)) w) (check : ∀ w e x, (Instr.checkKey e 10000 K (ek x)).run P w = .ok () w) (same : ∀ x, Instr.sameBits 10000 (ek x) (ek x) = true) : KeyLaw P K ek where
  inj := inj
  check := check
  same := same
  hit w x es i e hall h hk hne := by
    have h1 := asking_hit heq x w es i 0 e hall h hk hne
    rw [Nat.zero_add] at h1
    cases es with
    | nil => simp at h
    | cons a es =>
      obtain ⟨y, hy⟩ := hall a (by simp)
      have h2 : Instr.findNow D (ek x) (a :: es) 0 = none := by simp only [Instr.findNow, hy, hno]
      simp only [Instr.findKey, Sem.run_bind, run_underlying hu, Result.andThen_ok, h2]
      exact h1
  miss w x es hall hne := by
    have h1 := asking_miss heq x w es 0 hall hne
    cases es with
    | nil => simp only [Instr.findKey, Sem.run_bind, run_underlying hu, Result.andThen_ok, Instr.findNow]; rfl
    | cons a es =>
      obtain ⟨y, hy⟩ := hall a (by simp)
      have h2 : Instr.findNow D (ek x) (a :: es) 0 = none := by simp only [Instr.findNow, hy, hno]
      simp only [Instr.findKey, Sem.run_bind, run_underlying hu, Result.andThen_ok, h2]
      exact h1
theorem key_item {P : Program} {T : TypeId} {f0 f1 f2 : Field} (hu : P.underlying T = some (.struct #[f0, f1, f2])) (n0 : f0.name ≠ "_") (n1 : f1.name ≠ "_") (n2 : f2.name ≠ "_")
    (o0 : f0.offset = 0) (o1 : f1.offset = 1) (o2 : f2.offset = 2) (u0 : P.underlying f0.type = some (.int .i64)) (u1 : P.underlying f1.type = some .string) (u2 : P.underlying f2.type = some (.int .i64))
    (a0 : aggP P f0.type = some false) (a1 : aggP P f1.type = some false) (a2 : aggP P f2.type = some false)
    (he : ∀ (w : World) (x y : Item), (Op.equalIn 10000 T (.agg (Enc.enc x).toArray) (.agg (Enc.enc y).toArray)).run P w = .ok (decide (x = y)) w) : KeyLaw P T (fun x : Item => Value.agg (Enc.enc x).toArray) := by
  refine KeyLaw.asked hu (fun x y h => ?_) (fun x y => rfl) (fun w x y => he w x y) (fun w e x => ?_) (fun x => ?_)
  · obtain ⟨k1, t1, i1⟩ := x
    obtain ⟨k2, t2, i2⟩ := y
    have h1 : [Value.int .i64 k1, S t1, Value.int .i64 i1] = [Value.int .i64 k2, S t2, Value.int .i64 i2] := by
      have h2 := Value.agg.inj h
      exact List.toArray_inj h2
    simp only [List.cons.injEq, Value.int.injEq, true_and, and_true] at h1
    rw [h1.1, S_inj h1.2.1, h1.2.2]
  · have p0 : ∀ (z : Item), (part f0.type (Enc.enc z).toArray 0).run P w = .ok (.int .i64 z.kind) w := fun z => run_part1 a0 rfl
    have p1 : ∀ (z : Item), (part f1.type (Enc.enc z).toArray 1).run P w = .ok (S z.text) w := fun z => run_part1 a1 rfl
    have p2 : ∀ (z : Item), (part f2.type (Enc.enc z).toArray 2).run P w = .ok (.int .i64 z.id) w := fun z => run_part1 a2 rfl
    have c0 := check_scalar u0 w e 9998 (.int .i64 x.kind) (.inr ⟨_, _, rfl, rfl⟩)
    have c1 := check_scalar u1 w e 9998 (S x.text) (.inl ⟨rfl, _, rfl⟩)
    have c2 := check_scalar u2 w e 9998 (.int .i64 x.id) (.inr ⟨_, _, rfl, rfl⟩)
    unfold Instr.checkKey
    simp only [Sem.run_bind, run_underlying hu, Result.andThen_ok]
    simp [n0, n1, n2, o0, o1, o2, p0, p1, p2, c0, c1, c2, Sem.run_bind]
  · show Instr.sameBits 10000 (.agg #[.int .i64 x.kind, S x.text, .int .i64 x.id]) (.agg #[.int .i64 x.kind, S x.text, .int .i64 x.id]) = true
    have h1 := bits_str 9999 ⟨x.text.toArray⟩
    have h0 := bits_int 9999 .i64 x.kind
    have h2 := bits_int 9999 .i64 x.id
    unfold Instr.sameBits
    simp only [S] at *
    simp [h0, h1, h2]
def StampIs {α : Type} (w : World) (b : Nat) (ek : α → Value) (a : α) (s : Int) : Prop := ∃ (es : Array MapEntry) (clock i : Nat) (e : MapEntry), w.heap[b]? = some (.map es clock) ∧ es[i]? = some e ∧ (e.born : Int) = s ∧ e.key = ek a
section
variable {P : Program} {B : Exit → Act → World → Prop} {n : Nat} {k : List Kont} {f : Fr} {w : World} {ops : Array Oper} {rest : List Oper}
variable {α β : Type} {ek : α → Value} {ev : β → Value} {b : Nat} {m : List (α × β)} {K E : TypeId}
theorem StampIs.evo {w' : World} {a : α} {s : Int} {X : List Nat} (h : StampIs w b ek a s) (he : Evo w w' X) (hb : b < w.heap.size) (hn : b ∉ X) : StampIs w' b ek a s := by
  obtain ⟨es, c, i, e, h1, h2⟩ := h
  exact ⟨es, c, i, e, (he.same b hb hn).trans h1, h2⟩
theorem run_mapEntry [DecidableEq α] (L : KeyLaw P K ek) {T : TypeId} {z : β} {s0 bb : Nat} (hu : P.underlying T = some (.map K E)) (hz : tyP P E = some (s0, bb, some (ev z))) (a : α) (h : MapIs w b ek ev m) :
    ∃ w' s, (Instr.mapEntry T (.map (some b)) (ek a)).run P w = .ok (.tuple #[ev ((getM m a).getD z), .int .i64 s]) w' ∧ Evo w w' [b] ∧ w'.heap.size = w.heap.size ∧ MapIs w' b ek ev (setM m a ((getM m a).getD z)) ∧ StampIs w' b ek a s := by
  obtain ⟨es, c, hb, he, hbn, hlt, hnd⟩ := h.ex
  have hbl := h.lt
  obtain ⟨es', c', hb', hf⟩ := h.find L a
  rw [hb] at hb'
  injection hb' with hb'
  injection hb' with e1 e2
  subst e1; subst e2
  rcases hf with ⟨hg, hf⟩ | ⟨i, u, hg, hi, hne, hf⟩
  · have hmiss : ∀ p ∈ m, p.1 ≠ a := by
      intro p hp e
      unfold getM at hg
      have hg' := hg
      simp only [Option.map_eq_none_iff, List.find?_eq_none, decide_eq_true_eq] at hg'
      exact hg' p hp e
    refine ⟨setBlock w b (.map (es.push { key := ek a, val := ev z, born := c }) (c + 1)), (c : Int), ?_, Evo.setB _ _ _, by simp [setBlock], ⟨_, _, heap_setB hbl _, ?_, ?_, ?_, keys_setM a _ m hnd⟩, ⟨_, _, es.size, { key := ek a, val := ev z, born := c }, heap_setB hbl _, by simp, rfl, rfl⟩⟩
    · rw [hg]
      simp only [Instr.mapEntry, getObj, Sem.run_bind, run_underlying hu, Result.andThen_ok, Sem.run, hb, L.check, hf, setObj, setBlock, run_zero hz, goInt]
      rfl
    · rw [hg, setM_miss hmiss]; simp [he]
    · simp only [Array.toList_push, List.map_append, List.map_cons, List.map_nil]
      rw [List.nodup_append]
      refine ⟨hbn, by simp, fun x hx y hy => ?_⟩
      simp at hy
      subst hy
      obtain ⟨e, hem, rfl⟩ := List.mem_map.1 hx
      have := hlt e hem
      omega
    · intro e hem
      simp only [Array.toList_push, List.mem_append, List.mem_singleton] at hem
      rcases hem with hem | rfl
      · have := hlt e hem; omega
      · simp
  · have hent := entry_at he i
    rw [hi] at hent
    cases hes : es.toList[i]? with
    | none => rw [hes] at hent; simp at hent
    | some e =>
      rw [hes] at hent
      simp only [Option.map_some, Option.some.injEq, Prod.mk.injEq] at hent
      have hes' : es[i]? = some e := by simpa using hes
      have hstay : (Instr.keyThatStays (((es[i]?).map (·.key)).getD (ek a)) (ek a)).run P w = .ok (ek a) w := by
        rw [hes']
        simp only [Option.map_some, Option.getD_some, hent.1, Instr.keyThatStays, L.same, if_true, Sem.run_pure]
      have hsame : (es.modify i fun e => { e with key := ek a }) = es := by
        apply Array.ext_getElem?
        intro j
        rw [Array.getElem?_modify]
        by_cases hij : i = j
        · subst hij
          rw [if_pos rfl, hes']
          obtain ⟨k0, v0, b0⟩ := e
          obtain rfl : k0 = ek a := hent.1
          rfl
        · rw [if_neg hij]
      have hset : setM m a ((getM m a).getD z) = m := by
        rw [hg, setM_hit hi hnd]
        apply List.ext_getElem?
        intro j
        rw [List.getElem?_set]
        by_cases hij : i = j
        · subst hij
          have hil : i < m.length := (List.getElem?_eq_some_iff.1 hi).1
          rw [if_pos rfl, if_pos hil, hi]; rfl
        · rw [if_neg hij]
      refine ⟨setBlock w b (.map es c), (e.born : Int), ?_, Evo.setB _ _ _, by simp [setBlock], ?_, ⟨es, c, i, e, heap_setB hbl _, hes', rfl, hent.1⟩⟩
      · rw [hg]
        simp only [Instr.mapEntry, getObj, Sem.run_bind, run_underlying hu, Result.andThen_ok, Sem.run, hb, L.check, hf, hstay, setObj, setBlock, hsame, goInt]
        rw [hes']
        rfl
      · rw [hset]
        exact ⟨es, c, heap_setB hbl _, he, hbn, hlt, hnd⟩
theorem run_entryStore [DecidableEq α] (L : KeyLaw P K ek) {T : TypeId} {a : α} {s : Int} (v : β) (h : MapIs w b ek ev m) (hs : StampIs w b ek a s) :
    ∃ w', (Instr.entryStore T (.map (some b)) (.int .i64 s) (ev v)).run P w = .ok () w' ∧ Evo w w' [b] ∧ w'.heap.size = w.heap.size ∧ MapIs w' b ek ev (setM m a v) := by
  obtain ⟨es, c, hb, he, hbn, hlt, hnd⟩ := h.ex
  have hbl := h.lt
  obtain ⟨es', c', i, e, hb', hes', hborn, hkey⟩ := hs
  rw [hb] at hb'
  injection hb' with hb'
  injection hb' with e1 e2
  subst e1; subst e2
  have hent := entry_at he i
  have hes : es.toList[i]? = some e := by simpa using hes'
  rw [hes] at hent
  cases hi : m[i]? with
  | none => rw [hi] at hent; simp at hent
  | some p =>
    rw [hi] at hent
    simp only [Option.map_some, Option.some.injEq, Prod.mk.injEq] at hent
    obtain ⟨a', u⟩ := p
    have ha : a' = a := L.inj _ _ (hent.1.symm.trans hkey)
    subst ha
    have hfind : es.findIdx? (fun e => (e.born : Int) == s) = some i := by
      cases hq : es.findIdx? (fun e => (e.born : Int) == s) with
      | none =>
        rw [Array.findIdx?_eq_none_iff] at hq
        have := hq e (by rw [← Array.mem_toList_iff]; exact List.mem_of_getElem? hes)
        simp [hborn] at this
      | some j =>
        obtain ⟨hj, hp, _⟩ := Array.findIdx?_eq_some_iff_getElem.1 hq
        have h1 : ((es[j]).born : Int) = s := by simpa using hp
        have h2 : (es.toList.map (·.born))[j]? = (es.toList.map (·.born))[i]? := by
          rw [List.getElem?_map, List.getElem?_map, hes, Array.getElem?_toList, Array.getElem?_eq_getElem hj]
          simp only [Option.map_some, Option.some.injEq]
          omega
        have h3 := (List.getElem?_inj (by simpa using hj) hbn).1 h2
        rw [h3]
    refine ⟨setBlock w b (.map (es.modify i fun e => { e with val := ev v }) c), ?_, Evo.setB _ _ _, by simp [setBlock], ⟨_, _, heap_setB hbl _, ?_, ?_, ?_, keys_setM a' v m hnd⟩⟩
    · have hint : (asInt (.int .i64 s)).run P w = .ok s w := rfl
      simp only [Instr.entryStore, getObj, Sem.run_bind, Result.andThen_ok, Sem.run, hb, hint, hfind, setObj, setBlock]
    · rw [setM_hit hi hnd]
      apply List.ext_getElem?
      intro j
      have hj := entry_at he j
      simp only [List.getElem?_map, Array.getElem?_toList, Array.getElem?_modify] at hj ⊢
      rw [List.getElem?_set]
      by_cases hij : i = j
      · subst hij
        have hil : i < m.length := (List.getElem?_eq_some_iff.1 hi).1
        simp [hes', hil, hkey]
      · simp [hij, hj]
    · have : (es.modify i fun e => { e with val := ev v }).toList.map (·.born) = es.toList.map (·.born) := by
        apply List.ext_getElem?
        intro j
        simp only [List.getElem?_map, Array.getElem?_toList, Array.getElem?_modify]
        by_cases hij : i = j
        · subst hij; simp [hes']
        · simp [hij]
      rw [this]; exact hbn
    · intro x hx
      obtain ⟨j, hj⟩ := List.getElem?_of_mem hx
      simp only [Array.getElem?_toList, Array.getElem?_modify] at hj
      by_cases hij : i = j
      · subst hij
        simp [hes'] at hj
        rw [← hj]
        exact hlt e (List.mem_of_getElem? hes)
      · simp only [hij, if_false] at hj
        exact hlt x (by rw [← Array.getElem?_toList] at hj; exact List.mem_of_getElem? hj)
theorem r_mapEntry [DecidableEq α] (L : KeyLaw P K ek) {T d : Nat} {z : β} {s0 bb : Nat} {t : TypeId} {pos : String} {aft : Array Edge} {x y : Operand} {a : α} (hd : Nat.blt d n = true) (hu : P.underlying T = some (.map K E)) (hz : tyP P E = some (s0, bb, some (ev z)))
    (hx : opv f x = .map (some b)) (hy : opv f y = ek a) (h : MapIs w b ek ev m)
    (h2 : ∀ s w', Evo w w' [b] → w'.heap.size = w.heap.size → MapIs w' b ek ev (setM m a ((getM m a).getD z)) → StampIs w' b ek a s → KL P B n ops k rest (upd f d (.tuple #[ev ((getM m a).getD z), .int .i64 s])) w') :
    KL P B n ops k (⟨some d, .mapEntry T x y, t, pos, aft, none⟩ :: rest) f w := by
  obtain ⟨w', s, hr, he, hs, hm, hst⟩ := run_mapEntry L hu hz a h
  refine r_op (w' := w') rfl rfl hd ?_ (h2 s w' he hs hm hst)
  simp [execOp, hx, hy, hr]
theorem r_entryStore [DecidableEq α] (L : KeyLaw P K ek) {T : TypeId} {t : TypeId} {pos : String} {aft : Array Edge} {x y u : Operand} {a : α} {s : Int} {v : β} (hx : opv f x = .map (some b)) (hy : opv f y = .int .i64 s) (hu : opv f u = ev v)
    (h : MapIs w b ek ev m) (hs : StampIs w b ek a s) (h2 : ∀ w', Evo w w' [b] → w'.heap.size = w.heap.size → MapIs w' b ek ev (setM m a v) → KL P B n ops k rest f w') :
    KL P B n ops k (⟨none, .entryStore T x y u, t, pos, aft, none⟩ :: rest) f w := by
  obtain ⟨w', hr, he, hsz, hm⟩ := run_entryStore (T := T) L v h hs
  refine r_op0 (w' := w') rfl rfl ?_ (h2 w' he hsz hm)
  simp [execOp, hx, hy, hu, hr]
end
instance : Enc (Str × Str) := ⟨2, fun x => [S x.1, S x.2], fun _ => rfl, fun _ => rfl, by decide⟩
theorem getM_of_memZ {α : Type} [DecidableEq α] : ∀ {m : List (α × Int)} {p : α × Int}, (m.map (·.1)).Nodup → p ∈ m → getM m p.1 = some p.2
  | q :: m, p, hn, hp => by
    obtain ⟨h1, h2⟩ := List.nodup_cons.1 hn
    rw [getM_cons]
    rcases List.mem_cons.1 hp with rfl | hp
    · rw [if_pos rfl]
    · rw [if_neg (fun e => h1 (by show q.1 ∈ _; rw [e]; exact List.mem_map_of_mem hp)), getM_of_memZ h2 hp]
theorem getM_mem_of {α : Type} [DecidableEq α] {m : List (α × Int)} {a : α} {v : Int} (h : getM m a = some v) : (a, v) ∈ m := by
  unfold getM at h
  cases e : m.find? (fun p => decide (p.1 = a)) with
  | none => rw [e] at h; cases h
  | some p =>
    rw [e] at h
    have h1 : p.2 = v := by simpa using h
    have h2 : p.1 = a := by simpa using List.find?_some e
    have h3 := List.mem_of_find?_eq_some e
    rw [← h1, ← h2]; exact h3
section
variable {α : Type} [DecidableEq α]
def Bump (m m2 : List (α × Int)) (a : α) (d : Int) : Prop := ∀ x, getM m2 x = if x = a then some ((getM m a).getD 0 + d) else getM m x
theorem bumpF {m : List (α × Int)} {a : α} (d : Int) : Bump m (setM (setM m a ((getM m a).getD 0)) a ((getM m a).getD 0 + d)) a d := fun x => by
  rw [getM_setM, getM_setM]
  by_cases e : x = a
  · subst e; simp
  · simp [e, Ne.symm e]
theorem bumpT {m : List (α × Int)} {a : α} (d : Int) : Bump m (setM (setM m a ((getM m a).getD 0)) a ((getM (setM m a ((getM m a).getD 0)) a).getD 0 + d)) a d := fun x => by
  rw [getM_setM, getM_setM, getM_setM, if_pos rfl]
  by_cases e : x = a
  · subst e; simp
  · simp [e, Ne.symm e]
end
section
variable {α : Type} [BEq α] [LawfulBEq α]
end
section
variable {α : Type} [DecidableEq α]
def dist (l : List α) : List α := l.foldl (fun acc x => if x ∈ acc then acc else acc ++ [x]) []
theorem dist_snoc (l : List α) (x : α) : dist (l ++ [x]) = if x ∈ dist l then dist l else dist l ++ [x] := by unfold dist; rw [List.foldl_append]; rfl
theorem dist_mem_nodup : ∀ (n : Nat) (l : List α), l.length = n → (∀ x, x ∈ dist l ↔ x ∈ l) ∧ (dist l).Nodup
  | 0, l, h => by
    have : l = [] := List.eq_nil_of_length_eq_zero h
    subst this; exact ⟨fun x => Iff.rfl, List.nodup_nil⟩
  | n + 1, l, h => by
    have hne : l ≠ [] := by intro e; subst e; simp at h
    obtain ⟨r, y, rfl⟩ : ∃ r y, l = r ++ [y] := ⟨l.dropLast, l.getLast hne, (List.dropLast_concat_getLast hne).symm⟩
    obtain ⟨h1, h2⟩ := dist_mem_nodup n r (by simpa using h)
    rw [dist_snoc]
    by_cases hy : y ∈ dist r
    · rw [if_pos hy]
      refine ⟨fun x => ?_, h2⟩
      rw [h1 x, List.mem_append]
      exact ⟨.inl, fun h => h.elim id (fun h => by have : x = y := by simpa using h
                                                   rw [this]; exact (h1 y).1 hy)⟩
    · rw [if_neg hy]
      refine ⟨fun x => by rw [List.mem_append, List.mem_append, h1 x], ?_⟩
      rw [List.nodup_append]
      exact ⟨h2, by simp, fun a ha b hb => by have : b = y := by simpa using hb
                                              rw [this]; intro e; exact hy (e ▸ ha)⟩
theorem dist_mem (l : List α) (x : α) : x ∈ dist l ↔ x ∈ l := (dist_mem_nodup _ l rfl).1 x
theorem dist_nodup (l : List α) : (dist l).Nodup := (dist_mem_nodup _ l rfl).2
end
def sumZ (l : List Int) : Int := l.foldr (· + ·) 0
theorem sumZ_cons (a : Int) (l : List Int) : sumZ (a :: l) = a + sumZ l := rfl
def clampI (c : Int) : Int := max (min c 1073741824) 0
def occL (l : List Gram) (p : Str × Str) : Int := sumZ (l.map (fun x => if prG x = p then clampI x.count else 0))
def OccM (l : List Gram) (m : List ((Str × Str) × Int)) : Prop := ∀ p, getM m p = if p ∈ l.map prG then some (occL l p) else none
theorem OccM.nil : OccM [] [] := fun p => by simp [getM]
theorem OccM.get {l : List Gram} {m : List ((Str × Str) × Int)} (h : OccM l m) (p : Str × Str) : (getM m p).getD 0 = occL l p := by
  rw [h p]
  by_cases hp : p ∈ l.map prG
  · rw [if_pos hp]; rfl
  · rw [if_neg hp]
    have : ∀ x ∈ l.map (fun x => if prG x = p then clampI x.count else 0), x = 0 := fun x hx => by
      obtain ⟨y, hy, rfl⟩ := List.mem_map.1 hx
      exact if_neg (fun e => hp (by rw [← e]; exact List.mem_map_of_mem hy))
    have h2 : ∀ {l : List Int}, (∀ x ∈ l, x = 0) → sumZ l = 0 := fun {l} => by
      induction l with
      | nil => intro _; rfl
      | cons a l ih => intro h; rw [sumZ_cons, h a (by simp), ih (fun x hx => h x (by simp [hx]))]; rfl
    exact (h2 this).symm
def cmpI (a b : Int) : Int := if a < b then -1 else if b < a then 1 else 0
theorem cmpI_neg {a b : Int} : cmpI a b < 0 ↔ a < b := by
  unfold cmpI; split
  · simp_all
  · split <;> simp_all
theorem cmpI_zero {a b : Int} : cmpI a b = 0 ↔ a = b := by
  unfold cmpI; split
  · simp; omega
  · split
    · simp; omega
    · simp; omega
def cmpF (x y : Item) : Int := orI (cmpI x.kind y.kind) (orI (cmpS x.text y.text) (cmpI x.id y.id))
def ltF (x y : Item) : Prop := x.kind < y.kind ∨ (x.kind = y.kind ∧ (x.text < y.text ∨ (x.text = y.text ∧ x.id < y.id)))
instance (x y : Item) : Decidable (ltF x y) := by unfold ltF; infer_instance
theorem ltF_irrefl (x : Item) : ¬ ltF x x := fun h => by
  rcases h with h | ⟨_, h | ⟨_, h⟩⟩
  · omega
  · exact slt_irrefl _ h
  · omega
theorem ltF_trans {x y z : Item} (h : ltF x y) (h2 : ltF y z) : ltF x z := by
  rcases h with h | ⟨h, h'⟩ <;> rcases h2 with h2 | ⟨h2, h2'⟩
  · exact .inl (by omega)
  · exact .inl (by omega)
  · exact .inl (by omega)
  · refine .inr ⟨h.trans h2, ?_⟩
    rcases h' with h' | ⟨h', h''⟩ <;> rcases h2' with h2' | ⟨h2', h2''⟩
    · exact .inl (slt_trans h' h2')
    · exact .inl (h2' ▸ h')
    · exact .inl (h' ▸ h2')
    · exact .inr ⟨h'.trans h2', by omega⟩
theorem ltF_tri {x y : Item} (h : ¬ ltF x y) (h2 : ¬ ltF y x) : x = y := by
  have e1 : x.kind = y.kind := by
    rcases Int.lt_trichotomy x.kind y.kind with q | q | q
    · exact absurd (.inl q) h
    · exact q
    · exact absurd (.inl q) h2
  have e2 : x.text = y.text := slt_tri (fun q => h (.inr ⟨e1, .inl q⟩)) (fun q => h2 (.inr ⟨e1.symm, .inl q⟩))
  have e3 : x.id = y.id := by
    rcases Int.lt_trichotomy x.id y.id with q | q | q
    · exact absurd (.inr ⟨e1, .inr ⟨e2, q⟩⟩) h
    · exact q
    · exact absurd (.inr ⟨e1.symm, .inr ⟨e2.symm, q⟩⟩) h2
  cases x; cases y; simp_all
theorem cmpF_neg {x y : Item} : cmpF x y < 0 ↔ ltF x y := by
  unfold cmpF orI ltF
  by_cases h : cmpI x.kind y.kind = 0
  · rw [if_neg (by simpa using h)]
    have e := cmpI_zero.1 h
    by_cases h2 : cmpS x.text y.text = 0
    · rw [if_neg (by simpa using h2), cmpI_neg]
      have e2 := cmpS_zero.1 h2
      constructor
      · exact fun h3 => .inr ⟨e, .inr ⟨e2, h3⟩⟩
      · rintro (h3 | ⟨_, h3 | h3⟩)
        · omega
        · exact absurd (e2 ▸ h3) (slt_irrefl _)
        · exact h3.2
    · rw [if_pos h2, cmpS_neg]
      constructor
      · exact fun h3 => .inr ⟨e, .inl h3⟩
      · rintro (h3 | ⟨_, h3 | h3⟩)
        · omega
        · exact h3
        · exact absurd (cmpS_zero.2 h3.1) h2
  · rw [if_pos h, cmpI_neg]
    constructor
    · exact fun h2 => .inl h2
    · rintro (h2 | h2)
      · exact h2
      · exact absurd (cmpI_zero.2 h2.1) h
theorem ltOf_F (x y : Item) : Go.Proofs.ltOf cmpF x y = decide (ltF x y) := by unfold Go.Proofs.ltOf; exact decide_eq_decide.2 cmpF_neg
theorem swo_F : Go.Sort.SWO (Go.Proofs.ltOf cmpF) where
  irrefl x := by rw [ltOf_F]; simpa using ltF_irrefl _
  trans x y z h1 h2 := by rw [ltOf_F] at *; simp only [decide_eq_true_eq] at *; exact ltF_trans h1 h2
  ntrans x y z h1 h2 := by
    rw [ltOf_F] at *
    simp only [decide_eq_false_iff_not] at *
    intro h3
    by_cases h4 : ltF y x
    · exact h2 (ltF_trans h4 h3)
    · have e := ltF_tri h1 h4
      rw [e] at h3; exact h2 h3
def SrtF (l : List Item) : Prop := l.Pairwise (fun x y => ¬ ltF y x)
def putF : List Item → Item → List Item
  | [], x => [x]
  | y :: l, x => if ltF x y then x :: y :: l else y :: putF l x
theorem putF_perm : ∀ (l : List Item) (x : Item), (putF l x).Perm (x :: l)
  | [], x => List.Perm.refl _
  | y :: l, x => by
    unfold putF; split
    · exact List.Perm.refl _
    · exact ((putF_perm l x).cons y).trans (List.Perm.swap x y l)
theorem putF_mem {l : List Item} {x z : Item} : z ∈ putF l x ↔ z = x ∨ z ∈ l := by rw [(putF_perm l x).mem_iff, List.mem_cons]
theorem putF_srt : ∀ {l : List Item} {x : Item}, SrtF l → SrtF (putF l x)
  | [], x, _ => List.pairwise_singleton _ _
  | y :: l, x, h => by
    obtain ⟨h1, h2⟩ := List.pairwise_cons.1 h
    unfold putF; split
    · rename_i hx
      refine List.pairwise_cons.2 ⟨fun z hz => ?_, h⟩
      rcases List.mem_cons.1 hz with rfl | hz
      · exact fun q => ltF_irrefl _ (ltF_trans hx q)
      · exact fun q => h1 z hz (ltF_trans q hx)
    · rename_i hx
      refine List.pairwise_cons.2 ⟨fun z hz => ?_, putF_srt h2⟩
      rcases putF_mem.1 hz with rfl | hz
      · exact hx
      · exact h1 z hz
def putsF (l xs : List Item) : List Item := xs.foldl putF l
theorem putsF_perm : ∀ (xs l : List Item), (putsF l xs).Perm (l ++ xs)
  | [], l => by rw [List.append_nil]; exact List.Perm.refl _
  | x :: xs, l => by
    refine (putsF_perm xs (putF l x)).trans ?_
    refine ((putF_perm l x).append_right xs).trans ?_
    exact List.perm_middle.symm
theorem putsF_srt : ∀ (xs : List Item) {l : List Item}, SrtF l → SrtF (putsF l xs)
  | [], _, h => h
  | _ :: xs, _, h => putsF_srt xs (putF_srt h)
def sortF (xs : List Item) : List Item := putsF [] xs
theorem sortF_perm (xs : List Item) : (sortF xs).Perm xs := putsF_perm xs []
theorem sortF_srt (xs : List Item) : SrtF (sortF xs) := putsF_srt xs List.Pairwise.nil
theorem srtF_unique {l l' : List Item} (h : SrtF l) (h' : SrtF l') (hp : l.Perm l') : l = l' :=
  hp.eq_of_pairwise (fun a b _ _ h1 h2 => ltF_tri h2 h1) h h'
theorem sortF_of {l l' : List Item} (h : SortR (Go.Proofs.ltOf cmpF) l l') {xs : List Item} (hp : l.Perm xs) : l' = sortF xs := by
  refine srtF_unique ?_ (sortF_srt xs) ((h.1.trans hp).trans (sortF_perm xs).symm)
  refine h.2.imp (fun {a b} q => ?_)
  rw [ltOf_F] at q; simpa using q
theorem srtF_filter {l : List Item} (p : Item → Bool) (h : SrtF l) : SrtF (l.filter p) := h.filter p
theorem sortF_filter (xs : List Item) (p : Item → Bool) : (sortF xs).filter p = sortF (xs.filter p) :=
  srtF_unique (srtF_filter p (sortF_srt xs)) (sortF_srt _) (((sortF_perm xs).filter p).trans (sortF_perm _).symm)
section
variable {α : Type} [DecidableEq α]
def dif (s t : List α) (x : α) : Int := ((t.count x : Nat) : Int) - ((s.count x : Nat) : Int)
def CntG (ps qs : List α) (m : List (α × Int)) : Prop := ∀ x, getM m x = if x ∈ ps ∨ x ∈ qs then some (dif qs ps x) else none
theorem CntG.nil : CntG ([] : List α) [] [] := fun x => by simp [getM]
theorem dif_out {ps qs : List α} {x : α} (h : ¬ (x ∈ ps ∨ x ∈ qs)) : dif qs ps x = 0 := by
  unfold dif; rw [List.count_eq_zero.2 (fun q => h (.inl q)), List.count_eq_zero.2 (fun q => h (.inr q))]; rfl
theorem CntG.get {ps qs : List α} {m : List (α × Int)} (h : CntG ps qs m) (x : α) : (getM m x).getD 0 = dif qs ps x := by
  rw [h x]
  by_cases hx : x ∈ ps ∨ x ∈ qs
  · rw [if_pos hx]; rfl
  · rw [if_neg hx, dif_out hx]; rfl
theorem CntG.inc {ps qs : List α} {m m2 : List (α × Int)} {a : α} (h : CntG ps qs m) (hb : Bump m m2 a 1) : CntG (ps ++ [a]) qs m2 := fun x => by
  rw [hb x]
  by_cases e : x = a
  · subst e
    rw [if_pos rfl, if_pos (.inl (by simp)), h.get]
    unfold dif; rw [List.count_append]; simp; omega
  · rw [if_neg e, h x]
    have e2 : (ps ++ [a]).count x = ps.count x := by rw [List.count_append, List.count_singleton]; simp [Ne.symm e]
    have e3 : (x ∈ ps ++ [a] ∨ x ∈ qs) ↔ (x ∈ ps ∨ x ∈ qs) := by simp [e]
    unfold dif; rw [e2]
    by_cases hx : x ∈ ps ∨ x ∈ qs
    · rw [if_pos hx, if_pos (e3.2 hx)]
    · rw [if_neg hx, if_neg (fun q => hx (e3.1 q))]
theorem CntG.dec {ps qs : List α} {m m2 : List (α × Int)} {a : α} (h : CntG ps qs m) (hb : Bump m m2 a (-1)) : CntG ps (qs ++ [a]) m2 := fun x => by
  rw [hb x]
  by_cases e : x = a
  · subst e
    rw [if_pos rfl, if_pos (.inr (by simp)), h.get]
    unfold dif; rw [List.count_append]; simp; omega
  · rw [if_neg e, h x]
    have e2 : (qs ++ [a]).count x = qs.count x := by rw [List.count_append, List.count_singleton]; simp [Ne.symm e]
    have e3 : (x ∈ ps ∨ x ∈ qs ++ [a]) ↔ (x ∈ ps ∨ x ∈ qs) := by simp [e]
    unfold dif; rw [e2]
    by_cases hx : x ∈ ps ∨ x ∈ qs
    · rw [if_pos hx, if_pos (e3.2 hx)]
    · rw [if_neg hx, if_neg (fun q => hx (e3.1 q))]
theorem dif_bd (s t : List α) (x : α) : -(s.length : Int) ≤ dif s t x ∧ dif s t x ≤ (t.length : Int) := by
  have h1 := List.count_le_length (a := x) (l := s)
  have h2 := List.count_le_length (a := x) (l := t)
  unfold dif; omega
def DifM (s t : List α) (m : List (α × Int)) : Prop := (m.map (·.1)).Nodup ∧ ∀ p, p ∈ m ↔ (p.2 = dif s t p.1 ∧ dif s t p.1 ≠ 0)
theorem DifM.len {s t : List α} {m : List (α × Int)} (h : DifM s t m) : m.length ≤ t.length + s.length := by
  have h1 := List.Nodup.length_le_of_subset h.1 (l₂ := t ++ s) (fun x hx => by
    obtain ⟨p, hp, rfl⟩ := List.mem_map.1 hx
    have h2 := ((h.2 p).1 hp).2
    rcases Classical.em (p.1 ∈ t ∨ p.1 ∈ s) with q | q
    · exact List.mem_append.2 q
    · exact absurd (dif_out q) h2)
  rw [List.length_map, List.length_append] at h1; exact h1
structure DelI (s t : List α) (m left : List (α × Int)) : Prop where
  nd : (m.map (·.1)).Nodup
  ndl : (left.map (·.1)).Nodup
  val : ∀ p ∈ m, p.2 = dif s t p.1
  has : ∀ x, dif s t x ≠ 0 → (x, dif s t x) ∈ m
  zer : ∀ p ∈ m, p.2 = 0 → p ∈ left
  sub : ∀ p ∈ left, p ∈ m
theorem CntG.mem {ps qs : List α} {m : List (α × Int)} (h : CntG ps qs m) (hn : (m.map (·.1)).Nodup) : DelI qs ps m m where
  nd := hn
  ndl := hn
  val p hp := by
    have h1 := getM_of_memZ hn hp
    rw [h] at h1
    split at h1
    · injection h1 with h1; exact h1.symm
    · cases h1
  has x hx := getM_mem_of (by rw [h x, if_pos (Classical.not_not.1 (fun q => hx (dif_out q)))])
  zer p hp _ := hp
  sub p hp := hp
theorem DelI.keep {s t : List α} {m l1 l2 : List (α × Int)} {p : α × Int} (h : DelI s t m (l1 ++ p :: l2)) (hz : ¬ p.2 = 0) : DelI s t m (l1 ++ l2) where
  nd := h.nd
  ndl := h.ndl.sublist (by simp)
  val := h.val
  has := h.has
  zer q hq h0 := by
    have h1 := h.zer q hq h0
    rcases List.mem_append.1 h1 with h2 | h2
    · exact List.mem_append_left _ h2
    · rcases List.mem_cons.1 h2 with h3 | h3
      · exact absurd (h3 ▸ h0) hz
      · exact List.mem_append_right _ h3
  sub q hq := h.sub q (by rcases List.mem_append.1 hq with h2 | h2; exact List.mem_append_left _ h2; exact List.mem_append_right _ (List.mem_cons_of_mem _ h2))
theorem mem_delM {m : List (α × Int)} {a : α} {p : α × Int} : p ∈ delM m a ↔ p ∈ m ∧ p.1 ≠ a := by unfold delM; rw [List.mem_filter]; simp
theorem DelI.strike {s t : List α} {m l1 l2 : List (α × Int)} {p : α × Int} (h : DelI s t m (l1 ++ p :: l2)) (hz : p.2 = 0) : DelI s t (delM m p.1) (l1 ++ l2) := by
  have hpm : p ∈ m := h.sub p (by simp)
  have hsub : ∀ q ∈ l1 ++ l2, q ∈ l1 ++ p :: l2 := fun q hq => by rcases List.mem_append.1 hq with h2 | h2; exact List.mem_append_left _ h2; exact List.mem_append_right _ (List.mem_cons_of_mem _ h2)
  have hne : ∀ q ∈ l1 ++ l2, q.1 ≠ p.1 := fun q hq e => by
    have h1 := h.ndl
    rw [List.map_append, List.map_cons] at h1
    have h2 := (List.perm_middle (a := p.1) (l₁ := l1.map (·.1)) (l₂ := l2.map (·.1))).nodup_iff.1 h1
    have h3 := (List.nodup_cons.1 h2).1
    exact h3 (by rw [← List.map_append, ← e]; exact List.mem_map_of_mem hq)
  refine ⟨h.nd.sublist (List.Sublist.map _ List.filter_sublist), h.ndl.sublist (by simp), fun q hq => h.val q (mem_delM.1 hq).1, fun x hx => ?_, fun q hq h0 => ?_, fun q hq => ?_⟩
  · refine mem_delM.2 ⟨h.has x hx, fun e => hx ?_⟩
    have h1 := h.val p hpm
    have e' : x = p.1 := e
    rw [e', ← h1]; exact hz
  · obtain ⟨h1, h2⟩ := mem_delM.1 hq
    have h3 := h.zer q h1 h0
    rcases List.mem_append.1 h3 with h4 | h4
    · exact List.mem_append_left _ h4
    · rcases List.mem_cons.1 h4 with h5 | h5
      · exact absurd (by rw [h5]) h2
      · exact List.mem_append_right _ h5
  · exact mem_delM.2 ⟨h.sub q (hsub q hq), hne q hq⟩
theorem DelI.done {s t : List α} {m : List (α × Int)} (h : DelI s t m []) : DifM s t m := ⟨h.nd, fun p => ⟨fun hp => ⟨h.val p hp, fun h0 => by
  have := h.zer p hp (by rw [h.val p hp]; exact h0)
  cases this⟩, fun hp => by have := h.has p.1 hp.2; rw [← hp.1] at this; exact this⟩⟩
def difs (u : List α) (s t : List α) (f : α → Int → Item) : List Item := (u.filter (fun x => decide (dif s t x ≠ 0))).map (fun x => f x (dif s t x))
theorem nodup_of_map {β γ : Type} (f : β → γ) {l : List β} (h : (l.map f).Nodup) : l.Nodup := by
  unfold List.Nodup at *; rw [List.pairwise_map] at h; exact h.imp (fun hne e => hne (by rw [e]))
theorem difs_perm {u s t : List α} {m : List (α × Int)} (h : DifM s t m) (hn : u.Nodup) (hu : ∀ x, x ∈ t ∨ x ∈ s → x ∈ u) (f : α → Int → Item) : (m.map (fun p => f p.1 p.2)).Perm (difs u s t f) := by
  have h1 : m.Perm ((u.filter (fun x => decide (dif s t x ≠ 0))).map (fun x => (x, dif s t x))) := by
    refine (List.perm_ext_iff_of_nodup ?_ ?_).2 (fun p => ?_)
    · exact nodup_of_map (fun q : α × Int => q.1) h.1
    · refine nodup_of_map (fun q : α × Int => q.1) ?_
      rw [List.map_map, show ((fun q : α × Int => q.1) ∘ fun x => (x, dif s t x)) = id from rfl, List.map_id]
      exact hn.filter _
    · rw [h.2 p, List.mem_map]
      constructor
      · rintro ⟨h2, h3⟩
        refine ⟨p.1, List.mem_filter.2 ⟨hu _ (Classical.not_not.1 (fun q => h3 (dif_out q))), by simpa using h3⟩, ?_⟩
        rw [← h2]
      · rintro ⟨x, hx, rfl⟩
        exact ⟨rfl, by simpa using (List.mem_filter.1 hx).2⟩
  have h2 := h1.map (fun p => f p.1 p.2)
  rw [List.map_map] at h2; exact h2
theorem difs_len (u s t : List α) (f : α → Int → Item) : (difs u s t f).length ≤ u.length := by unfold difs; rw [List.length_map]; exact List.length_filter_le _ _
theorem difs_nil {u s t : List α} {f : α → Int → Item} (h : ∀ x, dif s t x = 0) : difs u s t f = [] := by unfold difs; rw [List.filter_eq_nil_iff.2 (fun x _ => by simp [h x])]; rfl
end
end Go.Vc
namespace Go.Proofs.YtlfjocbnbceceaaGreatDoor
open Go Go.RowKit Go.Vc
theorem fLen_mem {l : List Vc.Item} {x : Vc.Item} (h : x ∈ l) : x.text.length ≤ fLen l := by
  induction l with
  | nil => cases h
  | cons y l ih =>
    have e : fLen (y :: l) = y.text.length + fLen l := by simp [fLen]
    rcases List.mem_cons.1 h with rfl | h
    · omega
    · have := ih h; omega
theorem cutT_text : ∀ (n : Nat) (s : Str), s.length = n → ∀ x ∈ cutT s, x.text.length ≤ s.length := by
  intro n
  induction n using Nat.strongRecOn with
  | ind n ih =>
    intro s hs x hx
    by_cases h : s = []
    · subst h; rw [cutT_nil] at hx; cases hx
    · have h1 := tokN_pos s
      have h2 : 0 < s.length := List.length_pos_iff.2 h
      rw [cutT_cons h] at hx
      rcases List.mem_cons.1 hx with rfl | hx
      · show (s.take _).length ≤ _; rw [List.length_take]; omega
      · have h3 := ih _ (by rw [← hs]; show (s.drop (tokN s).2).length < s.length; rw [List.length_drop]; omega) (s.drop (tokN s).2) rfl x hx
        rw [List.length_drop] at h3; omega
theorem toks_text {f : List Vc.Item} {x : Vc.Item} (h : x ∈ toks f) : x.text.length ≤ fLen f := by
  unfold toks at h
  obtain ⟨y, hy, hx⟩ := List.mem_flatMap.1 h
  have h1 := fLen_mem hy
  unfold tokI at hx
  split at hx
  · have := cutT_text _ y.text rfl x hx; omega
  · split at hx
    · have : x = y := by simpa using hx
      rw [this]; exact h1
    · cases hx
structure Chk where
  lev : List Int
  short : Int
  long : Int
  ts : List TermL
  cls : List Clas
def chkBad (c : Chk) : Prop := (∃ x ∈ c.lev, x < 0 ∨ 2 < x) ∨ (((¬ c.lev.getD 0 default = 0 ∨ c.short < 0) ∨ 100 < c.short) ∨ (¬ c.long = 0 ∧ (c.long < 100 ∨ 10000 < c.long)))
instance (c : Chk) : Decidable (chkBad c) := by unfold chkBad; infer_instance
def validK (c : Chk) : Int := if chkBad c then 1 else validT c.ts c.cls
def Tiny (f : List Vc.Item) : Prop := f.length ≤ 1000 ∧ sizeL f ≤ 100000
theorem sizeL_f (f : List Vc.Item) : fLen f = sizeL f := rfl
theorem Tiny.small {f : List Vc.Item} (h : Tiny f) : Small f := ⟨by have := h.1; omega, by have := h.2; omega⟩
theorem Tiny.tk {f : List Vc.Item} (h : Tiny f) : fLen f + f.length ≤ 1000000000 := by have h1 := h.1; have h2 := h.2; rw [← sizeL_f] at h2; omega
theorem Tiny.tlen {f : List Vc.Item} (h : Tiny f) : (toks f).length ≤ 101000 := by have h0 := toks_len f; have h1 := h.1; have h2 := h.2; rw [← sizeL_f] at h2; omega
theorem Tiny.ttx {f : List Vc.Item} (h : Tiny f) : ∀ x ∈ toks f, x.text.length ≤ 100000 := fun x hx => by have h0 := toks_text hx; have h2 := h.2; rw [← sizeL_f] at h2; omega
theorem Tiny.plen {f : List Vc.Item} (h : Tiny f) : (plainL f).length ≤ 101000 := by have h0 := plainL_len f; have h1 := h.1; have h2 := h.2; omega
theorem Tiny.txt {f : List Vc.Item} (h : Tiny f) {x : Vc.Item} (hx : x ∈ f) : x.text.length ≤ 100000 := by have h0 := sizeL_mem hx; have h2 := h.2; omega
def spB (c : UInt8) : Bool := decide (clsB c = 2)
def tBeg (s : Str) : Nat := (s.takeWhile spB).length
def tEndK (s : Str) : Nat → Nat
  | 0 => 0
  | k + 1 => if spB (s.getD k default) = true then tEndK s k else k + 1
def tEnd (s : Str) : Nat := tEndK s s.length
theorem tBeg_at : ∀ {s : Str} {k : Nat}, k ≤ s.length → (∀ j, j < k → clsB (s.getD j default) = 2) → (k = s.length ∨ ¬ clsB (s.getD k default) = 2) → tBeg s = k
  | [], k, hk, _, _ => by
    have : k = 0 := by simpa using hk
    subst this; rfl
  | c :: s, 0, _, _, h => by
    rcases h with h | h
    · simp at h
    · have h' : spB c = false := by unfold spB; exact decide_eq_false h
      unfold tBeg; rw [List.takeWhile_cons, h']; rfl
  | c :: s, k + 1, hk, h1, h2 => by
    have h0 : spB c = true := decide_eq_true (h1 0 (by omega))
    have ih := tBeg_at (s := s) (k := k) (by simpa using hk) (fun j hj => h1 (j + 1) (by omega)) (h2.imp (fun q => by simpa using q) (fun q => q))
    unfold tBeg at *; rw [List.takeWhile_cons, h0]
    show (s.takeWhile spB).length + 1 = k + 1
    rw [ih]
theorem tEndK_le (s : Str) : ∀ k, tEndK s k ≤ k
  | 0 => Nat.le_refl _
  | k + 1 => by
    unfold tEndK; split
    · exact Nat.le_succ_of_le (tEndK_le s k)
    · exact Nat.le_refl _
theorem tEnd_le (s : Str) : tEnd s ≤ s.length := tEndK_le s _
theorem tEndK_go {s : Str} {k : Nat} (h0 : 0 < k) (h : clsB (s.getD (k - 1) default) = 2) : tEndK s k = tEndK s (k - 1) := by
  obtain ⟨k, rfl⟩ : ∃ j, k = j + 1 := ⟨k - 1, by omega⟩
  conv => lhs; unfold tEndK
  rw [if_pos (show spB (s.getD k default) = true from decide_eq_true h)]; rfl
theorem tEndK_stop {s : Str} {k : Nat} (h : k = 0 ∨ ¬ clsB (s.getD (k - 1) default) = 2) : tEndK s k = k := by
  cases k with
  | zero => rfl
  | succ k =>
    unfold tEndK
    rw [if_neg (show ¬ spB (s.getD k default) = true from fun q => (h.elim (fun q => by omega) id : ¬ clsB (s.getD (k + 1 - 1) default) = 2) (of_decide_eq_true q))]
theorem tEndK_gt {s : Str} {j : Nat} (h : ¬ clsB (s.getD j default) = 2) : ∀ {k : Nat}, j < k → j < tEndK s k
  | k + 1, hj => by
    unfold tEndK; split
    · rename_i hs
      rcases Nat.lt_or_ge j k with h1 | h1
      · exact tEndK_gt h h1
      · have : j = k := by omega
        subst this; exact absurd (of_decide_eq_true hs) h
    · omega
theorem tEnd_gt {s : Str} {j : Nat} (h : ¬ clsB (s.getD j default) = 2) (hj : j < s.length) : j < tEnd s := tEndK_gt h hj
theorem tBeg_le (s : Str) : tBeg s ≤ s.length := by
  unfold tBeg
  exact (List.takeWhile_sublist _).length_le
theorem mem_tw : ∀ (s : Str) {c : UInt8}, c ∈ s.takeWhile spB → spB c = true
  | [], c, h => by simp at h
  | a :: s, c, h => by
    rw [List.takeWhile_cons] at h
    split at h
    · rcases List.mem_cons.1 h with rfl | h
      · assumption
      · exact mem_tw s h
    · cases h
theorem tEnd_zero {s : Str} (h : tBeg s = s.length) : tEnd s = 0 := by
  have h1 : ∀ c ∈ s, spB c = true := by
    have e : s.takeWhile spB = s := (List.takeWhile_sublist spB).eq_of_length h
    intro c hc
    rw [← e] at hc
    exact mem_tw s hc
  rcases Nat.eq_zero_or_pos (tEnd s) with h2 | h2
  · exact h2
  · exfalso
    have key : ∀ k, k ≤ s.length → tEndK s k = 0 := by
      intro k
      induction k with
      | zero => intro _; rfl
      | succ k ih =>
        intro hk
        unfold tEndK
        rw [if_pos (h1 _ (getD_in (by omega))), ih (by omega)]
    have := key s.length (Nat.le_refl _)
    unfold tEnd at h2; omega
theorem prefix_iff3 {s t : Str} : t <+: s ↔ t.length ≤ s.length ∧ s.take t.length = t := by
  constructor
  · intro h; exact ⟨h.length_le, (List.prefix_iff_eq_take.1 h).symm⟩
  · rintro ⟨_, h⟩; exact List.prefix_iff_eq_take.2 h.symm
theorem cut_hi {s : Str} {k : Nat} : (s.drop k).take (s.length - k) = s.drop k := List.take_of_length_le (by simp)
def trF (s : Str) : Nat := if tBeg s = s.length then 0 else tBeg s
theorem tBeg_stop : ∀ (s : Str), tBeg s = s.length ∨ ¬ clsB (s.getD (tBeg s) default) = 2
  | [] => .inl rfl
  | c :: s => by
    by_cases h : spB c = true
    · have e : tBeg (c :: s) = tBeg s + 1 := by unfold tBeg; rw [List.takeWhile_cons, h]; rfl
      rw [e]
      exact (tBeg_stop s).imp (fun q => by rw [List.length_cons, q]) (fun q => q)
    · have h' : spB c = false := by simpa using h
      have e : tBeg (c :: s) = 0 := by unfold tBeg; rw [List.takeWhile_cons, h']; rfl
      rw [e]
      exact .inr (fun q => h (decide_eq_true q))
theorem trim_all {s : Str} {b k : Nat} (hb : tBeg s = b) (he : tEndK s k = tEnd s) (hk : k = b) : trF s = 0 ∧ tEnd s = 0 := by
  rcases tBeg_stop s with h | h
  · exact ⟨if_pos h, tEnd_zero h⟩
  · by_cases h2 : tBeg s = s.length
    · exact ⟨if_pos h2, tEnd_zero h2⟩
    · have h1 := tBeg_le s
      have h3 := tEnd_gt h (by omega)
      have h4 := tEndK_le s k
      omega
theorem trim_some {s : Str} {b k : Nat} (hb : tBeg s = b) (he : tEndK s k = tEnd s) (hk : b < k) (hl : k ≤ s.length) (hs : ¬ clsB (s.getD (k - 1) default) = 2) : trF s = b ∧ tEnd s = k :=
  ⟨by unfold trF; rw [if_neg (by omega), hb], by rw [← he]; exact tEndK_stop (.inr hs)⟩
theorem trF_ne {s : Str} (h : ¬ trF s = tEnd s) : trF s = tBeg s := by
  unfold trF at *; split
  · rename_i q; rw [if_pos q, tEnd_zero q] at h; exact absurd rfl h
  · rfl
theorem trF_eq {s : Str} (h : trF s = tEnd s) : tBeg s = s.length := by
  rcases tBeg_stop s with q | q
  · exact q
  · by_cases q2 : tBeg s = s.length
    · exact q2
    · have h1 := tBeg_le s
      have h3 := tEnd_gt q (by omega)
      unfold trF at h; rw [if_neg q2] at h; omega
def leadS (s : Str) : Str := s.take (tBeg s)
def trailS (s : Str) : Str := s.drop (tEnd s)
theorem edges_all {s : Str} (h : tBeg s = s.length) : leadS s = s ∧ trailS s = s := by
  unfold leadS trailS
  rw [tEnd_zero h, h]
  exact ⟨List.take_length, List.drop_zero⟩
def signL (s : Str) : Str := if tEnd s = 0 then [] else if clsB (s.getD (tEnd s - 1) default) = 5 then [s.getD (tEnd s - 1) default] else []
theorem sign_no {s : Str} (h : tEnd s = 0 ∨ ¬ clsB (s.getD (tEnd s - 1) default) = 5) : signL s = [] := by
  unfold signL; split
  · rfl
  · rename_i q2; rw [if_neg (h.elim (fun q => absurd q q2) id)]
theorem sign_yes {s : Str} (h : 0 < tEnd s) (h2 : clsB (s.getD (tEnd s - 1) default) = 5) : (s.take (tEnd s)).drop (tEnd s - 1) = signL s := by
  unfold signL; rw [if_neg (by omega), if_pos h2]
  have h3 := tEnd_le s
  have hk : tEnd s - 1 < s.length := by omega
  have e : s.take (tEnd s) = s.take (tEnd s - 1) ++ [s.getD (tEnd s - 1) default] := by
    have := take_succD s (tEnd s - 1) hk
    rwa [show tEnd s - 1 + 1 = tEnd s by omega] at this
  rw [e, List.drop_append_of_le_length (by rw [List.length_take]; omega), List.drop_of_length_le (by rw [List.length_take]; omega)]; rfl
def dblB (t : Str) (i : Nat) : Bool := decide (t.getD i 0 = 32 ∧ t.getD (i + 1) 0 = 32)
def dblK (t : Str) (k : Nat) : Nat := (List.range k).countP (dblB t)
def dblN (t : Str) : Nat := dblK t t.length
theorem dblK_succ (t : Str) (k : Nat) : dblK t (k + 1) = dblK t k + (if dblB t k = true then 1 else 0) := by
  unfold dblK; rw [List.range_succ, List.countP_append, List.countP_singleton]
theorem dblK_le (t : Str) (k : Nat) : dblK t k ≤ k := by
  unfold dblK
  have := List.countP_le_length (p := dblB t) (l := List.range k)
  rwa [List.length_range] at this
def begW : Str := [98, 101, 103, 105, 110]
def endW : Str := [101, 110, 100]
def longW : Str := [108, 111, 110, 103]
def shortW : Str := [115, 104, 111, 114, 116]
def decI (n : Int) : Str := if 0 ≤ n then decW n.toNat [] else 45 :: decW (-n).toNat []
def numI (x : Vc.Item) : Str := decI x.id ++ [58] ++ x.text
def writ (x : Vc.Item) : Str := if x.kind = 3 then [60, 47] ++ numI x ++ [62] else if x.kind = 4 then [60] ++ numI x ++ [47, 62] else [60] ++ numI x ++ [62]
def numT (l : List Vc.Item) : List Str := (l.filter (fun x => decide (x.kind = 7))).map (·.text)
theorem numT_len (l : List Vc.Item) : (numT l).length ≤ l.length := by unfold numT; rw [List.length_map]; exact List.length_filter_le _ _
theorem numT_yes {l : List Vc.Item} {k : Nat} (hk : k < l.length) (h : (l.getD k default).kind = 7) : numT (l.take (k + 1)) = numT (l.take k) ++ [(l.getD k default).text] := by
  unfold numT; rw [take_succD l k hk, List.filter_append, List.map_append, List.filter_cons_of_pos (p := fun x : Vc.Item => decide (x.kind = 7)) (decide_eq_true h)]; rfl
theorem numT_no {l : List Vc.Item} {k : Nat} (hk : k < l.length) (h : ¬ (l.getD k default).kind = 7) : numT (l.take (k + 1)) = numT (l.take k) := by
  unfold numT; rw [take_succD l k hk, List.filter_append, List.map_append, List.filter_cons_of_neg (p := fun x : Vc.Item => decide (x.kind = 7)) (by simpa using h)]; simp
theorem wordB_yes {l : List Vc.Item} {k : Nat} (hk : k < l.length) (h : (l.getD k default).kind = 6) : l.any (fun x => decide (x.kind = 6)) = true := List.any_eq_true.2 ⟨_, getD_in hk, decide_eq_true h⟩
theorem wordB_no {l : List Vc.Item} (h : ∀ j, j < l.length → ¬ (l.getD j default).kind = 6) : l.any (fun x => decide (x.kind = 6)) = false := by
  rw [Bool.eq_false_iff]; intro q
  obtain ⟨x, hx, h2⟩ := List.any_eq_true.1 q
  obtain ⟨i, hi, rfl⟩ := List.mem_iff_getElem.1 hx
  exact h i hi (by rw [List.getD_eq_getElem?_getD, List.getElem?_eq_getElem hi]; exact of_decide_eq_true h2)
def wordB (l : List Vc.Item) : Bool := l.any (fun x => decide (x.kind = 6))
def uniS (a b : List Str) : List Str := (a ++ b).foldl addS []
theorem uniS_mem {a b : List Str} {x : Str} : x ∈ uniS a b ↔ x ∈ a ∨ x ∈ b := by
  have h : ∀ (l o : List Str), x ∈ l.foldl addS o ↔ x ∈ o ∨ x ∈ l := by
    intro l
    induction l with
    | nil => intro o; simp
    | cons y l ih => intro o; rw [List.foldl_cons, ih, addS_mem, List.mem_cons, or_assoc]
  unfold uniS; rw [h, List.mem_append]; simp
theorem uniS_nodup (a b : List Str) : (uniS a b).Nodup := by
  have h : ∀ (l o : List Str), o.Pairwise (fun a b => a < b) → (l.foldl addS o).Pairwise (fun a b => a < b) := by
    intro l
    induction l with
    | nil => intro o ho; exact ho
    | cons y l ih => intro o ho; exact ih _ (addS_sorted y ho)
  exact nodup_of_lt (h _ _ List.Pairwise.nil)
def mkS (k : Int) (s : Str) (n : Int) : Vc.Item := ⟨k, s, n⟩
def mkT (x : Vc.Item) (n : Int) : Vc.Item := ⟨4, writ x, n⟩
def difS (k : Int) (a b : List Str) : List Vc.Item := difs (uniS a b) a b (mkS k)
def difT (a b : List Vc.Item) : List Vc.Item := difs (dist (a ++ b)) a b mkT
def sameF (f g : List Vc.Item) : List Vc.Item := if f = g ∧ wordB (toks f) = true then [⟨2, [], 0⟩] else []
def shapeF (f g : List Vc.Item) : List Vc.Item := if ((shapeL f).isSome ≠ (shapeL g).isSome ∨ ¬ sC f = sC g) ∨ ¬ sO f = sO g then [⟨5, [], 0⟩] else []
def edgeA (s t : Str) : List Vc.Item := if ¬ leadS s = leadS t then [⟨7, begW, 0⟩] else []
def edgeB (s t : Str) : List Vc.Item := if ¬ trailS s = trailS t then [⟨7, endW, 0⟩] else []
def dblF (t : Str) : List Vc.Item := if 0 < dblN t then [⟨8, [], (dblN t : Nat)⟩] else []
def signF (s t : Str) : List Vc.Item := if ¬ signL s = signL t then [⟨9, signL t, 0⟩] else []
def longF (c : Chk) (s t : Str) : List Vc.Item := if ¬ c.long = 0 ∧ c.long * (s.length : Nat) < 100 * (t.length : Nat) then [⟨12, longW, 0⟩] else []
def shortF (c : Chk) (s t : Str) : List Vc.Item := if ¬ c.short = 0 ∧ 100 * (t.length : Nat) < c.short * (s.length : Nat) then [⟨12, shortW, 0⟩] else []
def plainF (c : Chk) (s t : Str) : List Vc.Item := edgeA s t ++ edgeB s t ++ dblF t ++ signF s t ++ longF c s t ++ shortF c s t
def fndK (c : Chk) (S : List Vc.Item) : List Nat := foundN c.ts.length (spotsF S (fsT c.cls c.ts) 0)
def reqF (c : Chk) (k : Nat) : Vc.Item := ⟨10, (c.ts.getD k default).req.getD 0 default, -1⟩
def forF (s : Str) : Vc.Item := ⟨11, s, 1⟩
def missF (c : Chk) (S T : List Vc.Item) : List Vc.Item := (missN T c.ts (fndK c S)).map (reqF c)
def wrongF (c : Chk) (S T : List Vc.Item) : List Vc.Item := (wrongK T c.ts [] (fndK c S)).map forF
def termF (c : Chk) (S T : List Vc.Item) : List Vc.Item := missF c S T ++ wrongF c S T
def slotF (f g : List Vc.Item) : List Vc.Item := difS 3 (sortS (slotsL f)) (sortS (slotsL g))
def tagF (f g : List Vc.Item) : List Vc.Item := difT (tagsL f) (tagsL g)
def numF (f g : List Vc.Item) : List Vc.Item := difS 6 (numT (toks f)) (numT (toks g))
def findA (c : Chk) (f g : List Vc.Item) : List Vc.Item := sameF f g ++ slotF f g ++ tagF f g ++ shapeF f g ++ numF f g ++ plainF c (plainL f) (plainL g) ++ termF c (toks f) (toks g)
def hidB (f g : List Vc.Item) : Prop := g.length = 0 ∧ 0 < f.length
instance (f g : List Vc.Item) : Decidable (hidB f g) := by unfold hidB; infer_instance
def findL (c : Chk) (f g : List Vc.Item) : List Vc.Item := if hidB f g then [⟨1, [], 0⟩] else findA c f g
def levF (c : Chk) (x : Vc.Item) : Bool := decide (¬ c.lev.getD x.kind.toNat default = 0)
def runF (c : Chk) (f g : List Vc.Item) : List Vc.Item := if validK c = 0 then (sortF (findL c f g)).filter (levF c) else []
theorem all_perm {c : Chk} {f g p1 p2 p3 : List Vc.Item} (h1 : p1.Perm (slotF f g)) (h2 : p2.Perm (tagF f g)) (h3 : p3.Perm (numF f g)) : (sameF f g ++ (p1 ++ (p2 ++ p3)) ++ shapeF f g ++ plainF c (plainL f) (plainL g) ++ termF c (toks f) (toks g)).Perm (findA c f g) := by
  unfold findA
  refine List.Perm.append_right _ (List.Perm.append_right _ ?_)
  rw [List.append_assoc, List.append_assoc (sameF f g), List.append_assoc (sameF f g), List.append_assoc (sameF f g)]
  refine List.Perm.append_left _ ?_
  rw [List.append_assoc p1, List.append_assoc (slotF f g ++ tagF f g), List.append_assoc (slotF f g), List.append_assoc p2]
  exact h1.append (h2.append (List.perm_append_comm.trans ((List.Perm.refl _).append h3)))
theorem difs_kind {α : Type} [DecidableEq α] {u s t : List α} {f : α → Int → Vc.Item} {k : Int} (hf : ∀ x n, (f x n).kind = k) {z : Vc.Item} (h : z ∈ difs u s t f) : z.kind = k := by
  unfold difs at h
  obtain ⟨x, _, rfl⟩ := List.mem_map.1 h
  exact hf _ _
theorem if_kind {p : Prop} [Decidable p] {y z : Vc.Item} {k : Int} (hy : y.kind = k) (h : z ∈ (if p then [y] else [])) : z.kind = k := by
  split at h
  · rw [List.mem_singleton] at h; rw [h]; exact hy
  · cases h
theorem plainF_kind {c : Chk} {s t : Str} {z : Vc.Item} (h : z ∈ plainF c s t) : 7 ≤ z.kind ∧ z.kind ≤ 12 := by
  unfold plainF at h
  rcases List.mem_append.1 h with h | h
  · rcases List.mem_append.1 h with h | h
    · rcases List.mem_append.1 h with h | h
      · rcases List.mem_append.1 h with h | h
        · rcases List.mem_append.1 h with h | h
          · have := if_kind (k := 7) rfl h; omega
          · have := if_kind (k := 7) rfl h; omega
        · have := if_kind (k := 8) rfl h; omega
      · have := if_kind (k := 9) rfl h; omega
    · have := if_kind (k := 12) rfl h; omega
  · have := if_kind (k := 12) rfl h; omega
theorem termF_kind {c : Chk} {S T : List Vc.Item} {z : Vc.Item} (h : z ∈ termF c S T) : 10 ≤ z.kind ∧ z.kind ≤ 11 := by
  unfold termF missF wrongF at h
  rcases List.mem_append.1 h with h | h
  · obtain ⟨k, _, rfl⟩ := List.mem_map.1 h
    exact ⟨(show (10 : Int) ≤ 10 by decide), (show (10 : Int) ≤ 11 by decide)⟩
  · obtain ⟨k, _, rfl⟩ := List.mem_map.1 h
    exact ⟨(show (10 : Int) ≤ 11 by decide), (show (11 : Int) ≤ 11 by decide)⟩
theorem findA_kind {c : Chk} {f g : List Vc.Item} {z : Vc.Item} (h : z ∈ findA c f g) : 2 ≤ z.kind ∧ z.kind ≤ 12 := by
  unfold findA at h
  rcases List.mem_append.1 h with h | h
  · rcases List.mem_append.1 h with h | h
    · rcases List.mem_append.1 h with h | h
      · rcases List.mem_append.1 h with h | h
        · rcases List.mem_append.1 h with h | h
          · rcases List.mem_append.1 h with h | h
            · have := if_kind (k := 2) rfl h; omega
            · have := difs_kind (k := 3) (fun _ _ => rfl) h; omega
          · have := difs_kind (k := 4) (fun _ _ => rfl) h; omega
        · have := if_kind (k := 5) rfl h; omega
      · have := difs_kind (k := 6) (fun _ _ => rfl) h; omega
    · have := plainF_kind h; omega
  · have := termF_kind h; omega
theorem findL_kind {c : Chk} {f g : List Vc.Item} {z : Vc.Item} (h : z ∈ findL c f g) : 1 ≤ z.kind ∧ z.kind ≤ 12 := by
  unfold findL at h; split at h
  · rw [List.mem_singleton] at h; rw [h]; exact ⟨by decide, by decide⟩
  · have := findA_kind h; omega
def refB (c : Chk) (x : Vc.Item) : Bool := decide ((1 ≤ x.kind ∧ x.kind ≤ 12) ∧ c.lev.getD x.kind.toNat default = 2)
def refL (c : Chk) (l : List Vc.Item) : Bool := l.any (refB c)
theorem sl_hp_calls {s t : Str} {w0 : World} (hs : s.length ≤ 140737488355328) (ht : t.length ≤ 140737488355328) :
    Calls Tryz.prog 154 #[S s, S t] w0 fun e w' => e = .returned (.bool (decide (t <+: s))) ∧ Evo w0 w' [] := by
 refine calls_enter (n := 18) Tryz.func154 rfl Tryz.ntmps154 rfl ?_
 have hV : Evo w0 w0 [] := Evo.refl _ _
 refine Zs ?_
 refine Zn rfl (asB rfl) ?_
 refine Zs ?_
 refine Zo rfl (mvT rfl) ?_
 refine Zo rfl (run_lenS rfl rfl Tryz.underlying9) ?_
 refine Zo rfl (mvT rfl) ?_
 refine Zo rfl (run_lenS rfl rfl Tryz.underlying9) ?_
 refine Zo rfl (run_geq rfl rfl rfl) ?_
 refine Zo rfl (mvB rfl) ?_
 refine r_g rfl (wantT rfl) rfl (fun hg => run_mv (v := S _) rfl rfl) ?_
 refine r_g rfl (wantT rfl) rfl (fun hg => run_mv (v := S _) rfl rfl) ?_
 refine r_g rfl (wantT rfl) rfl (fun hg => run_lenS rfl (glv rfl (fun h => h) hg) Tryz.underlying9) ?_
 refine r_g rfl (wantT rfl) rfl (fun hg => run_slS (0) (t.length) rfl Tryz.underlying9 (glv rfl (fun h => h) hg) lo0 (at1 (glv rfl (fun h => h) hg) (by omega)) (by first | omega | (simp; omega)) (by first | omega | (simp; omega))) ?_
 refine r_g rfl (wantT rfl) rfl (fun hg => run_mv (v := S _) rfl rfl) ?_
 refine r_g rfl (wantT rfl) rfl (fun hg => run_seql rfl (glv rfl (fun h => h) hg) (glv rfl (fun h => h) hg)) ?_
 refine Zo rfl (run_pick_and rfl rfl (fun hq => glv rfl (fun h => h) hq) rfl) ?_
 refine Zn rfl (asB rfl) ?_
 refine r_ret (res1 (v := .bool _) rfl rfl) ?_
 exact ⟨ret_bool (by rw [Bool.eq_iff_iff, decide_eq_true_iff, decide_eq_true_iff, prefix_iff3]; constructor <;> (rintro ⟨h1, h2⟩; exact ⟨by omega, h2⟩)), hV⟩
theorem s_hp_calls {s t : Str} {w0 : World} (hs : s.length ≤ 140737488355328) (ht : t.length ≤ 140737488355328) :
    Calls Tryz.prog 110 #[S s, S t] w0 fun e w' => e = .returned (.bool (decide (t <+: s))) ∧ Evo w0 w' [] := by
 refine calls_enter (n := 8) Tryz.func110 rfl Tryz.ntmps110 rfl ?_
 have hV : Evo w0 w0 [] := Evo.refl _ _
 refine Zs ?_
 refine Zn rfl (asB rfl) ?_
 refine Zs ?_
 refine Zo rfl (mvT rfl) ?_
 refine Zo rfl (mvT rfl) ?_
 refine r_opcall rfl rfl rfl (run_callf (vs := [S _, S _]) rfl (by exact rfl) Tryz.func154 rfl (by kernel_rfl)) (sl_hp_calls (by first | omega | (simp; omega)) (by first | omega | (simp; omega))) ?_
 rintro e w1 ⟨rfl, hE1⟩
 refine ⟨_, rfl, ?_⟩
 have Q1 := hE1.size
 replace hV := Z0 hV hE1
 refine Zn rfl (asB rfl) ?_
 refine r_ret (res1 (v := .bool _) rfl rfl) ?_
 exact ⟨rfl, hV⟩
theorem trim_calls {s : Str} {w0 : World} (hs : s.length ≤ 140737488355328) :
    Calls Tryz.prog 153 #[S s] w0 fun e w' => e = .returned (.tuple #[.int .i64 (trF s : Nat), .int .i64 (tEnd s : Nat)]) ∧ Evo w0 w' [] := by
 refine calls_enter (n := 36) Tryz.func153 rfl Tryz.ntmps153 rfl ?_
 have hV : Evo w0 w0 [] := Evo.refl _ _
 refine Zs ?_
 refine Zo rfl (asI rfl) ?_
 refine Zn rfl (asI rfl) ?_
 refine Zs ?_
 refine Zo rfl (mvT rfl) ?_
 refine Zo rfl (run_lenS rfl rfl Tryz.underlying9) ?_
 refine Zn rfl (asI rfl) ?_
 refine r_seq ?_
 refine r_block ?_
 refine r_loop (α := Nat) [2, 6, 7, 8, 9, 10, 11, 12, 13, 14, 15, 16, 17] (fun k g w => g 2 = .int .i64 (k : Nat) ∧ k ≤ s.length ∧ (∀ j, j < k → clsB (s.getD j default) = 2) ∧ w0.heap.size ≤ w.heap.size ∧ Evo w0 w []) (fun k => s.length - k) 0 ?_ ?_
 ·refine ⟨(by first | exact rfl | exact congrArg (Value.int _) (by omega) | exact congrArg (Value.int _) (by dsimp only; omega) | exact congrArg (Value.int _) (by simp) | exact congrArg S (by simp)), (by first | assumption | omega | (dsimp only; omega) | (simp; done)), (fun j h => by omega), (by first | assumption | omega | (dsimp only; omega) | (simp; done)), hV⟩
 rintro k g w2 ⟨hj3, hk, hall, hzl1, hV⟩
 have hs_w2hV := hV.size
 refine Zk 2 (v := .int .i64 (k : Nat)) (by exact hj3) ?_
 refine r_seq ?_
 refine Zs ?_
 refine Zo rfl (mvI rfl) ?_
 refine Zo rfl (mvI rfl) ?_
 refine Zo rfl (run_lss rfl rfl rfl) ?_
 refine Zo rfl (mvB rfl) ?_
 refine r_g rfl (wantT rfl) rfl (fun hg => run_mv (v := S _) rfl rfl) ?_
 refine r_g rfl (wantT rfl) rfl (fun hg => run_mv (v := .int _ _) rfl rfl) ?_
 refine r_g rfl (wantT rfl) rfl (fun hg => run_ixS (k) rfl Tryz.underlying9 (glv rfl (fun h => h) hg) (glv rfl (fun h => h) hg) (by first | exact rfl | omega) (by omega)) ?_
 refine r_gcall rfl (wantT rfl) rfl (fun hg => run_callf rfl (argcons (v := .int _ _) (glv rfl (fun h => h) hg) (rfl)) Tryz.func143 rfl (by kernel_rfl)) (fun hg => (of_calls ).mono (fun e w' h => ⟨h.1, h.2⟩)) (fun w4 hE5 => ?_)
 have Q4 := hE5.size
 replace hV := Z0 hV hE5
 refine r_g rfl (wantT rfl) rfl (fun hg => run_eql rfl (glv rfl (fun h => h) hg) rfl) ?_
 refine Zn rfl (run_pick_and rfl rfl (fun hq => glv rfl (fun h => h) hq) rfl) ?_
 refine r_cond rfl (fun hc6 => ?_) (fun hc6 => ?_)
 ·skip
  refine r_skip ?_
  refine r_block ?_
  refine r_region ?_
  refine Zo rfl (mvI rfl) ?_
  refine Zo rfl (run_add rfl rfl rfl (by omega) (by omega)) ?_
  refine Zn rfl (asI rfl) ?_
  refine r_blk ?_
  refine r_again (k + 1) ?_ ?_ ?_
  ·first | omega | (dsimp only; omega)
  ·refine ⟨(by first | exact rfl | exact congrArg (Value.int _) (by omega) | exact congrArg (Value.int _) (by dsimp only; omega) | exact congrArg (Value.int _) (by simp) | exact congrArg S (by simp)), (by first | assumption | omega | (dsimp only; omega) | (simp; done)), (upto0 hall hc6.2), (by first | assumption | omega | (dsimp only; omega) | (simp; done)), hV⟩
  repeat (first | (with_reducible exact Agree.merge _ _ _) | (with_reducible exact Agree.refl _ _) | (with_reducible refine Agree.upd ?_ _ _ rfl) | ((with_reducible refine Agree.inner ?_ ?_); (kernel_rfl)))
 refine r_exit rfl ?_
 refine r_seq ?_
 refine r_block ?_
 have hbeg : tBeg s = k := tBeg_at (by omega) hall (by by_cases q : k = s.length; exact .inl q; exact .inr (fun h => hc6 ⟨by omega, h⟩))
 refine r_loop (α := Nat) [3, 18, 19, 20, 21, 22, 23, 24, 25, 26, 27, 28, 29, 30] (fun m g w => g 3 = .int .i64 (m : Nat) ∧ (k ≤ m ∧ m ≤ s.length) ∧ tEndK s m = tEnd s ∧ w4.heap.size ≤ w.heap.size ∧ Evo w0 w []) (fun m => m) s.length ?_ ?_
 ·refine ⟨(by first | exact rfl | exact congrArg (Value.int _) (by omega) | exact congrArg (Value.int _) (by dsimp only; omega) | exact congrArg (Value.int _) (by simp) | exact congrArg S (by simp)), ⟨by omega, Nat.le_refl _⟩, rfl, (by first | assumption | omega | (dsimp only; omega) | (simp; done)), hV⟩
 rintro m g w8 ⟨hj9, hm, hend, hzl7, hV⟩
 have hs_w8hV := hV.size
 refine Zk 3 (v := .int .i64 (m : Nat)) (by exact hj9) ?_
 refine r_seq ?_
 refine Zs ?_
 refine Zo rfl (mvI rfl) ?_
 refine Zo rfl (mvI rfl) ?_
 refine Zo rfl (run_gtr rfl rfl rfl) ?_
 refine Zo rfl (mvB rfl) ?_
 refine r_g rfl (wantT rfl) rfl (fun hg => run_mv (v := S _) rfl rfl) ?_
 refine r_g rfl (wantT rfl) rfl (fun hg => run_mv (v := .int _ _) rfl rfl) ?_
 refine r_g rfl (wantT rfl) rfl (fun hg => run_sub rfl (glv rfl (fun h => h) hg) rfl (by omega) (by omega)) ?_
 refine r_g rfl (wantT rfl) rfl (fun hg => run_ixS ((m - 1)) rfl Tryz.underlying9 (glv rfl (fun h => h) hg) (glv rfl (fun h => h) hg) (by omega) (by omega)) ?_
 refine r_gcall rfl (wantT rfl) rfl (fun hg => run_callf rfl (argcons (v := .int _ _) (glv rfl (fun h => h) hg) (rfl)) Tryz.func143 rfl (by kernel_rfl)) (fun hg => (of_calls ).mono (fun e w' h => ⟨h.1, h.2⟩)) (fun w10 hE11 => ?_)
 have Q10 := hE11.size
 replace hV := Z0 hV hE11
 refine r_g rfl (wantT rfl) rfl (fun hg => run_eql rfl (glv rfl (fun h => h) hg) rfl) ?_
 refine Zn rfl (run_pick_and rfl rfl (fun hq => glv rfl (fun h => h) hq) rfl) ?_
 refine r_cond rfl (fun hc12 => ?_) (fun hc12 => ?_)
 ·skip
  refine r_skip ?_
  refine r_block ?_
  refine r_region ?_
  refine Zo rfl (mvI rfl) ?_
  refine Zo rfl (run_sub rfl rfl rfl (by omega) (by omega)) ?_
  refine Zn rfl (asI rfl) ?_
  refine r_blk ?_
  refine r_again (m - 1) ?_ ?_ ?_
  ·first | omega | (dsimp only; omega)
  ·refine ⟨(congrArg (Value.int _) (by omega)), ⟨by omega, by omega⟩, (by rw [← hend]; exact (tEndK_go (by omega) hc12.2).symm), (by first | assumption | omega | (dsimp only; omega) | (simp; done)), hV⟩
  repeat (first | (with_reducible exact Agree.merge _ _ _) | (with_reducible exact Agree.refl _ _) | (with_reducible refine Agree.upd ?_ _ _ rfl) | ((with_reducible refine Agree.inner ?_ ?_); (kernel_rfl)))
 refine r_exit rfl ?_
 refine r_seq ?_
 refine r_seq ?_
 have hstop : m = k ∨ ¬ clsB (s.getD (m - 1) default) = 2 := by by_cases q : m = k; exact .inl q; exact .inr (fun h => hc12 ⟨by omega, h⟩)
 refine r_region ?_
 refine Zo rfl (mvI rfl) ?_
 refine Zo rfl (mvI rfl) ?_
 refine Zn rfl (run_eql rfl rfl rfl) ?_
 refine r_cond rfl (fun hc13 => ?_) (fun hc13 => ?_)
 ·skip
  refine Zs ?_
  refine Zo rfl (asI rfl) ?_
  refine Zn rfl (asI rfl) ?_
  refine r_ret (res2 (v := .int _ _) (u := .int _ _) rfl rfl rfl) ?_
  have h9 := trim_all hbeg hend (by omega)
  exact ⟨by rw [h9.1, h9.2]; rfl, hV⟩
 refine r_skip ?_
 refine Zs ?_
 refine Zo rfl (mvI rfl) ?_
 refine Zo rfl (mvI rfl) ?_
 refine Zo rfl (asI rfl) ?_
 refine Zn rfl (asI rfl) ?_
 refine r_ret (res2 (v := .int _ _) (u := .int _ _) rfl rfl rfl) ?_
 have h9 := trim_some hbeg hend (by omega) (by omega) (hstop.resolve_left (by omega))
 exact ⟨by rw [h9.1, h9.2], hV⟩
theorem edges_calls {s : Str} {w0 : World} (hs : s.length ≤ 140737488355328) :
    Calls Tryz.prog 109 #[S s] w0 fun e w' => e = .returned (.tuple #[S (leadS s), S (trailS s)]) ∧ Evo w0 w' [] := by
 refine calls_enter (n := 22) Tryz.func109 rfl Tryz.ntmps109 rfl ?_
 have hV : Evo w0 w0 [] := Evo.refl _ _
 refine Zs ?_
 refine Zo rfl (asT rfl) ?_
 refine Zn rfl (asT rfl) ?_
 refine Zs ?_
 refine Zo rfl (mvT rfl) ?_
 refine r_opcall rfl rfl rfl (run_callf (vs := [S _]) rfl (by exact rfl) Tryz.func153 rfl (by kernel_rfl)) (trim_calls (by omega)) ?_
 rintro e w1 ⟨rfl, hE1⟩
 refine ⟨_, rfl, ?_⟩
 have Q1 := hE1.size
 replace hV := Z0 hV hE1
 refine Zo rfl (mvU rfl) ?_
 refine Zo rfl (run_extract (v := .int _ _) rfl rfl rfl) ?_
 refine Zo rfl (run_extract (v := .int _ _) rfl rfl rfl) ?_
 refine Zo rfl (asI rfl) ?_
 refine Zn rfl (asI rfl) ?_
 refine r_seq ?_
 refine Zs ?_
 refine Zo rfl (mvI rfl) ?_
 refine Zo rfl (mvI rfl) ?_
 refine Zn rfl (run_eql rfl rfl rfl) ?_
 refine r_cond rfl (fun hc2 => ?_) (fun hc2 => ?_)
 ·skip
  refine Zs ?_
  refine Zo rfl (mvT rfl) ?_
  refine Zo rfl (mvT rfl) ?_
  refine Zo rfl (asT rfl) ?_
  refine Zn rfl (asT rfl) ?_
  refine r_ret (res2 (v := S _) (u := S _) rfl rfl rfl) ?_
  have h9 := edges_all (trF_eq (s := s) (by omega))
  exact ⟨by rw [h9.1, h9.2], hV⟩
 refine r_skip ?_
 refine r_seq ?_
 have h8 := trF_ne (s := s) (fun q => hc2 (by rw [q])); have h7 := tBeg_le s; have h6 := tEnd_le s
 have hV_q := hV
 refine h_region ([]) (by kernel_rfl) ?_
 intro w3 hE4 hC5
 have Q3 := hE4.size
 replace hV := Z0 hV hE4
 refine h_take (i := 0) rfl rfl rfl rfl (by kernel_rfl) (fun w' hC => run_mv (v := S _) rfl rfl) hC5 ?_
 refine h_take (i := 1) rfl rfl rfl rfl (by kernel_rfl) (fun w' hC => run_mv (v := .int _ _) rfl rfl) hC5 ?_
 refine h_take (i := 2) rfl rfl rfl rfl (by kernel_rfl) (fun w' hC => by exact run_slS (0) ((trF s)) rfl Tryz.underlying9 rfl lo0 (at1 rfl (by first | exact rfl | omega)) (by first | omega | (simp; omega)) (by first | omega | (simp; omega))) hC5 ?_
 refine h_take (i := 3) rfl rfl rfl rfl (by kernel_rfl) (fun w' hC => run_mv (v := S _) rfl rfl) hC5 ?_
 refine h_take (i := 4) rfl rfl rfl rfl (by kernel_rfl) (fun w' hC => run_mv (v := .int _ _) rfl rfl) hC5 ?_
 refine h_take (i := 5) rfl rfl rfl rfl (by kernel_rfl) (fun w' hC => by exact run_slS ((tEnd s)) (_) rfl Tryz.underlying9 rfl (at1 rfl (by first | exact rfl | omega)) hi0 (by first | omega | (simp; omega)) (by first | omega | (simp; omega))) hC5 ?_
 refine h_take (i := 6) rfl rfl rfl rfl (by kernel_rfl) (fun w' hC => run_asg (v := S _) rfl rfl) hC5 ?_
 refine h_take (i := 7) rfl rfl rfl rfl (by kernel_rfl) (fun w' hC => run_asg (v := S _) rfl rfl) hC5 ?_
 refine h_done (by kernel_rfl) ?_
 refine r_ret (res2 (v := S _) (u := S _) rfl rfl rfl) ?_
 exact ⟨by rw [cut_hi, h8]; rfl, hV⟩
theorem last_calls {s : Str} {w0 : World} (hs : s.length ≤ 140737488355328) :
    Calls Tryz.prog 111 #[S s] w0 fun e w' => e = .returned (S (signL s)) ∧ Evo w0 w' [] := by
 refine calls_enter (n := 25) Tryz.func111 rfl Tryz.ntmps111 rfl ?_
 have hV : Evo w0 w0 [] := Evo.refl _ _
 refine Zs ?_
 refine Zn rfl (asT rfl) ?_
 refine Zs ?_
 refine Zo rfl (mvT rfl) ?_
 refine r_opcall rfl rfl rfl (run_callf (vs := [S _]) rfl (by exact rfl) Tryz.func153 rfl (by kernel_rfl)) (trim_calls (by omega)) ?_
 rintro e w1 ⟨rfl, hE1⟩
 refine ⟨_, rfl, ?_⟩
 have Q1 := hE1.size
 replace hV := Z0 hV hE1
 refine Zo rfl (mvU rfl) ?_
 refine Zo rfl (run_extract (v := .int _ _) rfl rfl rfl) ?_
 refine Zo rfl (run_extract (v := .int _ _) rfl rfl rfl) ?_
 refine Zo rfl (asI rfl) ?_
 refine Zn rfl (asI rfl) ?_
 refine r_seq ?_
 refine r_seq ?_
 have h6 := tEnd_le s
 refine r_region ?_
 refine Zo rfl (mvI rfl) ?_
 refine Zo rfl (run_gtr rfl rfl rfl) ?_
 refine Zo rfl (mvB rfl) ?_
 refine r_g rfl (wantT rfl) rfl (fun hg => run_mv (v := S _) rfl rfl) ?_
 refine r_g rfl (wantT rfl) rfl (fun hg => run_mv (v := .int _ _) rfl rfl) ?_
 refine r_g rfl (wantT rfl) rfl (fun hg => run_sub rfl (glv rfl (fun h => h) hg) rfl (by omega) (by omega)) ?_
 refine r_g rfl (wantT rfl) rfl (fun hg => run_ixS ((tEnd s - 1)) rfl Tryz.underlying9 (glv rfl (fun h => h) hg) (glv rfl (fun h => h) hg) (by omega) (by omega)) ?_
 refine r_gcall rfl (wantT rfl) rfl (fun hg => run_callf rfl (argcons (v := .int _ _) (glv rfl (fun h => h) hg) (rfl)) Tryz.func143 rfl (by kernel_rfl)) (fun hg => (of_calls ).mono (fun e w' h => ⟨h.1, h.2⟩)) (fun w2 hE3 => ?_)
 have Q2 := hE3.size
 replace hV := Z0 hV hE3
 refine r_g rfl (wantT rfl) rfl (fun hg => run_eql rfl (glv rfl (fun h => h) hg) rfl) ?_
 refine Zn rfl (run_pick_and rfl rfl (fun hq => glv rfl (fun h => h) hq) rfl) ?_
 refine r_cond rfl (fun hc4 => ?_) (fun hc4 => ?_)
 ·skip
  refine Zs ?_
  refine Zo rfl (mvT rfl) ?_
  refine Zo rfl (mvI rfl) ?_
  refine Zo rfl (run_sub rfl rfl rfl (by omega) (by omega)) ?_
  refine Zo rfl (mvI rfl) ?_
  refine Zo rfl (by exact run_slS ((tEnd s - 1)) ((tEnd s)) rfl Tryz.underlying9 rfl (at1 rfl (by omega)) (at1 rfl (by omega)) (by first | omega | (simp; omega)) (by first | omega | (simp; omega))) ?_
  refine Zn rfl (asT rfl) ?_
  refine r_ret (res1 (v := S _) rfl rfl) ?_
  exact ⟨by rw [← sign_yes (by omega) hc4.2, List.drop_take], hV⟩
 refine r_skip ?_
 refine Zs ?_
 refine Zn rfl (asT rfl) ?_
 refine r_ret (res1 (v := S _) rfl rfl) ?_
 exact ⟨by rw [sign_no (by by_cases q : tEnd s = 0; exact .inl q; exact .inr (fun h => hc4 ⟨by omega, h⟩))], hV⟩
end Go.Proofs.YtlfjocbnbceceaaGreatDoor
namespace Go.Proofs
open Go.Shelf
def Tryz.laysM171_ren : Go.Shelf.Ren := ⟨fun | 171 => 152 | 243 => 186 | 246 => 207 | 283 => 221 | 284 => 222 | 285 => 223 | 286 => 224 | 129 => 123 | 317 => 235 | 318 => 236 | 319 => 237 | 320 => 238 | 337 => 251 | 338 => 252 | n => n, fun | 3 => 3 | 9 => 9 | 2 => 2 | 4 => 4 | 171 => 224 | 0 => 0 | 53 => 153 | 37 => 123 | 5 => 5 | 173 => 226 | 212 => 233 | 51 => 151 | 20 => 20 | 213 => 234 | 46 => 105 | 232 => 249 | 233 => 250 | n => n, fun | 17 => 1 | 18 => 4 | 19 => 5 | n => n⟩
theorem Tryz.laysM171 : Go.Proofs.LaysM.n171 Tryz.prog Tryz.laysM171_ren := {
  mixed := by kernel_rfl
  f129 := Tryz.func123.trans (congrArg some (by kernel_rfl))
  f171 := Tryz.func152.trans (congrArg some (by kernel_rfl))
  f243 := Tryz.func186.trans (congrArg some (by kernel_rfl))
  f246 := Tryz.func207.trans (congrArg some (by kernel_rfl))
  f283 := Tryz.func221.trans (congrArg some (by kernel_rfl))
  f284 := Tryz.func222.trans (congrArg some (by kernel_rfl))
  f285 := Tryz.func223.trans (congrArg some (by kernel_rfl))
  f286 := Tryz.func224.trans (congrArg some (by kernel_rfl))
  f317 := Tryz.func235.trans (congrArg some (by kernel_rfl))
  f318 := Tryz.func236.trans (congrArg some (by kernel_rfl))
  f319 := Tryz.func237.trans (congrArg some (by kernel_rfl))
  f320 := Tryz.func238.trans (congrArg some (by kernel_rfl))
  f337 := Tryz.func251.trans (congrArg some (by kernel_rfl))
  f338 := Tryz.func252.trans (congrArg some (by kernel_rfl))
  t0 := Tryz.underlying0
  a0 := Tryz.isAgg0
  z0 := Tryz.sizeOf0
  v0 := Tryz.zeroValue0
  t2 := Tryz.underlying2
  a2 := Tryz.isAgg2
  z2 := Tryz.sizeOf2
  v2 := Tryz.zeroValue2
  t3 := Tryz.underlying3
  a3 := Tryz.isAgg3
  z3 := Tryz.sizeOf3
  v3 := Tryz.zeroValue3
  t4 := Tryz.underlying4
  a4 := Tryz.isAgg4
  z4 := Tryz.sizeOf4
  v4 := Tryz.zeroValue4
  t5 := Tryz.underlying5
  a5 := Tryz.isAgg5
  z5 := Tryz.sizeOf5
  v5 := Tryz.zeroValue5
  t9 := Tryz.underlying9
  a9 := Tryz.isAgg9
  z9 := Tryz.sizeOf9
  v9 := Tryz.zeroValue9
  t20 := Tryz.underlying20
  a20 := Tryz.isAgg20
  z20 := Tryz.sizeOf20
  v20 := Tryz.zeroValue20
  t37 := Tryz.underlying123
  a37 := Tryz.isAgg123
  z37 := Tryz.sizeOf123
  v37 := Tryz.zeroValue123
  t46 := Tryz.underlying105
  a46 := Tryz.isAgg105
  z46 := Tryz.sizeOf105
  v46 := Tryz.zeroValue105
  t51 := Tryz.underlying151
  a51 := Tryz.isAgg151
  z51 := Tryz.sizeOf151
  v51 := Tryz.zeroValue151
  t53 := Tryz.underlying153
  a53 := Tryz.isAgg153
  z53 := Tryz.sizeOf153
  v53 := Tryz.zeroValue153
  t171 := Tryz.underlying224
  a171 := Tryz.isAgg224
  z171 := Tryz.sizeOf224
  v171 := Tryz.zeroValue224
  t173 := Tryz.underlying226
  a173 := Tryz.isAgg226
  z173 := Tryz.sizeOf226
  v173 := Tryz.zeroValue226
  t212 := Tryz.underlying233
  a212 := Tryz.isAgg233
  z212 := Tryz.sizeOf233
  v212 := Tryz.zeroValue233
  t213 := Tryz.underlying234
  a213 := Tryz.isAgg234
  z213 := Tryz.sizeOf234
  t232 := Tryz.underlying249
  a232 := Tryz.isAgg249
  z232 := Tryz.sizeOf249
  v232 := Tryz.zeroValue249
  t233 := Tryz.underlying250
  a233 := Tryz.isAgg250
  z233 := Tryz.sizeOf250
  v233 := Tryz.zeroValue250
  g17 := by kernel_rfl
  g18 := by kernel_rfl
  g19 := by kernel_rfl
  i0 := by kernel_rfl
  i2 := by kernel_rfl
  i3 := by kernel_rfl
  i4 := by kernel_rfl
  i5 := by kernel_rfl
  i9 := by kernel_rfl
  i20 := by kernel_rfl
  i37 := by kernel_rfl
  i46 := by kernel_rfl
  i51 := by kernel_rfl
  i53 := by kernel_rfl
  i171 := by kernel_rfl
  i173 := by kernel_rfl
  i212 := by kernel_rfl
  i232 := by kernel_rfl
  i233 := by kernel_rfl
  m17 := by kernel_rfl
  m18 := by kernel_rfl
  m19 := by kernel_rfl }
open Go.RowKit Go.Sort Go.Lib in
theorem Tryz.strconv_Itoa (n : Int) (h0 : -9223372036854775808 ≤ n) (h1 : n ≤ 9223372036854775807) (w : World) (htab : Lib.TabIs Tryz.prog w "internal/strconv.uint64pow10" .u64 Lib.pow10Tab) :
    Calls Tryz.prog 152 #[.int .i64 n] w fun e w' => e = .returned (.string ⟨(Lib.itoa n).toArray⟩) ∧ ∃ k os, w' = grow (w.drewN k) os := Any.strconv_Itoa Tryz.laysM171 n h0 h1 w htab
end Go.Proofs
namespace Go.Vc
open Go Go.RowKit Go.IntWalk Go.Sort
theorem evo_grow (w : World) (os : Array Obj) : Evo w (grow w os) [] := by
  refine ⟨rfl, rfl, rfl, ?_, fun b hb _ => ?_⟩
  · simp [grow]
  · simp [grow, Array.getElem?_append, hb]
end Go.Vc
namespace Go.Proofs.YtlfjocbnbceceaaGreatDoor
open Go Go.RowKit Go.Vc
theorem decW_dig (n : Nat) : ∀ s : Str, decW n s = Go.Lib.decDigits n ++ s := by
  induction n using Nat.strongRecOn with
  | _ n ih =>
    intro s
    by_cases h : n / 10 = 0
    · rw [decW_stop s h]
      unfold Go.Lib.decDigits
      rw [dif_pos (by omega), show n % 10 = n by omega]; rfl
    · rw [decW_go s h, ih (n / 10) (by omega)]
      conv => rhs; unfold Go.Lib.decDigits
      rw [dif_neg (by omega), List.append_assoc]; rfl
theorem decD_eq (n : Nat) : Go.Lib.decDigits n = decW n [] := by rw [decW_dig, List.append_nil]
theorem itoa_decI (n : Int) : Go.Lib.itoa n = decI n := by
  unfold Go.Lib.itoa decI
  by_cases h : n < 0
  · rw [if_pos h, if_neg (by omega), decD_eq, show n.natAbs = (-n).toNat by omega]
  · rw [if_neg h, if_pos (by omega), decD_eq]
theorem numbers_calls {ao : Option Addr} {b off cap : Nat} {l : List Vc.Item} {w0 : World} (hl : RowE w0 ao b off cap l) (hz : l.length ≤ 1000000) :
    Calls Tryz.prog 108 #[.slice ao l.length cap] w0 fun e w' => ∃ v, e = .returned v ∧ Evo w0 w' [] ∧ OwnE w' w0.heap.size 9 v (numT l) := by
 refine calls_enter (n := 22) Tryz.func108 rfl Tryz.ntmps108 rfl ?_
 have hV : Evo w0 w0 [] := Evo.refl _ _
 have hl0 := keepE hl
 have hbd_hl := hl.bd
 refine Zs ?_
 refine Zn rfl (asS rfl) ?_
 refine Zs ?_
 refine Zn rfl (asS rfl) ?_
 refine r_seq ?_
 refine Zs ?_
 refine Zo rfl (mvS rfl) ?_
 refine Zo rfl (run_lenSl rfl rfl Tryz.underlying94) ?_
 refine Zn rfl (mvI rfl) ?_
 refine r_block ?_
 refine r_loop (α := Nat) [3, 5, 8, 9, 10, 11, 12, 13, 14, 15, 16, 17, 18, 19, 20] (fun k g w => ∃ vo : Value, g 8 = .int .i64 (k : Nat) ∧ g 3 = vo ∧ k ≤ l.length ∧ OwnE w w0.heap.size 9 vo (numT (l.take k)) ∧ w0.heap.size ≤ w.heap.size ∧ Evo w0 w []) (fun k => l.length - k) 0 ?_ ?_
 ·refine ⟨_, (by first | exact rfl | exact congrArg (Value.int _) (by omega) | exact congrArg (Value.int _) (by dsimp only; omega) | exact congrArg (Value.int _) (by simp) | exact congrArg S (by simp)), rfl, (by first | assumption | omega | (dsimp only; omega) | (simp; done)), (OwnE.nil _ _ _), (by first | assumption | omega | (dsimp only; omega) | (simp; done)), hV⟩
 rintro k g w2 ⟨vo, hj3, hj4, hk_k, hoo, hzl1, hV⟩
 have hs_w2hV := hV.size
 replace hl := hl0 _ hV
 refine Zk 8 (v := .int .i64 (k : Nat)) (by exact hj3) ?_
 refine Zk 3 (v := vo) (by exact hj4) ?_
 refine Zs ?_
 refine Zn rfl (run_lss rfl rfl rfl) ?_
 refine r_seq ?_
 refine r_cond rfl (fun hc5 => ?_) (fun hc5 => ?_)
 ·skip
  refine r_skip ?_
  refine r_seq ?_
  refine r_block ?_
  refine r_seq ?_
  have hnl := numT_len (l.take k); have hnk : (l.take k).length ≤ k := List.length_take_le _ _
  refine r_region ?_
  refine Zo rfl (run_ix (k) rfl Tryz.underlying94 ty_96 rfl rfl (by first | exact rfl | omega) (by omega) (hl.addr (i := k) (by omega))) ?_
  have hA60 := fun (w' : World) (h : Evo w0 w' []) => (hl0 w' h).atD (k) (by omega)
  have hA6 := hA60 _ hV
  refine Zo rfl (run_ldN rfl ag_96 ty_96 rfl rfl hA6) ?_
  have hob7 := fun g hg => (hoo.block (g := g) hg).2
  refine r_var (zs := [_, _, _]) (vs := [_, _, _]) ty_96 rfl rfl rfl (fun _ => rfl) rfl rfl rfl rfl ?_
  intro b8 w9 J8 E9 B8 Y8
  have Q9 := E9.size
  replace hV := Z0 hV E9
  replace hl := hl0 _ hV
  replace hoo := hoo.evo0 E9
  refine r_nil ?_
  refine Zs ?_
  refine Zo rfl (run_fa rfl rfl fo_96_0) ?_
  refine Zo rfl (run_ld1 rfl ag_3 rfl (B8.at.cell 0 rfl)) ?_
  refine Zn rfl (run_eql rfl rfl rfl) ?_
  refine r_cond rfl (fun hc10 => ?_) (fun hc10 => ?_)
  ·skip
   refine r_region ?_
   refine Zo rfl (run_mv (v := vo) rfl rfl) ?_
   refine Zo rfl (run_fa rfl rfl fo_96_1) ?_
   refine Zo rfl (run_ld1 rfl ag_9 rfl (B8.at.cell 1 rfl)) ?_
   refine r_append1E (u := S _) (y := _) rfl rfl Tryz.underlying77 ty_9 rfl hoo (fun _ => rfl) rfl (by first | exact rfl | (show _ = List.toArray [_]; first | (dsimp only; done) | exact rfl | (dsimp only; exact rfl))) ((by omega)) ((by omega)) (by omega) ?_
   intro q_v11 v11 w12 E12 hov11 hlv11
   have Q12 := E12.size
   replace hV := evo_stepo hV E12 (fun g hg => .inl (by first | exact (hoo.block hg).1 | (have := hoo.block hg; omega)))
   replace hl := hl0 _ hV
   refine Zn rfl (run_asg (v := v11) rfl rfl) ?_
   refine r_blk ?_
   refine r_region ?_
   refine Zo rfl (run_add rfl rfl rfl (by omega) (by omega)) ?_
   refine Zn rfl (mvI rfl) ?_
   refine r_again (k + 1) ?_ ?_ ?_
   ·first | omega | (dsimp only; omega)
   ·refine ⟨_, (by first | exact rfl | exact congrArg (Value.int _) (by omega) | exact congrArg (Value.int _) (by dsimp only; omega) | exact congrArg (Value.int _) (by simp) | exact congrArg S (by simp)), rfl, (by first | assumption | omega | (dsimp only; omega) | (simp; done)), (by first | (rw [numT_yes (by omega) hc10]; exact hov11) | (rw [numT_no (by omega) hc10]; exact hov11)), (by first | assumption | omega | (dsimp only; omega) | (simp; done)), hV⟩
   repeat (first | (with_reducible exact Agree.merge _ _ _) | (with_reducible exact Agree.refl _ _) | (with_reducible refine Agree.upd ?_ _ _ rfl) | ((with_reducible refine Agree.inner ?_ ?_); (kernel_rfl)))
  refine r_skip ?_
  refine r_blk ?_
  refine r_region ?_
  refine Zo rfl (run_add rfl rfl rfl (by omega) (by omega)) ?_
  refine Zn rfl (mvI rfl) ?_
  refine r_again (k + 1) ?_ ?_ ?_
  ·first | omega | (dsimp only; omega)
  ·refine ⟨_, (by first | exact rfl | exact congrArg (Value.int _) (by omega) | exact congrArg (Value.int _) (by dsimp only; omega) | exact congrArg (Value.int _) (by simp) | exact congrArg S (by simp)), rfl, (by first | assumption | omega | (dsimp only; omega) | (simp; done)), (by first | (rw [numT_yes (by omega) hc10]; exact hoo) | (rw [numT_no (by omega) hc10]; exact hoo)), (by first | assumption | omega | (dsimp only; omega) | (simp; done)), hV⟩
  repeat (first | (with_reducible exact Agree.merge _ _ _) | (with_reducible exact Agree.refl _ _) | (with_reducible refine Agree.upd ?_ _ _ rfl) | ((with_reducible refine Agree.inner ?_ ?_); (kernel_rfl)))
 refine r_exit rfl ?_
 refine Zs ?_
 refine Zo rfl (run_mv (v := vo) rfl rfl) ?_
 refine Zn rfl (run_asg (v := vo) rfl rfl) ?_
 refine r_ret (res1 (v := vo) rfl rfl) ?_
 exact ⟨_, rfl, hV, by rw [List.take_of_length_le (by omega)] at hoo; exact hoo⟩
theorem isw_calls {x : Vc.Item} {w0 : World}  :
    Calls Tryz.prog 60 #[(.agg (Enc.enc x).toArray)] w0 fun e w' => e = .returned (.bool (decide (x.kind = 6))) ∧ Evo w0 w' [] := by
 refine calls_enter (n := 6) Tryz.func60 rfl Tryz.ntmps60 rfl ?_
 have hV : Evo w0 w0 [] := Evo.refl _ _
 refine Zs ?_
 refine r_box (vs := [_, _, _]) rfl rfl rfl ?_
 intro b1 w2 J1 E2 B1 Y1
 have Q2 := E2.size
 replace hV := Z0 hV E2
 refine Zn rfl (asB rfl) ?_
 refine Zs ?_
 refine Zo rfl (run_fa rfl rfl fo_96_0) ?_
 refine Zo rfl (run_ld1 rfl ag_3 rfl (B1.at.cell 0 rfl)) ?_
 refine Zo rfl (run_eql rfl rfl rfl) ?_
 refine Zn rfl (asB rfl) ?_
 refine r_ret (res1 (v := .bool _) rfl rfl) ?_
 exact ⟨rfl, hV⟩
theorem ixw_calls {ao : Option Addr} {b off cap : Nat} {l : List Vc.Item} {w0 : World} (hl : RowE w0 ao b off cap l) :
    Calls Tryz.prog 104 #[.slice ao l.length cap, .func (.func 60) #[] #[]] w0 fun e w' => ∃ r : Int, e = .returned (.int .i64 r) ∧ Evo w0 w' [] ∧ (0 ≤ r ↔ wordB l = true) := by
 refine calls_enter (n := 19) Tryz.func104 rfl Tryz.ntmps104 rfl ?_
 have hV : Evo w0 w0 [] := Evo.refl _ _
 have hl0 := keepE hl
 have hbd_hl := hl.bd
 refine Zs ?_
 refine Zn rfl (asI rfl) ?_
 refine r_seq ?_
 refine Zs ?_
 refine Zo rfl (mvS rfl) ?_
 refine Zo rfl (run_lenSl rfl rfl Tryz.underlying94) ?_
 refine Zn rfl (mvI rfl) ?_
 refine r_block ?_
 refine r_loop (α := Nat) [4, 5, 8, 9, 10, 11, 12, 13, 14, 15, 16, 17, 18] (fun k g w => g 8 = .int .i64 (k : Nat) ∧ k ≤ l.length ∧ (∀ j, j < k → ¬ (l.getD j default).kind = 6) ∧ w0.heap.size ≤ w.heap.size ∧ Evo w0 w []) (fun k => l.length - k) 0 ?_ ?_
 ·refine ⟨(by first | exact rfl | exact congrArg (Value.int _) (by omega) | exact congrArg (Value.int _) (by dsimp only; omega) | exact congrArg (Value.int _) (by simp) | exact congrArg S (by simp)), (by first | assumption | omega | (dsimp only; omega) | (simp; done)), (fun j h => by omega), (by first | assumption | omega | (dsimp only; omega) | (simp; done)), hV⟩
 rintro k g w2 ⟨hj3, hk_k, hno, hzl1, hV⟩
 have hs_w2hV := hV.size
 replace hl := hl0 _ hV
 refine Zk 8 (v := .int .i64 (k : Nat)) (by exact hj3) ?_
 refine Zs ?_
 refine Zn rfl (run_lss rfl rfl rfl) ?_
 refine r_seq ?_
 refine r_cond rfl (fun hc4 => ?_) (fun hc4 => ?_)
 ·skip
  refine r_skip ?_
  refine r_seq ?_
  refine r_block ?_
  refine Zs ?_
  refine Zo rfl (mvI rfl) ?_
  refine Zn rfl (asI rfl) ?_
  refine Zs ?_
  refine Zo rfl (run_mv (v := .func _ _ _) rfl rfl) ?_
  refine Zo rfl (mvS rfl) ?_
  refine Zo rfl (mvI rfl) ?_
  refine Zo rfl (run_ix (k) rfl Tryz.underlying94 ty_96 rfl rfl (by first | exact rfl | omega) (by omega) (hl.addr (i := k) (by omega))) ?_
  have hA50 := fun (w' : World) (h : Evo w0 w' []) => (hl0 w' h).atD (k) (by omega)
  have hA5 := hA50 _ hV
  refine Zo rfl (run_ldN rfl ag_96 ty_96 rfl rfl hA5) ?_
  refine r_opcall rfl rfl rfl (run_callfn (vs := [.agg _]) (cs := []) rfl (by exact rfl) rfl Tryz.func60 rfl (by kernel_rfl)) (isw_calls ) ?_
  rintro e w6 ⟨rfl, hE6⟩
  refine ⟨_, rfl, ?_⟩
  have Q6 := hE6.size
  replace hV := Z0 hV hE6
  replace hl := hl0 _ hV
  refine r_nil ?_
  refine r_cond rfl (fun hc7 => ?_) (fun hc7 => ?_)
  ·skip
   refine Zs ?_
   refine Zo rfl (mvI rfl) ?_
   refine Zn rfl (asI rfl) ?_
   refine r_ret (res1 (v := .int _ _) rfl rfl) ?_
   exact ⟨_, rfl, hV, ⟨fun _ => wordB_yes (l := l) (by omega) hc7, fun _ => by omega⟩⟩
  refine r_skip ?_
  refine r_blk ?_
  refine r_region ?_
  refine Zo rfl (run_add rfl rfl rfl (by omega) (by omega)) ?_
  refine Zn rfl (mvI rfl) ?_
  refine r_again (k + 1) ?_ ?_ ?_
  ·first | omega | (dsimp only; omega)
  ·refine ⟨(by first | exact rfl | exact congrArg (Value.int _) (by omega) | exact congrArg (Value.int _) (by dsimp only; omega) | exact congrArg (Value.int _) (by simp) | exact congrArg S (by simp)), (by first | assumption | omega | (dsimp only; omega) | (simp; done)), (upto0 hno hc7), (by first | assumption | omega | (dsimp only; omega) | (simp; done)), hV⟩
  repeat (first | (with_reducible exact Agree.merge _ _ _) | (with_reducible exact Agree.refl _ _) | (with_reducible refine Agree.upd ?_ _ _ rfl) | ((with_reducible refine Agree.inner ?_ ?_); (kernel_rfl)))
 refine r_exit rfl ?_
 refine Zs ?_
 refine Zn rfl (asI rfl) ?_
 refine r_ret (res1 (v := .int _ _) rfl rfl) ?_
 exact ⟨_, rfl, hV, ⟨fun h9 => absurd h9 (by omega), fun h9 => absurd h9 (by rw [show wordB l = false from wordB_no (fun j hj => hno j (by omega))]; decide)⟩⟩
theorem ctw_calls {ao : Option Addr} {b off cap : Nat} {l : List Vc.Item} {w0 : World} (hl : RowE w0 ao b off cap l) :
    Calls Tryz.prog 62 #[.slice ao l.length cap, .func (.func 60) #[] #[]] w0 fun e w' => e = .returned (.bool (wordB l)) ∧ Evo w0 w' [] := by
 refine calls_enter (n := 9) Tryz.func62 rfl Tryz.ntmps62 rfl ?_
 have hV : Evo w0 w0 [] := Evo.refl _ _
 have hl0 := keepE hl
 have hbd_hl := hl.bd
 refine Zs ?_
 refine Zn rfl (asB rfl) ?_
 refine Zs ?_
 refine Zo rfl (mvS rfl) ?_
 refine Zo rfl (run_mv (v := .func _ _ _) rfl rfl) ?_
 refine r_opcall rfl rfl rfl (run_callf (vs := [.slice _ _ _, .func _ _ _]) rfl (by exact rfl) Tryz.func104 rfl (by kernel_rfl)) (ixw_calls hl) ?_
 rintro e w1 ⟨r1, rfl, hE1, hri1⟩
 refine ⟨_, rfl, ?_⟩
 have Q1 := hE1.size
 replace hV := Z0 hV hE1
 replace hl := hl0 _ hV
 refine Zo rfl (run_geq rfl rfl rfl) ?_
 refine Zn rfl (asB rfl) ?_
 refine r_ret (res1 (v := .bool _) rfl rfl) ?_
 exact ⟨ret_bool (by have h9 := hri1; cases h8 : wordB l <;> simp_all), hV⟩
def Tab (w : World) : Prop := Go.Lib.TabIs Tryz.prog w "internal/strconv.uint64pow10" .u64 Go.Lib.pow10Tab
theorem Tab.evo0 {w w' : World} (h : Tab w) (he : Evo w w' []) : Tab w' := by
  unfold Tab Go.Lib.TabIs World.var? at *
  cases hg : Tryz.prog.globalNamed "internal/strconv.uint64pow10" with
  | none => rw [hg] at h; cases h
  | some q =>
    rw [hg] at h
    have h1 : q < w.heap.size := by
      rcases Nat.lt_or_ge q w.heap.size with h2 | h2
      · exact h2
      · simp only [Option.bind_some] at h; rw [Array.getElem?_eq_none h2] at h; cases h
    simp only [Option.bind_some] at *
    rw [he.same q h1 (by simp)]; exact h
theorem itoa_calls {w : World} {n : Int} (h : Tab w) (h0 : -9223372036854775808 ≤ n ∧ n ≤ 9223372036854775807) : Calls Tryz.prog 152 #[.int .i64 n] w fun e w' => e = .returned (S (decI n)) ∧ Evo w w' [] :=
  (Tryz.strconv_Itoa n h0.1 h0.2 w h).mono fun e w' ⟨h1, k, os, h2⟩ => ⟨by rw [h1, itoa_decI]; rfl, by subst h2; exact Evo.trans (Evo.drewN w k []) (evo_grow _ _) (by simp)⟩
theorem ag_39 : aggP Tryz.prog 39 = some true := by kernel_rfl
theorem fo_39_0 : fieldP Tryz.prog 39 0 = some 0 := by kernel_rfl
theorem fo_39_1 : fieldP Tryz.prog 39 1 = some 1 := by kernel_rfl
theorem fo_39_2 : fieldP Tryz.prog 39 2 = some 2 := by kernel_rfl
theorem ty_39 : tyP Tryz.prog 39 = some (3, 32, some (.agg #[(.int .i64 0), (.string ⟨#[]⟩), (.int .i64 0)])) := by kernel_rfl
def InR (x : Vc.Item) : Prop := -9223372036854775808 ≤ x.id ∧ x.id ≤ 9223372036854775807
theorem decI_len {n : Int} (h : -9223372036854775808 ≤ n ∧ n ≤ 9223372036854775807) : (decI n).length ≤ 21 := by
  unfold decI; split
  · have := decW_len 18 n.toNat [] (by omega); simp at this; omega
  · have := decW_len 18 (-n).toNat [] (by omega); simp at this ⊢; omega
theorem tag_calls {x : Vc.Item} {w0 : World} (htab : Tab w0) (ht : x.text.length ≤ 100000) (hi : InR x) :
    Calls Tryz.prog 107 #[(.agg (Enc.enc x).toArray)] w0 fun e w' => e = .returned (S (writ x)) ∧ Evo w0 w' [] := by
 have hdl := decI_len hi
 refine calls_enter (n := 26) Tryz.func107 rfl Tryz.ntmps107 rfl ?_
 have hV : Evo w0 w0 [] := Evo.refl _ _
 refine Zs ?_
 refine r_box (vs := [_, _, _]) rfl rfl rfl ?_
 intro b1 w2 J1 E2 B1 Y1
 have Q2 := E2.size
 replace hV := Z0 hV E2
 refine Zn rfl (asT rfl) ?_
 refine r_seq ?_
 refine r_qregion (by kernel_rfl) (by kernel_rfl) ?_
 refine q_op rfl rfl rfl (fun w' hC => run_fa rfl rfl fo_32_2) ?_
 refine q_op rfl rfl rfl (fun w' hC => run_ld1 rfl ag_3 rfl ((B1.at.evo0 hC).cell 2 rfl)) ?_
 refine q_call rfl rfl rfl (fun w' hC => run_callf rfl (argcons (v := .int _ _) rfl (rfl)) Tryz.func152 rfl (by kernel_rfl)) (fun w' hC => (itoa_calls ((htab.evo0 hV).evo0 hC) hi).mono (fun e w'' h => ⟨h.1, evo_step0 hC h.2⟩)) ?_
 refine q_op rfl rfl rfl (fun w' hC => run_sadd rfl rfl rfl (by first | omega | (simp; done) | (simp; omega))) ?_
 refine q_op rfl rfl rfl (fun w' hC => run_fa rfl rfl fo_32_1) ?_
 refine q_op rfl rfl rfl (fun w' hC => run_ld1 rfl ag_9 rfl ((B1.at.evo0 hC).cell 1 rfl)) ?_
 refine q_op rfl rfl rfl (fun w' hC => run_sadd rfl rfl rfl (by first | omega | (simp; done) | (simp; omega))) ?_
 refine Zq rfl (fun _ _ => asT rfl) ?_
 refine q_nil (fun w3 hE4 => ?_)
 have Q3 := hE4.size
 replace hV := Z0 hV hE4
 replace B1 := B1.evo0 hE4
 refine r_seq ?_
 refine Zs ?_
 refine Zo rfl (run_fa rfl rfl fo_32_0) ?_
 refine Zn rfl (run_ld1 rfl ag_3 rfl (B1.at.cell 0 rfl)) ?_
 refine r_block ?_
 refine Zs ?_
 refine Zo rfl (run_eql rfl rfl rfl) ?_
 refine Zn rfl (asB rfl) ?_
 refine r_cond rfl (fun hc5 => ?_) (fun hc5 => ?_)
 ·skip
  refine Zs ?_
  refine Zo rfl (mvT rfl) ?_
  refine Zo rfl (run_sadd rfl rfl rfl (by first | omega | (simp; done) | (simp; omega))) ?_
  refine Zo rfl (run_sadd rfl rfl rfl (by first | omega | (simp; done) | (simp; omega))) ?_
  refine Zn rfl (asT rfl) ?_
  refine r_ret (res1 (v := S _) rfl rfl) ?_
  exact ⟨ret_str (by unfold writ; rw [if_pos hc5]; rfl), hV⟩
 refine Zs ?_
 refine Zo rfl (run_eql rfl rfl rfl) ?_
 refine Zn rfl (asB rfl) ?_
 refine r_cond rfl (fun hc6 => ?_) (fun hc6 => ?_)
 ·skip
  refine Zs ?_
  refine Zo rfl (mvT rfl) ?_
  refine Zo rfl (run_sadd rfl rfl rfl (by first | omega | (simp; done) | (simp; omega))) ?_
  refine Zo rfl (run_sadd rfl rfl rfl (by first | omega | (simp; done) | (simp; omega))) ?_
  refine Zn rfl (asT rfl) ?_
  refine r_ret (res1 (v := S _) rfl rfl) ?_
  exact ⟨ret_str (by unfold writ; rw [if_neg hc5, if_pos hc6]; rfl), hV⟩
 refine r_skip ?_
 refine r_blk ?_
 refine Zs ?_
 refine Zo rfl (mvT rfl) ?_
 refine Zo rfl (run_sadd rfl rfl rfl (by first | omega | (simp; done) | (simp; omega))) ?_
 refine Zo rfl (run_sadd rfl rfl rfl (by first | omega | (simp; done) | (simp; omega))) ?_
 refine Zn rfl (asT rfl) ?_
 refine r_ret (res1 (v := S _) rfl rfl) ?_
 exact ⟨ret_str (by unfold writ; rw [if_neg hc5, if_neg hc6]; rfl), hV⟩
theorem fold_addS_len : ∀ (l o : List Str), (l.foldl addS o).length ≤ o.length + l.length
  | [], o => by simp
  | x :: l, o => by
    have h1 := fold_addS_len l (addS o x)
    have h2 := addS_len o x
    rw [List.foldl_cons, List.length_cons]; omega
theorem uniS_len (a b : List Str) : (uniS a b).length ≤ a.length + b.length := by
  have := fold_addS_len (a ++ b) []
  unfold uniS; rw [List.length_append] at this; simpa using this
theorem difS_len (k : Int) (a b : List Str) : (difS k a b).length ≤ a.length + b.length := Nat.le_trans (difs_len _ _ _ _) (uniS_len a b)
section
variable {α : Type} [DecidableEq α] [Inhabited α]
end
theorem dist_len {α : Type} [DecidableEq α] (l : List α) : (dist l).length ≤ l.length := by
  have h : ∀ (l o : List α), (l.foldl (fun acc x => if x ∈ acc then acc else acc ++ [x]) o).length ≤ o.length + l.length := by
    intro l
    induction l with
    | nil => intro o; simp
    | cons x l ih =>
      intro o
      rw [List.foldl_cons, List.length_cons]
      refine Nat.le_trans (ih _) ?_
      split
      · omega
      · rw [List.length_append, List.length_singleton]; omega
  have := h l []
  simpa [dist] using this
theorem mul_bd {a b : Int} (h0 : 0 ≤ a) (h1 : a ≤ 10000) (h2 : 0 ≤ b) (h3 : b ≤ 101000) : 0 ≤ a * b ∧ a * b ≤ 1010000000 :=
  ⟨Int.mul_nonneg h0 h2, Int.le_trans (Int.mul_le_mul h1 h3 h2 (by decide)) (by decide)⟩
theorem dblP_yes {t : Str} {k : Nat} (hk : k < t.length) (h : [32, 32] <+: t.drop k) : dblK t (k + 1) = dblK t k + 1 := by
  rw [dblK_succ, if_pos]
  obtain ⟨r, hr⟩ := h
  have e1 : t[k]? = some 32 := by have := congrArg (fun z => z[0]?) hr; simpa using this.symm
  have e2 : t[k + 1]? = some 32 := by have := congrArg (fun z => z[1]?) hr; simpa [List.getElem?_drop] using this.symm
  exact decide_eq_true ⟨by rw [List.getD_eq_getElem?_getD, e1]; rfl, by rw [List.getD_eq_getElem?_getD, e2]; rfl⟩
theorem dblP_no {t : Str} {k : Nat} (hk : k < t.length) (h : ¬ [32, 32] <+: t.drop k) : dblK t (k + 1) = dblK t k := by
  rw [dblK_succ, if_neg]
  · rfl
  · intro q
    have q := of_decide_eq_true q
    refine h ?_
    have h2 : k + 1 < t.length := by
      rcases Nat.lt_or_ge (k + 1) t.length with h3 | h3
      · exact h3
      · have := q.2; rw [List.getD_eq_getElem?_getD, List.getElem?_eq_none h3] at this; exact absurd this (by decide)
    have e1 : t[k] = 32 := by have := q.1; rwa [List.getD_eq_getElem?_getD, List.getElem?_eq_getElem hk] at this
    have e2 : t[k + 1] = 32 := by have := q.2; rwa [List.getD_eq_getElem?_getD, List.getElem?_eq_getElem h2] at this
    rw [List.drop_eq_getElem_cons hk, List.drop_eq_getElem_cons h2, e1, e2]
    exact ⟨_, rfl⟩
theorem pl_128 : placesP Tryz.prog 128 = some [(0, 1), (1, 1)] := by kernel_rfl
theorem ty_128 : tyP Tryz.prog 128 = some (2, 48, some (.agg #[(.slice none 0 0), (.slice none 0 0)])) := by kernel_rfl
theorem jud_two {x : TermL} (h : JudT x) {i k : Nat} (hi : i < 2) (hk : k < (([x.req, x.forb] : List (List Str)).getD i default).length) : ((([x.req, x.forb] : List (List Str)).getD i default).getD k default).length ≤ 1000000000 := by
  rcases (show i = 0 ∨ i = 1 by omega) with rfl | rfl
  · exact h.2.2.1 _ (getD_in hk)
  · exact h.2.2.2 _ (getD_in hk)
set_option maxHeartbeats 1000000 in
theorem checked_calls {aox : Option Addr} {bx offx capx : Nat} {aoq : Option Addr} {bq offq capq : Nat} {aof : Option Addr} {bf offf capf : Nat} {x : TermL} {ao : Option Addr} {b off cap : Nat} {c : List Clas} {w0 : World} (hw : RowE w0 aox bx offx capx x.words) (hq : RowE w0 aoq bq offq capq x.req) (hf : RowE w0 aof bf offf capf x.forb) (hc : RowR w0 ao b off cap c) :
    Calls Tryz.prog 54 #[.agg #[.slice aox x.words.length capx, .slice aoq x.req.length capq, .slice aof x.forb.length capf], .slice ao c.length cap] w0 fun e w' => e = .returned (.int .i64 (termE c x)) ∧ Evo w0 w' [] := by
 refine calls_enter (n := 75) Tryz.func54 rfl Tryz.ntmps54 rfl ?_
 have hV : Evo w0 w0 [] := Evo.refl _ _
 have hw0 := keepE hw
 have hbd_hw := hw.bd
 have hq0 := keepE hq
 have hbd_hq := hq.bd
 have hf0 := keepE hf
 have hbd_hf := hf.bd
 have hc0 := hc.keep
 have hbd_hc := hc.bd
 refine Zs ?_
 refine r_box (vs := [_, _, _]) rfl rfl rfl ?_
 intro b1 w2 J1 E2 B1 Y1
 have Q2 := E2.size
 replace hV := Z0 hV E2
 replace hw := hw0 _ hV
 replace hq := hq0 _ hV
 replace hf := hf0 _ hV
 replace hc := hc0.now hV
 have hAb1 := B1.at
 refine Zn rfl (asI rfl) ?_
 refine r_seq ?_
 refine Zs ?_
 refine Zo rfl (run_fa rfl rfl fo_85_0) ?_
 refine Zo rfl (run_ld1 rfl ag_83 rfl (hAb1.cell 0 rfl)) ?_
 refine Zo rfl (run_lenSl rfl rfl Tryz.underlying83) ?_
 refine Zo rfl (run_eql rfl rfl rfl) ?_
 refine Zo rfl (mvB rfl) ?_
 refine r_g rfl (wantF rfl) rfl (fun hg => run_fa rfl rfl fo_85_0) ?_
 refine r_g rfl (wantF rfl) rfl (fun hg => run_ld1 rfl ag_83 (glv rfl (fun h => h) hg) (hAb1.cell 0 rfl)) ?_
 refine r_g rfl (wantF rfl) rfl (fun hg => run_lenSl rfl (glv rfl (fun h => h) hg) Tryz.underlying83) ?_
 refine r_g rfl (wantF rfl) rfl (fun hg => run_gtr rfl (glv rfl (fun h => h) hg) rfl) ?_
 refine Zo rfl (run_pick_or rfl rfl rfl (fun hq => glv rfl (fun h => h) hq)) ?_
 refine Zo rfl (mvB rfl) ?_
 refine r_g rfl (wantF rfl) rfl (fun hg => run_fa rfl rfl fo_85_1) ?_
 refine r_g rfl (wantF rfl) rfl (fun hg => run_ld1 rfl ag_77 (glv rfl (fun h => h) hg) (hAb1.cell 1 rfl)) ?_
 refine r_g rfl (wantF rfl) rfl (fun hg => run_lenSl rfl (glv rfl (fun h => h) hg) Tryz.underlying77) ?_
 refine r_g rfl (wantF rfl) rfl (fun hg => run_gtr rfl (glv rfl (fun h => h) hg) rfl) ?_
 refine Zo rfl (run_pick_or rfl rfl rfl (fun hq => glv rfl (fun h => h) hq)) ?_
 refine Zo rfl (mvB rfl) ?_
 refine r_g rfl (wantF rfl) rfl (fun hg => run_fa rfl rfl fo_85_2) ?_
 refine r_g rfl (wantF rfl) rfl (fun hg => run_ld1 rfl ag_77 (glv rfl (fun h => h) hg) (hAb1.cell 2 rfl)) ?_
 refine r_g rfl (wantF rfl) rfl (fun hg => run_lenSl rfl (glv rfl (fun h => h) hg) Tryz.underlying77) ?_
 refine r_g rfl (wantF rfl) rfl (fun hg => run_gtr rfl (glv rfl (fun h => h) hg) rfl) ?_
 refine Zn rfl (run_pick_or rfl rfl rfl (fun hq => glv rfl (fun h => h) hq)) ?_
 refine r_cond rfl (fun hc3 => ?_) (fun hc3 => ?_)
 ·skip
  refine Zs ?_
  refine Zn rfl (asI rfl) ?_
  refine r_ret (res1 (v := .int _ _) rfl rfl) ?_
  exact ⟨ret_int (termE_lim (limT_z hc3)).symm, hV⟩
 refine r_skip ?_
 refine r_seq ?_
 refine Zs ?_
 refine Zo rfl (run_fa rfl rfl fo_85_0) ?_
 refine Zo rfl (run_ld1 rfl ag_83 rfl (hAb1.cell 0 rfl)) ?_
 refine Zo rfl (run_lenSl rfl rfl Tryz.underlying83) ?_
 refine Zn rfl (mvI rfl) ?_
 refine r_block ?_
 have hnl : ¬ limT x := limT_n hc3
 refine r_loop (α := Nat) [4, 6, 36, 37, 38, 39, 40, 41, 42, 43, 44, 45, 46, 47, 48, 49, 50, 51, 52, 53, 54] (fun k g w => g 36 = .int .i64 (k : Nat) ∧ k ≤ x.words.length ∧ Blk w b1 85 [.slice aox x.words.length capx, .slice aoq x.req.length capq, .slice aof x.forb.length capf] ∧ At w b1 0 [.slice aox x.words.length capx, .slice aoq x.req.length capq, .slice aof x.forb.length capf] ∧ (∀ j, j < k → wordE c (x.words.getD j default) = 0) ∧ w2.heap.size ≤ w.heap.size ∧ Evo w0 w []) (fun k => x.words.length - k) 0 ?_ ?_
 ·refine ⟨(by first | exact rfl | exact congrArg (Value.int _) (by omega) | exact congrArg (Value.int _) (by dsimp only; omega) | exact congrArg (Value.int _) (by simp) | exact congrArg S (by simp)), (by first | assumption | omega | (dsimp only; omega) | (simp; done)), B1, B1.at, (fun j h => by omega), (by first | assumption | omega | (dsimp only; omega) | (simp; done)), hV⟩
 rintro k g w5 ⟨hj6, hk_k, B1, hAb1, hnw, hzl4, hV⟩
 have hs_w5hV := hV.size
 have hlt7 := B1.lt
 replace hw := hw0 _ hV
 replace hq := hq0 _ hV
 replace hf := hf0 _ hV
 replace hc := hc0.now hV
 refine Zk 36 (v := .int .i64 (k : Nat)) (by exact hj6) ?_
 refine Zs ?_
 refine Zn rfl (run_lss rfl rfl rfl) ?_
 refine r_seq ?_
 refine r_cond rfl (fun hc8 => ?_) (fun hc8 => ?_)
 ·skip
  refine r_skip ?_
  refine r_seq ?_
  refine r_block ?_
  refine Zs ?_
  refine Zo rfl (run_ix (k) rfl Tryz.underlying83 ty_88 rfl rfl (by first | exact rfl | omega) (by omega) (hw.addr (i := k) (by omega))) ?_
  have hA90 := fun (w' : World) (h : Evo w0 w' []) => (hw0 w' h).atD (k) (by omega)
  have hA9 := hA90 _ hV
  refine Zo rfl (run_ldN rfl ag_88 ty_88 rfl rfl hA9) ?_
  refine r_var (zs := [_, _]) (vs := [_, _]) ty_88 rfl rfl rfl (fun _ => rfl) rfl rfl rfl rfl ?_
  intro b10 w11 J10 E11 B10 Y10
  have Q11 := E11.size
  replace hV := Z0 hV E11
  replace B1 := B1.evo0 E11
  replace hAb1 := hAb1.evo0 E11
  refine r_nil ?_
  refine r_seq ?_
  refine Zs ?_
  refine Zo rfl (run_fa rfl rfl fo_88_0) ?_
  refine Zo rfl (run_ld1 rfl ag_9 rfl (B10.at.cell 0 rfl)) ?_
  refine r_opcall rfl rfl rfl (run_callf (vs := [S _]) rfl (by exact rfl) Tryz.func96 rfl (by kernel_rfl)) (tplain_calls ) ?_
  rintro e w12 ⟨rfl, hE12⟩
  refine ⟨_, rfl, ?_⟩
  have Q12 := hE12.size
  replace hV := Z0 hV hE12
  replace hc := hc0.now hV
  replace B1 := B1.evo0 hE12
  replace hAb1 := hAb1.evo0 hE12
  replace B10 := B10.evo0 hE12
  refine Zn rfl (run_not rfl rfl) ?_
  refine r_cond rfl (fun hc13 => ?_) (fun hc13 => ?_)
  ·skip
   refine Zs ?_
   refine Zn rfl (asI rfl) ?_
   refine r_ret (res1 (v := .int _ _) rfl rfl) ?_
   exact ⟨ret_int (termE_word hnl (by omega) hnw (wordE_1 (by have h9 := hc13; simpa using h9)) (by decide)).symm, hV⟩
  refine r_skip ?_
  refine r_seq ?_
  have hpl : plainP (x.words.getD k default).strip := by have h9 := hc13; simpa using h9
  refine r_region ?_
  refine Zo rfl (run_fa rfl rfl fo_88_1) ?_
  refine Zo rfl (run_ld1 rfl ag_9 rfl (B10.at.cell 1 rfl)) ?_
  refine Zo rfl (run_sneq rfl rfl rfl) ?_
  refine Zo rfl (mvB rfl) ?_
  refine r_g rfl (wantT rfl) rfl (fun hg => run_mv (v := .slice _ _ _) rfl rfl) ?_
  refine r_g rfl (wantT rfl) rfl (fun hg => run_fa rfl rfl fo_88_1) ?_
  refine r_g rfl (wantT rfl) rfl (fun hg => run_ld1 rfl ag_9 (glv rfl (fun h => h) hg) (B10.at.cell 1 rfl)) ?_
  refine r_gcall rfl (wantT rfl) rfl (fun hg => run_callf rfl (argcons (v := .slice _ _ _) (glv rfl (fun h => h) hg) (argcons (v := S _) (glv rfl (fun h => h) hg) (rfl))) Tryz.func97 rfl (by kernel_rfl)) (fun hg => (find_calls hc).mono (fun e w' h => ⟨h.1, h.2⟩)) (fun w14 hE15 => ?_)
  have Q14 := hE15.size
  replace hV := Z0 hV hE15
  replace hw := hw0 _ hV
  replace hq := hq0 _ hV
  replace hf := hf0 _ hV
  replace hc := hc0.now hV
  replace B1 := B1.evo0 hE15
  replace hAb1 := hAb1.evo0 hE15
  refine r_g rfl (wantT rfl) rfl (fun hg => run_lss rfl (glv rfl (fun h => h) hg) rfl) ?_
  refine Zn rfl (run_pick_and rfl rfl (fun hq => glv rfl (fun h => h) hq) rfl) ?_
  refine r_cond rfl (fun hc16 => ?_) (fun hc16 => ?_)
  ·skip
   refine Zs ?_
   refine Zn rfl (asI rfl) ?_
   refine r_ret (res1 (v := .int _ _) rfl rfl) ?_
   exact ⟨ret_int (termE_word hnl (by omega) hnw (wordE_4 hpl hc16) (by decide)).symm, hV⟩
  refine r_skip ?_
  refine r_blk ?_
  refine r_region ?_
  refine Zo rfl (run_add rfl rfl rfl (by omega) (by omega)) ?_
  refine Zn rfl (mvI rfl) ?_
  refine r_again (k + 1) ?_ ?_ ?_
  ·first | omega | (dsimp only; omega)
  ·refine ⟨(by first | exact rfl | exact congrArg (Value.int _) (by omega) | exact congrArg (Value.int _) (by dsimp only; omega) | exact congrArg (Value.int _) (by simp) | exact congrArg S (by simp)), (by first | assumption | omega | (dsimp only; omega) | (simp; done)), B1, B1.at, (upto0 hnw (wordE_0 hpl hc16)), (by first | assumption | omega | (dsimp only; omega) | (simp; done)), hV⟩
  repeat (first | (with_reducible exact Agree.merge _ _ _) | (with_reducible exact Agree.refl _ _) | (with_reducible refine Agree.upd ?_ _ _ rfl) | ((with_reducible refine Agree.inner ?_ ?_); (kernel_rfl)))
 refine r_exit rfl ?_
 refine r_seq ?_
 refine Zs ?_
 refine Zo rfl (run_fa rfl rfl fo_85_1) ?_
 refine Zo rfl (run_ld1 rfl ag_77 rfl (hAb1.cell 1 rfl)) ?_
 refine Zo rfl (run_fa rfl rfl fo_85_2) ?_
 refine Zo rfl (run_ld1 rfl ag_77 rfl (hAb1.cell 2 rfl)) ?_
 refine Zo rfl (run_bld (pv := [(0, .slice aoq x.req.length capq), (1, .slice aof x.forb.length capf)]) (zs := [_, _]) (cells := [_, _]) rfl ty_128 rfl pl_128 rfl rfl) ?_
 refine Zn rfl (mvI rfl) ?_
 refine r_block ?_
 have hnw2 : ∀ j, j < x.words.length → wordE c (x.words.getD j default) = 0 := fun j hj => hnw j (by omega)
 refine r_loop (α := Nat) [4, 8, 10, 60, 61, 62, 63, 64, 65, 66, 67, 68, 69, 70, 71, 72, 73, 74] (fun i g w => g 60 = .int .i64 (i : Nat) ∧ i ≤ 2 ∧ (∀ j, j < i → firstM phrE (([x.req, x.forb] : List (List Str)).getD j default) = 0) ∧ w5.heap.size ≤ w.heap.size ∧ Evo w0 w []) (fun i => 2 - i) 0 ?_ ?_
 ·refine ⟨(by first | exact rfl | exact congrArg (Value.int _) (by omega) | exact congrArg (Value.int _) (by dsimp only; omega) | exact congrArg (Value.int _) (by simp) | exact congrArg S (by simp)), (by first | assumption | omega | (dsimp only; omega) | (simp; done)), (fun j h => by omega), (by first | assumption | omega | (dsimp only; omega) | (simp; done)), hV⟩
 rintro i g w18 ⟨hj19, hk_i, hno, hzl17, hV⟩
 have hs_w18hV := hV.size
 replace hw := hw0 _ hV
 replace hq := hq0 _ hV
 replace hf := hf0 _ hV
 replace hc := hc0.now hV
 refine Zk 60 (v := .int .i64 (i : Nat)) (by exact hj19) ?_
 refine Zs ?_
 refine Zn rfl (run_lss rfl rfl rfl) ?_
 refine r_seq ?_
 refine r_cond rfl (fun hc20 => ?_) (fun hc20 => ?_)
 ·skip
  refine r_skip ?_
  refine r_seq ?_
  refine r_block ?_
  refine r_seq ?_
  obtain ⟨aoL, bL, offL, capL, hvL, hL0⟩ : ∃ ao9 b9 off9 cap9, ([.slice aoq x.req.length capq, .slice aof x.forb.length capf] : List Value)[i]? = some (.slice ao9 (([x.req, x.forb] : List (List Str)).getD i default).length cap9) ∧ ∀ w9, Evo w0 w9 [] → RowE w9 ao9 b9 off9 cap9 (([x.req, x.forb] : List (List Str)).getD i default) := by
    rcases (show i = 0 ∨ i = 1 by omega) with rfl | rfl
    · exact ⟨_, _, _, _, rfl, hq0⟩
    · exact ⟨_, _, _, _, rfl, hf0⟩
  have hL := hL0 _ hV; have hbd_hL := hL.bd
  refine r_region ?_
  refine Zo rfl (run_ixA1 (v := .slice aoL (([x.req, x.forb] : List (List Str)).getD i default).length capL) (i) rfl Tryz.underlying128 ty_77 ag_77 rfl rfl (by first | exact rfl | omega) (by omega) (by exact hvL)) ?_
  refine Zn rfl (run_asg (v := .slice aoL (([x.req, x.forb] : List (List Str)).getD i default).length capL) rfl rfl) ?_
  refine Zs ?_
  refine Zo rfl (run_mv (v := .slice aoL (([x.req, x.forb] : List (List Str)).getD i default).length capL) rfl rfl) ?_
  refine Zo rfl (run_lenSl rfl rfl Tryz.underlying77) ?_
  refine Zn rfl (mvI rfl) ?_
  refine r_block ?_
  refine r_loop (α := Nat) [4, 10, 65, 66, 67, 68, 69, 70, 71, 72, 73] (fun k g w => g 65 = .int .i64 (k : Nat) ∧ k ≤ (([x.req, x.forb] : List (List Str)).getD i default).length ∧ (∀ j, j < k → phrE ((([x.req, x.forb] : List (List Str)).getD i default).getD j default) = 0) ∧ w18.heap.size ≤ w.heap.size ∧ Evo w0 w []) (fun k => (([x.req, x.forb] : List (List Str)).getD i default).length - k) 0 ?_ ?_
  ·refine ⟨(by first | exact rfl | exact congrArg (Value.int _) (by omega) | exact congrArg (Value.int _) (by dsimp only; omega) | exact congrArg (Value.int _) (by simp) | exact congrArg S (by simp)), (by first | assumption | omega | (dsimp only; omega) | (simp; done)), (fun j h => by omega), (by first | assumption | omega | (dsimp only; omega) | (simp; done)), hV⟩
  rintro k g w22 ⟨hj23, hk_k, hnp, hzl21, hV⟩
  have hs_w22hV := hV.size
  replace hw := hw0 _ hV
  replace hq := hq0 _ hV
  replace hf := hf0 _ hV
  replace hc := hc0.now hV
  replace hL := hL0 _ hV
  refine Zk 65 (v := .int .i64 (k : Nat)) (by exact hj23) ?_
  refine Zs ?_
  refine Zn rfl (run_lss rfl rfl rfl) ?_
  refine r_seq ?_
  refine r_cond rfl (fun hc24 => ?_) (fun hc24 => ?_)
  ·skip
   refine r_skip ?_
   refine r_seq ?_
   refine r_block ?_
   refine Zs ?_
   refine Zo rfl (run_ix (k) rfl Tryz.underlying77 ty_9 rfl rfl (by first | exact rfl | omega) (by omega) (hL.addr (i := k) (by omega))) ?_
   have hA250 := fun (w' : World) (h : Evo w0 w' []) => (hL0 w' h).atD (k) (by omega)
   have hA25 := hA250 _ hV
   refine Zo rfl (run_ld1 rfl ag_9 rfl (hA25.cell 0 rfl)) ?_
   refine Zn rfl (asT rfl) ?_
   refine Zs ?_
   refine Zo rfl (mvT rfl) ?_
   refine r_opcall rfl rfl rfl (run_callf (vs := [S _]) rfl (by exact rfl) Tryz.func98 rfl (by kernel_rfl)) twords_calls ?_
   rintro e w26 ⟨ao26, bs26, off26, cap26, rfl, hE26, hr26⟩
   refine ⟨_, rfl, ?_⟩
   have Q26 := hE26.size
   replace hV := Z0 hV hE26
   replace hw := hw0 _ hV
   replace hq := hq0 _ hV
   replace hf := hf0 _ hV
   replace hc := hc0.now hV
   replace hL := hL0 _ hV
   refine Zo rfl (run_lenSl rfl rfl Tryz.underlying77) ?_
   refine Zn rfl (run_eql rfl rfl rfl) ?_
   refine r_cond rfl (fun hc27 => ?_) (fun hc27 => ?_)
   ·skip
    refine Zs ?_
    refine Zn rfl (asI rfl) ?_
    refine r_ret (res1 (v := .int _ _) rfl rfl) ?_
    exact ⟨ret_int (termE_phr hnl hnw2 (by omega) hno (by omega) hnp (words_zero.1 hc27)).symm, hV⟩
   refine r_skip ?_
   refine r_blk ?_
   refine r_region ?_
   refine Zo rfl (run_add rfl rfl rfl (by omega) (by omega)) ?_
   refine Zn rfl (mvI rfl) ?_
   refine r_again (k + 1) ?_ ?_ ?_
   ·first | omega | (dsimp only; omega)
   ·refine ⟨(by first | exact rfl | exact congrArg (Value.int _) (by omega) | exact congrArg (Value.int _) (by dsimp only; omega) | exact congrArg (Value.int _) (by simp) | exact congrArg S (by simp)), (by first | assumption | omega | (dsimp only; omega) | (simp; done)), (upto0 hnp (phrE_0 (Classical.not_not.1 (fun q => hc27 (words_zero.2 q))))), (by first | assumption | omega | (dsimp only; omega) | (simp; done)), hV⟩
   repeat (first | (with_reducible exact Agree.merge _ _ _) | (with_reducible exact Agree.refl _ _) | (with_reducible refine Agree.upd ?_ _ _ rfl) | ((with_reducible refine Agree.inner ?_ ?_); (kernel_rfl)))
  refine r_exit rfl ?_
  refine r_blk ?_
  refine r_region ?_
  refine Zo rfl (run_add rfl rfl rfl (by omega) (by omega)) ?_
  refine Zn rfl (mvI rfl) ?_
  refine r_again (i + 1) ?_ ?_ ?_
  ·first | omega | (dsimp only; omega)
  ·refine ⟨(by first | exact rfl | exact congrArg (Value.int _) (by omega) | exact congrArg (Value.int _) (by dsimp only; omega) | exact congrArg (Value.int _) (by simp) | exact congrArg S (by simp)), (by first | assumption | omega | (dsimp only; omega) | (simp; done)), (upto0 hno (firstM_ok (fun j hj => hnp j (by omega)))), (by first | assumption | omega | (dsimp only; omega) | (simp; done)), hV⟩
  repeat (first | (with_reducible exact Agree.merge _ _ _) | (with_reducible exact Agree.refl _ _) | (with_reducible refine Agree.upd ?_ _ _ rfl) | ((with_reducible refine Agree.inner ?_ ?_); (kernel_rfl)))
 refine r_exit rfl ?_
 refine Zs ?_
 refine Zn rfl (asI rfl) ?_
 refine r_ret (res1 (v := .int _ _) rfl rfl) ?_
 exact ⟨ret_int (termE_ok hnl hnw2 (fun j hj => hno j (by omega))).symm, hV⟩
set_option maxHeartbeats 1000000 in
theorem tvalidate_calls {aot : Option Addr} {btt offt capt : Nat} {ts : List TermL} {ao : Option Addr} {b off cap : Nat} {c : List Clas} {w0 : World} (ht : RowR w0 aot btt offt capt ts) (hc : RowR w0 ao b off cap c) :
    Calls Tryz.prog 29 #[.slice aot ts.length capt, .slice ao c.length cap] w0 fun e w' => e = .returned (.int .i64 (validT ts c)) ∧ Evo w0 w' [] := by
 refine calls_enter (n := 30) Tryz.func29 rfl Tryz.ntmps29 rfl ?_
 have hV : Evo w0 w0 [] := Evo.refl _ _
 have ht0 := ht.keep
 have hbd_ht := ht.bd
 have hc0 := hc.keep
 have hbd_hc := hc.bd
 refine Zs ?_
 refine Zn rfl (asI rfl) ?_
 refine r_seq ?_
 refine Zs ?_
 refine Zo rfl (mvS rfl) ?_
 refine r_opcall rfl rfl rfl (run_callf (vs := [.slice _ _ _]) rfl (by exact rfl) Tryz.func53 rfl (by kernel_rfl)) (validate_calls hc) ?_
 rintro e w1 ⟨rfl, hE1⟩
 refine ⟨_, rfl, ?_⟩
 have Q1 := hE1.size
 replace hV := Z0 hV hE1
 replace ht := ht0.now hV
 replace hc := hc0.now hV
 refine Zn rfl (asI rfl) ?_
 refine Zs ?_
 refine Zo rfl (mvI rfl) ?_
 refine Zn rfl (run_neq rfl rfl rfl) ?_
 refine r_cond rfl (fun hc2 => ?_) (fun hc2 => ?_)
 ·skip
  refine Zs ?_
  refine Zo rfl (mvI rfl) ?_
  refine Zn rfl (asI rfl) ?_
  refine r_ret (res1 (v := .int _ _) rfl rfl) ?_
  exact ⟨ret_int (validT_c hc2).symm, hV⟩
 refine r_skip ?_
 refine r_seq ?_
 refine r_seq ?_
 have hvc := hc2
 refine r_region ?_
 refine Zo rfl (mvS rfl) ?_
 refine Zo rfl (run_lenSl rfl rfl Tryz.underlying25) ?_
 refine Zn rfl (run_gtr rfl rfl rfl) ?_
 refine r_cond rfl (fun hc3 => ?_) (fun hc3 => ?_)
 ·skip
  refine Zs ?_
  refine Zn rfl (asI rfl) ?_
  refine r_ret (res1 (v := .int _ _) rfl rfl) ?_
  exact ⟨ret_int (validT_lim (Classical.not_not.1 hvc) (by omega)).symm, hV⟩
 refine r_skip ?_
 refine r_seq ?_
 refine Zs ?_
 refine Zo rfl (mvS rfl) ?_
 refine Zo rfl (run_lenSl rfl rfl Tryz.underlying25) ?_
 refine Zn rfl (mvI rfl) ?_
 refine r_block ?_
 refine r_loop (α := Nat) [4, 7, 8, 19, 20, 21, 22, 23, 24, 25, 26, 27, 28, 29] (fun k g w => g 19 = .int .i64 (k : Nat) ∧ k ≤ ts.length ∧ (∀ j, j < k → termE c (ts.getD j default) = 0) ∧ w1.heap.size ≤ w.heap.size ∧ Evo w0 w []) (fun k => ts.length - k) 0 ?_ ?_
 ·refine ⟨(by first | exact rfl | exact congrArg (Value.int _) (by omega) | exact congrArg (Value.int _) (by dsimp only; omega) | exact congrArg (Value.int _) (by simp) | exact congrArg S (by simp)), (by first | assumption | omega | (dsimp only; omega) | (simp; done)), (fun j h => by omega), (by first | assumption | omega | (dsimp only; omega) | (simp; done)), hV⟩
 rintro k g w5 ⟨hj6, hk_k, hno, hzl4, hV⟩
 have hs_w5hV := hV.size
 replace ht := ht0.now hV
 refine Zk 19 (v := .int .i64 (k : Nat)) (by exact hj6) ?_
 refine Zs ?_
 refine Zn rfl (run_lss rfl rfl rfl) ?_
 refine r_seq ?_
 refine r_cond rfl (fun hc7 => ?_) (fun hc7 => ?_)
 ·skip
  refine r_skip ?_
  refine r_seq ?_
  refine r_block ?_
  refine Zs ?_
  refine Zo rfl (run_ix (k) rfl Tryz.underlying25 ty_85 rfl rfl (by first | exact rfl | omega) (by omega) (ht.addr (i := k) (by omega))) ?_
  obtain ⟨aoW8, bW8, offW8, capW8, aoQ8, bQ8, offQ8, capQ8, aoF8, bF8, offF8, capF8, hX⟩ := term_atK ht0 (k) (by omega)
  have hA80 := fun (w' : World) (h : Evo w0 w' []) => (hX w' h).1
  have hA8 := hA80 _ hV
  have hW80 := fun (w' : World) (h : Evo w0 w' []) => (hX w' h).2.1
  have hW8 := hW80 _ hV
  have hQ80 := fun (w' : World) (h : Evo w0 w' []) => (hX w' h).2.2.1
  have hQ8 := hQ80 _ hV
  have hF80 := fun (w' : World) (h : Evo w0 w' []) => (hX w' h).2.2.2
  have hF8 := hF80 _ hV
  clear hX
  have hbd_hW8 := hW8.bd
  have hbd_hQ8 := hQ8.bd
  have hbd_hF8 := hF8.bd
  refine Zo rfl (run_ldN rfl ag_85 ty_85 rfl rfl hA8) ?_
  refine r_var (zs := [_, _, _]) (vs := [_, _, _]) ty_85 rfl rfl rfl (fun _ => rfl) rfl rfl rfl rfl ?_
  intro b9 w10 J9 E10 B9 Y9
  have Q10 := E10.size
  replace hV := Z0 hV E10
  replace hc := hc0.now hV
  replace hW8 := hW80 _ hV
  replace hQ8 := hQ80 _ hV
  replace hF8 := hF80 _ hV
  refine r_nil ?_
  refine Zs ?_
  refine Zo rfl (run_ldN rfl ag_85 ty_85 rfl rfl B9.at) ?_
  refine Zo rfl (mvS rfl) ?_
  refine r_opcall rfl rfl rfl (run_callf (vs := [.agg _, .slice _ _ _]) rfl (by exact rfl) Tryz.func54 rfl (by kernel_rfl)) (checked_calls hW8 hQ8 hF8 hc) ?_
  rintro e w11 ⟨rfl, hE11⟩
  refine ⟨_, rfl, ?_⟩
  have Q11 := hE11.size
  replace hV := Z0 hV hE11
  replace ht := ht0.now hV
  replace hc := hc0.now hV
  refine Zn rfl (asI rfl) ?_
  refine Zs ?_
  refine Zo rfl (mvI rfl) ?_
  refine Zn rfl (run_neq rfl rfl rfl) ?_
  refine r_cond rfl (fun hc12 => ?_) (fun hc12 => ?_)
  ·skip
   refine Zs ?_
   refine Zo rfl (mvI rfl) ?_
   refine Zn rfl (asI rfl) ?_
   refine r_ret (res1 (v := .int _ _) rfl rfl) ?_
   exact ⟨ret_int (validT_at (k := k) (Classical.not_not.1 hvc) (by omega) (by omega) hno rfl hc12).symm, hV⟩
  refine r_skip ?_
  refine r_blk ?_
  refine r_region ?_
  refine Zo rfl (run_add rfl rfl rfl (by omega) (by omega)) ?_
  refine Zn rfl (mvI rfl) ?_
  refine r_again (k + 1) ?_ ?_ ?_
  ·first | omega | (dsimp only; omega)
  ·refine ⟨(by first | exact rfl | exact congrArg (Value.int _) (by omega) | exact congrArg (Value.int _) (by dsimp only; omega) | exact congrArg (Value.int _) (by simp) | exact congrArg S (by simp)), (by first | assumption | omega | (dsimp only; omega) | (simp; done)), (upto0 hno (Classical.not_not.1 hc12)), (by first | assumption | omega | (dsimp only; omega) | (simp; done)), hV⟩
  repeat (first | (with_reducible exact Agree.merge _ _ _) | (with_reducible exact Agree.refl _ _) | (with_reducible refine Agree.upd ?_ _ _ rfl) | ((with_reducible refine Agree.inner ?_ ?_); (kernel_rfl)))
 refine r_exit rfl ?_
 refine Zs ?_
 refine Zn rfl (asI rfl) ?_
 refine r_ret (res1 (v := .int _ _) rfl rfl) ?_
 exact ⟨ret_int (validT_ok (Classical.not_not.1 hvc) (by omega) (fun j hj => hno j (by omega))).symm, hV⟩
set_option maxHeartbeats 1000000 in
theorem rtvalidate_calls {aot : Option Addr} {btt offt capt : Nat} {ts : List TermL} {ao : Option Addr} {b off cap : Nat} {c : List Clas} {w0 : World} (ht : RowR w0 aot btt offt capt ts) (hc : RowR w0 ao b off cap c) (hjb : ∀ x ∈ ts, JudT x) :
    Calls Tryz.prog 30 #[.slice aot ts.length capt, .slice ao c.length cap] w0 fun e w' => e = .returned (.int .i64 (validT ts c)) ∧ Evo w0 w' [] := by
 refine calls_enter (n := 100) Tryz.func30 rfl Tryz.ntmps30 rfl ?_
 have hV : Evo w0 w0 [] := Evo.refl _ _
 have ht0 := ht.keep
 have hbd_ht := ht.bd
 have hc0 := hc.keep
 have hbd_hc := hc.bd
 refine Zs ?_
 refine Zn rfl (asI rfl) ?_
 refine r_seq ?_
 refine Zs ?_
 refine Zo rfl (mvS rfl) ?_
 refine r_opcall rfl rfl rfl (run_callf (vs := [.slice _ _ _]) rfl (by exact rfl) Tryz.func55 rfl (by kernel_rfl)) (rvalidate_calls hc) ?_
 rintro e w1 ⟨rfl, hE1⟩
 refine ⟨_, rfl, ?_⟩
 have Q1 := hE1.size
 replace hV := Z0 hV hE1
 replace ht := ht0.now hV
 replace hc := hc0.now hV
 refine Zn rfl (asI rfl) ?_
 refine Zs ?_
 refine Zo rfl (mvI rfl) ?_
 refine Zn rfl (run_neq rfl rfl rfl) ?_
 refine r_cond rfl (fun hc2 => ?_) (fun hc2 => ?_)
 ·skip
  refine Zs ?_
  refine Zo rfl (mvI rfl) ?_
  refine Zn rfl (asI rfl) ?_
  refine r_ret (res1 (v := .int _ _) rfl rfl) ?_
  exact ⟨ret_int (validT_c hc2).symm, hV⟩
 refine r_skip ?_
 refine r_seq ?_
 refine r_seq ?_
 have hvc := hc2
 refine r_region ?_
 refine Zo rfl (mvS rfl) ?_
 refine Zo rfl (run_lenSl rfl rfl Tryz.underlying25) ?_
 refine Zn rfl (run_gtr rfl rfl rfl) ?_
 refine r_cond rfl (fun hc3 => ?_) (fun hc3 => ?_)
 ·skip
  refine Zs ?_
  refine Zn rfl (asI rfl) ?_
  refine r_ret (res1 (v := .int _ _) rfl rfl) ?_
  exact ⟨ret_int (validT_lim (Classical.not_not.1 hvc) (by omega)).symm, hV⟩
 refine r_skip ?_
 refine r_seq ?_
 refine Zs ?_
 refine Zo rfl (mvS rfl) ?_
 refine Zo rfl (run_lenSl rfl rfl Tryz.underlying25) ?_
 refine Zn rfl (mvI rfl) ?_
 refine r_block ?_
 refine r_loop (α := Nat) [4, 7, 9, 11, 13, 14, 15, 26, 27, 28, 29, 30, 31, 32, 33, 34, 35, 36, 37, 38, 39, 40, 41, 42, 43, 44, 45, 46, 47, 48, 49, 50, 51, 52, 53, 54, 55, 56, 57, 58, 59, 60, 61, 62, 63, 64, 65, 66, 67, 68, 69, 70, 71, 72, 73, 74, 75, 76, 77, 78, 79, 80, 81, 82, 83, 84, 85, 86, 87, 88, 89, 90, 91, 92, 93, 94, 95, 96, 97, 98, 99] (fun k g w => g 26 = .int .i64 (k : Nat) ∧ k ≤ ts.length ∧ (∀ j, j < k → termE c (ts.getD j default) = 0) ∧ w1.heap.size ≤ w.heap.size ∧ Evo w0 w []) (fun k => ts.length - k) 0 ?_ ?_
 ·refine ⟨(by first | exact rfl | exact congrArg (Value.int _) (by omega) | exact congrArg (Value.int _) (by dsimp only; omega) | exact congrArg (Value.int _) (by simp) | exact congrArg S (by simp)), (by first | assumption | omega | (dsimp only; omega) | (simp; done)), (fun j h => by omega), (by first | assumption | omega | (dsimp only; omega) | (simp; done)), hV⟩
 rintro k g w5 ⟨hj6, hk_k, hno, hzl4, hV⟩
 have hs_w5hV := hV.size
 replace ht := ht0.now hV
 refine Zk 26 (v := .int .i64 (k : Nat)) (by exact hj6) ?_
 refine Zs ?_
 refine Zn rfl (run_lss rfl rfl rfl) ?_
 refine r_seq ?_
 refine r_cond rfl (fun hc7 => ?_) (fun hc7 => ?_)
 ·skip
  refine r_skip ?_
  refine r_seq ?_
  refine r_block ?_
  refine Zs ?_
  refine Zo rfl (run_ix (k) rfl Tryz.underlying25 ty_85 rfl rfl (by first | exact rfl | omega) (by omega) (ht.addr (i := k) (by omega))) ?_
  obtain ⟨aoW8, bW8, offW8, capW8, aoQ8, bQ8, offQ8, capQ8, aoF8, bF8, offF8, capF8, hX⟩ := term_atK ht0 (k) (by omega)
  have hA80 := fun (w' : World) (h : Evo w0 w' []) => (hX w' h).1
  have hA8 := hA80 _ hV
  have hW80 := fun (w' : World) (h : Evo w0 w' []) => (hX w' h).2.1
  have hW8 := hW80 _ hV
  have hQ80 := fun (w' : World) (h : Evo w0 w' []) => (hX w' h).2.2.1
  have hQ8 := hQ80 _ hV
  have hF80 := fun (w' : World) (h : Evo w0 w' []) => (hX w' h).2.2.2
  have hF8 := hF80 _ hV
  clear hX
  have hbd_hW8 := hW8.bd
  have hbd_hQ8 := hQ8.bd
  have hbd_hF8 := hF8.bd
  refine Zo rfl (run_ldN rfl ag_85 ty_85 rfl rfl hA8) ?_
  refine r_var (zs := [_, _, _]) (vs := [_, _, _]) ty_85 rfl rfl rfl (fun _ => rfl) rfl rfl rfl rfl ?_
  intro b9 w10 J9 E10 B9 Y9
  have Q10 := E10.size
  replace hV := Z0 hV E10
  replace ht := ht0.now hV
  replace hc := hc0.now hV
  replace hW8 := hW80 _ hV
  replace hQ8 := hQ80 _ hV
  replace hF8 := hF80 _ hV
  have hAb9 := B9.at
  refine r_nil ?_
  refine r_seq ?_
  refine r_seq ?_
  have hjk := jud_get hjb k
  refine r_region ?_
  refine Zo rfl (run_fa rfl rfl fo_85_0) ?_
  refine Zo rfl (run_ld1 rfl ag_83 rfl (hAb9.cell 0 rfl)) ?_
  refine Zo rfl (run_lenSl rfl rfl Tryz.underlying83) ?_
  refine Zo rfl (run_eql rfl rfl rfl) ?_
  refine Zo rfl (mvB rfl) ?_
  refine r_g rfl (wantF rfl) rfl (fun hg => run_fa rfl rfl fo_85_0) ?_
  refine r_g rfl (wantF rfl) rfl (fun hg => run_ld1 rfl ag_83 (glv rfl (fun h => h) hg) (hAb9.cell 0 rfl)) ?_
  refine r_g rfl (wantF rfl) rfl (fun hg => run_lenSl rfl (glv rfl (fun h => h) hg) Tryz.underlying83) ?_
  refine r_g rfl (wantF rfl) rfl (fun hg => run_gtr rfl (glv rfl (fun h => h) hg) rfl) ?_
  refine Zo rfl (run_pick_or rfl rfl rfl (fun hq => glv rfl (fun h => h) hq)) ?_
  refine Zo rfl (mvB rfl) ?_
  refine r_g rfl (wantF rfl) rfl (fun hg => run_fa rfl rfl fo_85_1) ?_
  refine r_g rfl (wantF rfl) rfl (fun hg => run_ld1 rfl ag_77 (glv rfl (fun h => h) hg) (hAb9.cell 1 rfl)) ?_
  refine r_g rfl (wantF rfl) rfl (fun hg => run_lenSl rfl (glv rfl (fun h => h) hg) Tryz.underlying77) ?_
  refine r_g rfl (wantF rfl) rfl (fun hg => run_gtr rfl (glv rfl (fun h => h) hg) rfl) ?_
  refine Zo rfl (run_pick_or rfl rfl rfl (fun hq => glv rfl (fun h => h) hq)) ?_
  refine Zo rfl (mvB rfl) ?_
  refine r_g rfl (wantF rfl) rfl (fun hg => run_fa rfl rfl fo_85_2) ?_
  refine r_g rfl (wantF rfl) rfl (fun hg => run_ld1 rfl ag_77 (glv rfl (fun h => h) hg) (hAb9.cell 2 rfl)) ?_
  refine r_g rfl (wantF rfl) rfl (fun hg => run_lenSl rfl (glv rfl (fun h => h) hg) Tryz.underlying77) ?_
  refine r_g rfl (wantF rfl) rfl (fun hg => run_gtr rfl (glv rfl (fun h => h) hg) rfl) ?_
  refine Zn rfl (run_pick_or rfl rfl rfl (fun hq => glv rfl (fun h => h) hq)) ?_
  refine r_cond rfl (fun hc11 => ?_) (fun hc11 => ?_)
  ·skip
   refine Zs ?_
   refine Zn rfl (asI rfl) ?_
   refine r_ret (res1 (v := .int _ _) rfl rfl) ?_
   exact ⟨ret_int (validT_at (k := k) (Classical.not_not.1 hvc) (by omega) (by omega) hno (termE_lim (limT_z hc11)) (by decide)).symm, hV⟩
  refine r_skip ?_
  refine r_seq ?_
  refine Zs ?_
  refine Zo rfl (run_fa rfl rfl fo_85_0) ?_
  refine Zo rfl (run_ld1 rfl ag_83 rfl (hAb9.cell 0 rfl)) ?_
  refine Zo rfl (run_lenSl rfl rfl Tryz.underlying83) ?_
  refine Zn rfl (mvI rfl) ?_
  refine r_block ?_
  have hnl : ¬ limT (ts.getD k default) := limT_n hc11
  refine r_loop (α := Nat) [4, 9, 55, 56, 57, 58, 59, 60, 61, 62, 63, 64, 65, 66, 67, 68, 69, 70, 71, 72, 73] (fun kw g w => g 55 = .int .i64 (kw : Nat) ∧ kw ≤ (ts.getD k default).words.length ∧ Blk w b9 85 [.slice aoW8 (ts.getD k default).words.length capW8, .slice aoQ8 (ts.getD k default).req.length capQ8, .slice aoF8 (ts.getD k default).forb.length capF8] ∧ At w b9 0 [.slice aoW8 (ts.getD k default).words.length capW8, .slice aoQ8 (ts.getD k default).req.length capQ8, .slice aoF8 (ts.getD k default).forb.length capF8] ∧ (∀ j, j < kw → wordE c ((ts.getD k default).words.getD j default) = 0) ∧ w10.heap.size ≤ w.heap.size ∧ Evo w0 w []) (fun kw => (ts.getD k default).words.length - kw) 0 ?_ ?_
  ·refine ⟨(by first | exact rfl | exact congrArg (Value.int _) (by omega) | exact congrArg (Value.int _) (by dsimp only; omega) | exact congrArg (Value.int _) (by simp) | exact congrArg S (by simp)), (by first | assumption | omega | (dsimp only; omega) | (simp; done)), B9, B9.at, (fun j h => by omega), (by first | assumption | omega | (dsimp only; omega) | (simp; done)), hV⟩
  rintro kw g w13 ⟨hj14, hk_kw, B9, hAb9, hnw, hzl12, hV⟩
  have hs_w13hV := hV.size
  have hlt15 := B9.lt
  replace hA8 := hA80 _ hV
  replace hW8 := hW80 _ hV
  replace hQ8 := hQ80 _ hV
  replace hF8 := hF80 _ hV
  refine Zk 55 (v := .int .i64 (kw : Nat)) (by exact hj14) ?_
  refine Zs ?_
  refine Zn rfl (run_lss rfl rfl rfl) ?_
  refine r_seq ?_
  refine r_cond rfl (fun hc16 => ?_) (fun hc16 => ?_)
  ·skip
   refine r_skip ?_
   refine r_seq ?_
   refine r_block ?_
   refine Zs ?_
   refine Zo rfl (run_ix (kw) rfl Tryz.underlying83 ty_88 rfl rfl (by first | exact rfl | omega) (by omega) (hW8.addr (i := kw) (by omega))) ?_
   have hA170 := fun (w' : World) (h : Evo w0 w' []) => (hW80 w' h).atD (kw) (by omega)
   have hA17 := hA170 _ hV
   refine Zo rfl (run_ldN rfl ag_88 ty_88 rfl rfl hA17) ?_
   refine r_var (zs := [_, _]) (vs := [_, _]) ty_88 rfl rfl rfl (fun _ => rfl) rfl rfl rfl rfl ?_
   intro b18 w19 J18 E19 B18 Y18
   have Q19 := E19.size
   replace hV := Z0 hV E19
   replace B9 := B9.evo0 E19
   replace hAb9 := hAb9.evo0 E19
   refine r_nil ?_
   refine r_seq ?_
   refine Zs ?_
   refine Zo rfl (run_fa rfl rfl fo_88_0) ?_
   refine Zo rfl (run_ld1 rfl ag_9 rfl (B18.at.cell 0 rfl)) ?_
   refine r_opcall rfl rfl rfl (run_callf (vs := [S _]) rfl (by exact rfl) Tryz.func56 rfl (by kernel_rfl)) (rplain_calls ) ?_
   rintro e w20 ⟨rfl, hE20⟩
   refine ⟨_, rfl, ?_⟩
   have Q20 := hE20.size
   replace hV := Z0 hV hE20
   replace hc := hc0.now hV
   replace B9 := B9.evo0 hE20
   replace hAb9 := hAb9.evo0 hE20
   replace B18 := B18.evo0 hE20
   refine Zn rfl (run_not rfl rfl) ?_
   refine r_cond rfl (fun hc21 => ?_) (fun hc21 => ?_)
   ·skip
    refine Zs ?_
    refine Zn rfl (asI rfl) ?_
    refine r_ret (res1 (v := .int _ _) rfl rfl) ?_
    exact ⟨ret_int (validT_at (k := k) (Classical.not_not.1 hvc) (by omega) (by omega) hno (termE_word hnl (by omega) hnw (wordE_1 (by have h9 := hc21; simpa using h9)) (by decide)) (by decide)).symm, hV⟩
   refine r_skip ?_
   refine r_seq ?_
   have hpl : plainP ((ts.getD k default).words.getD kw default).strip := by have h9 := hc21; simpa using h9
   refine r_region ?_
   refine Zo rfl (run_fa rfl rfl fo_88_1) ?_
   refine Zo rfl (run_ld1 rfl ag_9 rfl (B18.at.cell 1 rfl)) ?_
   refine Zo rfl (run_sneq rfl rfl rfl) ?_
   refine Zo rfl (mvB rfl) ?_
   refine r_g rfl (wantT rfl) rfl (fun hg => run_mv (v := .slice _ _ _) rfl rfl) ?_
   refine r_g rfl (wantT rfl) rfl (fun hg => run_fa rfl rfl fo_88_1) ?_
   refine r_g rfl (wantT rfl) rfl (fun hg => run_ld1 rfl ag_9 (glv rfl (fun h => h) hg) (B18.at.cell 1 rfl)) ?_
   refine r_gcall rfl (wantT rfl) rfl (fun hg => run_callf rfl (argcons (v := .slice _ _ _) (glv rfl (fun h => h) hg) (argcons (v := S _) (glv rfl (fun h => h) hg) (rfl))) Tryz.func57 rfl (by kernel_rfl)) (fun hg => (rfind_calls hc).mono (fun e w' h => ⟨h.1, h.2⟩)) (fun w22 hE23 => ?_)
   have Q22 := hE23.size
   replace hV := Z0 hV hE23
   replace ht := ht0.now hV
   replace hc := hc0.now hV
   replace hW8 := hW80 _ hV
   replace hQ8 := hQ80 _ hV
   replace hF8 := hF80 _ hV
   replace B9 := B9.evo0 hE23
   replace hAb9 := hAb9.evo0 hE23
   refine r_g rfl (wantT rfl) rfl (fun hg => run_lss rfl (glv rfl (fun h => h) hg) rfl) ?_
   refine Zn rfl (run_pick_and rfl rfl (fun hq => glv rfl (fun h => h) hq) rfl) ?_
   refine r_cond rfl (fun hc24 => ?_) (fun hc24 => ?_)
   ·skip
    refine Zs ?_
    refine Zn rfl (asI rfl) ?_
    refine r_ret (res1 (v := .int _ _) rfl rfl) ?_
    exact ⟨ret_int (validT_at (k := k) (Classical.not_not.1 hvc) (by omega) (by omega) hno (termE_word hnl (by omega) hnw (wordE_4 hpl hc24) (by decide)) (by decide)).symm, hV⟩
   refine r_skip ?_
   refine r_blk ?_
   refine r_region ?_
   refine Zo rfl (run_add rfl rfl rfl (by omega) (by omega)) ?_
   refine Zn rfl (mvI rfl) ?_
   refine r_again (kw + 1) ?_ ?_ ?_
   ·first | omega | (dsimp only; omega)
   ·refine ⟨(by first | exact rfl | exact congrArg (Value.int _) (by omega) | exact congrArg (Value.int _) (by dsimp only; omega) | exact congrArg (Value.int _) (by simp) | exact congrArg S (by simp)), (by first | assumption | omega | (dsimp only; omega) | (simp; done)), B9, B9.at, (upto0 hnw (wordE_0 hpl hc24)), (by first | assumption | omega | (dsimp only; omega) | (simp; done)), hV⟩
   repeat (first | (with_reducible exact Agree.merge _ _ _) | (with_reducible exact Agree.refl _ _) | (with_reducible refine Agree.upd ?_ _ _ rfl) | ((with_reducible refine Agree.inner ?_ ?_); (kernel_rfl)))
  refine r_exit rfl ?_
  refine Zs ?_
  refine Zo rfl (run_fa rfl rfl fo_85_1) ?_
  refine Zo rfl (run_ld1 rfl ag_77 rfl (hAb9.cell 1 rfl)) ?_
  refine Zo rfl (run_fa rfl rfl fo_85_2) ?_
  refine Zo rfl (run_ld1 rfl ag_77 rfl (hAb9.cell 2 rfl)) ?_
  refine r_bslice (pv := [(0, .slice _ _ _), (1, .slice _ _ _)]) (zs := [_]) (cs := [_, _]) Tryz.underlying91 ty_77 rfl rfl rfl rfl rfl ?_
  intro b25 w26 J25 E26 B25 Y25
  have Q26 := E26.size
  replace hV := Z0 hV E26
  replace ht := ht0.now hV
  replace hc := hc0.now hV
  have hrb25 : RowR w26 (some ⟨b25, 0, none⟩) b25 0 2 ([(ts.getD k default).req, (ts.getD k default).forb] : List (List Str)) := rowLitR [[_], [_]] ([(ts.getD k default).req, (ts.getD k default).forb] : List (List Str)) B25 rfl ((RepL.one (sl_rep (hQ80 _ hV))).append (RepL.one (sl_rep (hF80 _ hV)))) rfl
  refine Zo rfl (run_lenSl rfl rfl Tryz.underlying91) ?_
  refine Zn rfl (mvI rfl) ?_
  refine r_block ?_
  have hnw2 : ∀ j, j < (ts.getD k default).words.length → wordE c ((ts.getD k default).words.getD j default) = 0 := fun j hj => hnw j (by omega)
  have hlk : ([(ts.getD k default).req, (ts.getD k default).forb] : List (List Str)).length = 2 := rfl
  refine r_loop (α := Nat) [4, 11, 13, 14, 15, 80, 81, 82, 83, 84, 85, 86, 87, 88, 89, 90, 91, 92, 93, 94, 95, 96, 97, 98] (fun i g w => g 80 = .int .i64 (i : Nat) ∧ i ≤ 2 ∧ RowR w (some ⟨b25, 0, none⟩) b25 0 2 ([(ts.getD k default).req, (ts.getD k default).forb] : List (List Str)) ∧ (∀ j, j < i → firstM phrE (([(ts.getD k default).req, (ts.getD k default).forb] : List (List Str)).getD j default) = 0) ∧ w26.heap.size ≤ w.heap.size ∧ Evo w0 w []) (fun i => 2 - i) 0 ?_ ?_
  ·refine ⟨(by first | exact rfl | exact congrArg (Value.int _) (by omega) | exact congrArg (Value.int _) (by dsimp only; omega) | exact congrArg (Value.int _) (by simp) | exact congrArg S (by simp)), (by first | assumption | omega | (dsimp only; omega) | (simp; done)), hrb25, (fun j h => by omega), (by first | assumption | omega | (dsimp only; omega) | (simp; done)), hV⟩
  rintro i g w28 ⟨hj29, hk_i, hrl, hno2, hzl27, hV⟩
  have hs_w28hV := hV.size
  replace ht := ht0.now hV
  replace hc := hc0.now hV
  replace hA8 := hA80 _ hV
  replace hW8 := hW80 _ hV
  replace hQ8 := hQ80 _ hV
  replace hF8 := hF80 _ hV
  refine Zk 80 (v := .int .i64 (i : Nat)) (by exact hj29) ?_
  refine Zs ?_
  refine Zn rfl (run_lss rfl rfl rfl) ?_
  refine r_seq ?_
  refine r_cond rfl (fun hc30 => ?_) (fun hc30 => ?_)
  ·skip
   refine r_skip ?_
   refine r_seq ?_
   refine r_block ?_
   refine Zs ?_
   refine Zo rfl (run_ix (i) rfl Tryz.underlying91 ty_77 rfl rfl (by first | exact rfl | omega) (by omega) (hrl.addr (i := i) (by omega))) ?_
   obtain ⟨ao31, b31, off31, cap31, hA31, hR31⟩ := sl_at hrl (i) (by omega)
   have hbd_hR31 := hR31.bd
   refine Zo rfl (run_ld1 rfl ag_77 rfl (hA31.cell 0 rfl)) ?_
   refine Zn rfl (asS rfl) ?_
   refine Zs ?_
   refine Zo rfl (mvS rfl) ?_
   refine Zo rfl (run_lenSl rfl rfl Tryz.underlying77) ?_
   refine Zn rfl (mvI rfl) ?_
   refine r_block ?_
   refine r_loop (α := Nat) [4, 13, 14, 15, 86, 87, 88, 89, 90, 91, 92, 93, 94, 95, 96, 97] (fun kp g w => g 86 = .int .i64 (kp : Nat) ∧ kp ≤ (([(ts.getD k default).req, (ts.getD k default).forb] : List (List Str)).getD i default).length ∧ RowR w (some ⟨b25, 0, none⟩) b25 0 2 ([(ts.getD k default).req, (ts.getD k default).forb] : List (List Str)) ∧ RowE w ao31 b31 off31 cap31 (([(ts.getD k default).req, (ts.getD k default).forb] : List (List Str)).getD i default) ∧ (∀ j, j < kp → phrE ((([(ts.getD k default).req, (ts.getD k default).forb] : List (List Str)).getD i default).getD j default) = 0) ∧ w28.heap.size ≤ w.heap.size ∧ Evo w0 w []) (fun kp => (([(ts.getD k default).req, (ts.getD k default).forb] : List (List Str)).getD i default).length - kp) 0 ?_ ?_
   ·refine ⟨(by first | exact rfl | exact congrArg (Value.int _) (by omega) | exact congrArg (Value.int _) (by dsimp only; omega) | exact congrArg (Value.int _) (by simp) | exact congrArg S (by simp)), (by first | assumption | omega | (dsimp only; omega) | (simp; done)), hrl, hR31, (fun j h => by omega), (by first | assumption | omega | (dsimp only; omega) | (simp; done)), hV⟩
   rintro kp g w33 ⟨hj34, hk_kp, hrl, hR31, hnp, hzl32, hV⟩
   have hs_w33hV := hV.size
   replace ht := ht0.now hV
   replace hc := hc0.now hV
   replace hA8 := hA80 _ hV
   replace hW8 := hW80 _ hV
   replace hQ8 := hQ80 _ hV
   replace hF8 := hF80 _ hV
   refine Zk 86 (v := .int .i64 (kp : Nat)) (by exact hj34) ?_
   refine Zs ?_
   refine Zn rfl (run_lss rfl rfl rfl) ?_
   refine r_seq ?_
   refine r_cond rfl (fun hc35 => ?_) (fun hc35 => ?_)
   ·skip
    refine r_skip ?_
    refine r_seq ?_
    refine r_block ?_
    refine Zs ?_
    refine Zo rfl (run_ix (kp) rfl Tryz.underlying77 ty_9 rfl rfl (by first | exact rfl | omega) (by omega) (hR31.addr (i := kp) (by omega))) ?_
    have hA36 := hR31.atD (kp) (by omega)
    refine Zo rfl (run_ld1 rfl ag_9 rfl (hA36.cell 0 rfl)) ?_
    refine Zn rfl (asT rfl) ?_
    refine Zs ?_
    refine Zo rfl (mvT rfl) ?_
    refine r_opcall rfl rfl rfl (run_callf (vs := [S _]) rfl (by exact rfl) Tryz.func58 rfl (by kernel_rfl)) (rphrase_calls (jud_two hjk (by omega) (by omega))) ?_
    rintro e w37 ⟨vp37, lp37, rfl, hE37, hop37, hlp37⟩
    refine ⟨_, rfl, ?_⟩
    have Q37 := hE37.size
    replace hV := Z0 hV hE37
    replace ht := ht0.now hV
    replace hc := hc0.now hV
    replace hrl := hrl.evo0 hE37
    replace hR31 := hR31.evo0 hE37
    refine Zo rfl (mvU rfl) ?_
    refine Zo rfl (run_extract (v := vp37) rfl rfl rfl) ?_
    refine Zo rfl (run_extract (v := .bool _) rfl rfl rfl) ?_
    refine Zo rfl (run_asg (v := vp37) rfl rfl) ?_
    refine Zn rfl (asB rfl) ?_
    refine Zs ?_
    refine Zo rfl (mvB rfl) ?_
    refine Zn rfl (run_not rfl rfl) ?_
    refine r_cond rfl (fun hc38 => ?_) (fun hc38 => ?_)
    ·skip
     refine Zs ?_
     refine Zn rfl (asI rfl) ?_
     refine r_ret (res1 (v := .int _ _) rfl rfl) ?_
     exact ⟨ret_int (validT_at (k := k) (Classical.not_not.1 hvc) (by omega) (by omega) hno (termE_phr hnl hnw2 (by omega) hno2 (by omega) hnp (by have h9 := hc38; simpa using h9)) (by decide)).symm, hV⟩
    refine r_skip ?_
    refine r_blk ?_
    refine r_region ?_
    refine Zo rfl (run_add rfl rfl rfl (by omega) (by omega)) ?_
    refine Zn rfl (mvI rfl) ?_
    refine r_again (kp + 1) ?_ ?_ ?_
    ·first | omega | (dsimp only; omega)
    ·refine ⟨(by first | exact rfl | exact congrArg (Value.int _) (by omega) | exact congrArg (Value.int _) (by dsimp only; omega) | exact congrArg (Value.int _) (by simp) | exact congrArg S (by simp)), (by first | assumption | omega | (dsimp only; omega) | (simp; done)), hrl, hR31, (upto0 hnp (phrE_0 (by have h9 := hc38; simpa using h9))), (by first | assumption | omega | (dsimp only; omega) | (simp; done)), hV⟩
    repeat (first | (with_reducible exact Agree.merge _ _ _) | (with_reducible exact Agree.refl _ _) | (with_reducible refine Agree.upd ?_ _ _ rfl) | ((with_reducible refine Agree.inner ?_ ?_); (kernel_rfl)))
   refine r_exit rfl ?_
   refine r_blk ?_
   refine r_region ?_
   refine Zo rfl (run_add rfl rfl rfl (by omega) (by omega)) ?_
   refine Zn rfl (mvI rfl) ?_
   refine r_again (i + 1) ?_ ?_ ?_
   ·first | omega | (dsimp only; omega)
   ·refine ⟨(by first | exact rfl | exact congrArg (Value.int _) (by omega) | exact congrArg (Value.int _) (by dsimp only; omega) | exact congrArg (Value.int _) (by simp) | exact congrArg S (by simp)), (by first | assumption | omega | (dsimp only; omega) | (simp; done)), hrl, (upto0 hno2 (firstM_ok (fun j hj => hnp j (by omega)))), (by first | assumption | omega | (dsimp only; omega) | (simp; done)), hV⟩
   repeat (first | (with_reducible exact Agree.merge _ _ _) | (with_reducible exact Agree.refl _ _) | (with_reducible refine Agree.upd ?_ _ _ rfl) | ((with_reducible refine Agree.inner ?_ ?_); (kernel_rfl)))
  refine r_exit rfl ?_
  refine r_blk ?_
  refine r_region ?_
  refine Zo rfl (run_add rfl rfl rfl (by omega) (by omega)) ?_
  refine Zn rfl (mvI rfl) ?_
  refine r_again (k + 1) ?_ ?_ ?_
  ·first | omega | (dsimp only; omega)
  ·refine ⟨(by first | exact rfl | exact congrArg (Value.int _) (by omega) | exact congrArg (Value.int _) (by dsimp only; omega) | exact congrArg (Value.int _) (by simp) | exact congrArg S (by simp)), (by first | assumption | omega | (dsimp only; omega) | (simp; done)), (upto0 hno (termE_ok hnl hnw2 (fun j hj => hno2 j (by simp at *; omega)))), (by first | assumption | omega | (dsimp only; omega) | (simp; done)), hV⟩
  repeat (first | (with_reducible exact Agree.merge _ _ _) | (with_reducible exact Agree.refl _ _) | (with_reducible refine Agree.upd ?_ _ _ rfl) | ((with_reducible refine Agree.inner ?_ ?_); (kernel_rfl)))
 refine r_exit rfl ?_
 refine Zs ?_
 refine Zn rfl (asI rfl) ?_
 refine r_ret (res1 (v := .int _ _) rfl rfl) ?_
 exact ⟨ret_int (validT_ok (Classical.not_not.1 hvc) (by omega) (fun j hj => hno j (by omega))).symm, hV⟩
end Go.Proofs.YtlfjocbnbceceaaGreatDoor
namespace Go.Vc
open Go Go.RowKit Go.IntWalk Go.Deep
structure TmsL where
  ts : List TermL
deriving Inhabited
instance : Rep TmsL where
  n := 1
  rep w cs x := ∃ ao b off cap, cs = [.slice ao x.ts.length cap] ∧ RowR w ao b off cap x.ts
  len := fun ⟨_, _, _, _, h, _⟩ => by rw [h]; rfl
  evo0 := fun ⟨ao, b, off, cap, h, h1⟩ he => ⟨ao, b, off, cap, h, h1.evo0 he⟩
  pos := by decide
end Go.Vc
namespace Go.Proofs.YtlfjocbnbceceaaGreatDoor
open Go.RowKit Go.Vc
structure MF (nested : Bool) (f : List Vc.Item) : Prop where
  val : valGo [] f = 0
  len : f.length ≤ 16
  size : sizeL f ≤ 240
  shp : nested = true → shapeL f = some ([], [])
theorem MF.small {n : Bool} {f : List Vc.Item} (h : MF n f) : Small f := ⟨by have := h.len; omega, by have := h.size; omega⟩
def shC (f : List Vc.Item) : List Int := ((shapeL f).getD ([], [])).1
def shO (f : List Vc.Item) : List Int := ((shapeL f).getD ([], [])).2
theorem shape_mono {f : List Vc.Item} {k : Nat} (hk : k ≤ f.length) (h : shapeL (f.take k) = none) : shapeL f = none := by
  have e : ∀ l : List Vc.Item, l.foldl shapeStep none = none := fun l => by
    induction l with
    | nil => rfl
    | cons x l ih => rw [List.foldl_cons]; exact ih
  have h1 : shapeL f = (f.drop k).foldl shapeStep (shapeL (f.take k)) := by
    unfold shapeL; rw [← List.foldl_append, List.take_append_drop]
  rw [h1, h, e]
theorem shape_no {f : List Vc.Item} {k : Nat} {c s : List Int} (hk : k < f.length) (ho : shapeL (f.take k) = some (c, s)) (h : (f.getD k default).kind = 3) (hs : ¬ s.length = 0) (he : ¬ s.getD (s.length - 1) default = (f.getD k default).id) : shapeL f = none :=
  shape_mono (k := k + 1) (by omega) (by rw [shape_succ f k hk, shape_cross ho h hs he])
theorem sh_some {f : List Vc.Item} {c s : List Int} (h : shapeL f = some (c, s)) : (shapeL f).isSome = true ∧ shC f = c ∧ shO f = s := by unfold shC shO; rw [h]; exact ⟨rfl, rfl, rfl⟩
theorem sh_none {f : List Vc.Item} (h : shapeL f = none) : (shapeL f).isSome = false ∧ shC f = [] ∧ shO f = [] := by unfold shC shO; rw [h]; exact ⟨rfl, rfl, rfl⟩
theorem shape_calls {ao : Option Addr} {b off cap : Nat} {f : List Vc.Item} {w0 : World} (hf : RowE w0 ao b off cap f) (hsm : Small f) :
    Calls Tryz.prog 23 #[.slice ao f.length cap] w0 fun e w' => ∃ v u, e = .returned (.tuple #[v, u, .bool (shapeL f).isSome]) ∧ Evo w0 w' [] ∧ OwnE w' w0.heap.size 3 v (shC f) ∧ OwnE w' w0.heap.size 3 u (shO f) := by
 have hs1 := hsm.1
 refine calls_enter (n := 63) Tryz.func23 rfl Tryz.ntmps23 rfl ?_
 have hV : Evo w0 w0 [] := Evo.refl _ _
 have hf0 := keepE hf
 have hbd_hf := hf.bd
 refine Zs ?_
 refine Zo rfl (asS rfl) ?_
 refine Zo rfl (asS rfl) ?_
 refine Zn rfl (asB rfl) ?_
 refine r_seq ?_
 refine Zs ?_
 refine Zo rfl (mvS rfl) ?_
 refine Zo rfl (run_lenSl rfl rfl Tryz.underlying33) ?_
 refine Zn rfl (mvI rfl) ?_
 refine r_block ?_
 refine r_loop (α := Nat) [2, 3, 4, 6, 9, 10, 11, 12, 13, 14, 15, 16, 17, 18, 19, 20, 21, 22, 23, 24, 25, 26, 27, 28, 29, 30, 31, 32, 33, 34, 35, 36, 37, 38, 39, 40, 41, 42, 43, 44, 45, 46, 47, 48, 49, 50, 51, 52, 53, 54, 55, 56, 57, 58, 59, 60] (fun k g w => ∃ vc : Value, ∃ vo : Value, ∃ cl : List Int, ∃ op : List Int, g 9 = .int .i64 (k : Nat) ∧ g 2 = vc ∧ g 3 = vo ∧ k ≤ f.length ∧ OwnE w w0.heap.size 3 vc cl ∧ OwnE w w0.heap.size 3 vo op ∧ Sep vc vo ∧ shapeL (f.take k) = some (cl, op) ∧ (cl.length ≤ k ∧ op.length ≤ k) ∧ w0.heap.size ≤ w.heap.size ∧ Evo w0 w []) (fun k => f.length - k) 0 ?_ ?_
 ·refine ⟨_, _, [], [], (by first | exact rfl | exact congrArg (Value.int _) (by omega) | exact congrArg (Value.int _) (by dsimp only; omega) | exact congrArg (Value.int _) (by simp) | exact congrArg S (by simp)), rfl, rfl, (by first | assumption | omega | (dsimp only; omega) | (simp; done)), (OwnE.nil _ _ _), (OwnE.nil _ _ _), (Sep.nil_l _), rfl, (by simp), (by first | assumption | omega | (dsimp only; omega) | (simp; done)), hV⟩
 rintro k g w2 ⟨vc, vo, cl, op, hj3, hj4, hj5, hk_k, hoc, hoo, hsep, hsh, hlen, hzl1, hV⟩
 have hs_w2hV := hV.size
 replace hf := hf0 _ hV
 refine Zk 9 (v := .int .i64 (k : Nat)) (by exact hj3) ?_
 refine Zk 2 (v := vc) (by exact hj4) ?_
 refine Zk 3 (v := vo) (by exact hj5) ?_
 refine Zs ?_
 refine Zn rfl (run_lss rfl rfl rfl) ?_
 refine r_seq ?_
 refine r_cond rfl (fun hc6 => ?_) (fun hc6 => ?_)
 ·skip
  refine r_skip ?_
  refine r_seq ?_
  refine r_block ?_
  refine r_seq ?_
  have hobC := fun g hg => (hoc.block (g := g) hg).2; have hobO := fun g hg => (hoo.block (g := g) hg).2
  refine r_region ?_
  refine Zo rfl (run_ix (k) rfl Tryz.underlying33 ty_32 rfl rfl (by first | exact rfl | omega) (by omega) (hf.addr (i := k) (by omega))) ?_
  have hA70 := fun (w' : World) (h : Evo w0 w' []) => (hf0 w' h).atD (k) (by omega)
  have hA7 := hA70 _ hV
  refine Zo rfl (run_ldN rfl ag_32 ty_32 rfl rfl hA7) ?_
  have hob8 := fun g hg => (hoc.block (g := g) hg).2
  have hob9 := fun g hg => (hoo.block (g := g) hg).2
  refine r_var (zs := [_, _, _]) (vs := [_, _, _]) ty_32 rfl rfl rfl (fun _ => rfl) rfl rfl rfl rfl ?_
  intro b10 w11 J10 E11 B10 Y10
  have Q11 := E11.size
  replace hV := Z0 hV E11
  replace hoc := hoc.evo0 E11
  replace hoo := hoo.evo0 E11
  refine r_nil ?_
  refine r_block ?_
  refine Zs ?_
  refine Zo rfl (run_fa rfl rfl fo_32_0) ?_
  refine Zo rfl (run_ld1 rfl ag_3 rfl (B10.at.cell 0 rfl)) ?_
  refine Zo rfl (run_eql rfl rfl rfl) ?_
  refine Zn rfl (asB rfl) ?_
  refine r_cond rfl (fun hc12 => ?_) (fun hc12 => ?_)
  ·skip
   refine r_region ?_
   refine Zo rfl (run_mv (v := vo) rfl rfl) ?_
   refine Zo rfl (run_fa rfl rfl fo_32_2) ?_
   refine Zo rfl (run_ld1 rfl ag_3 rfl (B10.at.cell 2 rfl)) ?_
   refine r_append1E (u := .int _ _) (y := _) rfl rfl Tryz.underlying22 ty_3 rfl hoo (fun _ => rfl) rfl (by first | exact rfl | (show _ = List.toArray [_]; first | (dsimp only; done) | exact rfl | (dsimp only; exact rfl))) ((by omega)) ((by omega)) (by omega) ?_
   intro q_v13 v13 w14 E14 hov13 hlv13
   have Q14 := E14.size
   replace hV := evo_stepo hV E14 (fun g hg => .inl (by first | exact (hoo.block hg).1 | (have := hoo.block hg; omega)))
   replace hf := hf0 _ hV
   replace hoc := hoc.evo E14 (by intro g hg hm; exact hsep _ hg _ (Option.mem_toList.1 hm) rfl)
   refine Zn rfl (run_asg (v := v13) rfl rfl) ?_
   refine r_blk ?_
   refine r_blk ?_
   refine r_region ?_
   refine Zo rfl (run_add rfl rfl rfl (by omega) (by omega)) ?_
   refine Zn rfl (mvI rfl) ?_
   refine r_again (k + 1) ?_ ?_ ?_
   ·first | omega | (dsimp only; omega)
   ·refine ⟨_, _, _, _, (by first | exact rfl | exact congrArg (Value.int _) (by omega) | exact congrArg (Value.int _) (by dsimp only; omega) | exact congrArg (Value.int _) (by simp) | exact congrArg S (by simp)), rfl, rfl, (by first | assumption | omega | (dsimp only; omega) | (simp; done)), hoc, hov13, (by first | exact hsep | exact (hsep.symm.grow hlv13 hobC (by omega)).symm | exact hsep.grow hlvc hobO (by omega) | exact (hsep.symm.same hlv13).symm), (by first | exact (shape_succ f k (by omega)).trans (shape_open hsh (by assumption)) | exact (shape_succ f k (by omega)).trans (shape_free hsh (by first | assumption | exact hc12.1) (by first | omega | (have := hc12; omega))) | exact (shape_succ f k (by omega)).trans (shape_match hsh (by first | assumption | exact hc12.1) (by omega) (by first | exact hc12 | exact hc12.2)) | exact (shape_succ f k (by omega)).trans ((shape_other (by omega) (by omega)).trans hsh)), (by first | omega | (simp only [List.length_append, List.length_cons, List.length_nil, List.length_take]; omega)), (by first | assumption | omega | (dsimp only; omega) | (simp; done)), hV⟩
   repeat (first | (with_reducible exact Agree.merge _ _ _) | (with_reducible exact Agree.refl _ _) | (with_reducible refine Agree.upd ?_ _ _ rfl) | ((with_reducible refine Agree.inner ?_ ?_); (kernel_rfl)))
  refine Zs ?_
  refine Zo rfl (run_fa rfl rfl fo_32_0) ?_
  refine Zo rfl (run_ld1 rfl ag_3 rfl (B10.at.cell 0 rfl)) ?_
  refine Zo rfl (run_eql rfl rfl rfl) ?_
  refine Zo rfl (mvB rfl) ?_
  refine r_g rfl (wantT rfl) rfl (fun hg => run_mv (v := vo) rfl rfl) ?_
  refine r_g rfl (wantT rfl) rfl (fun hg => run_lenOE rfl (glv rfl (fun h => h) hg) Tryz.underlying22 hoo) ?_
  refine r_g rfl (wantT rfl) rfl (fun hg => run_eql rfl (glv rfl (fun h => h) hg) rfl) ?_
  refine Zo rfl (run_pick_and rfl rfl (fun hq => glv rfl (fun h => h) hq) rfl) ?_
  refine Zn rfl (asB rfl) ?_
  refine r_cond rfl (fun hc15 => ?_) (fun hc15 => ?_)
  ·skip
   refine r_region ?_
   refine Zo rfl (run_mv (v := vc) rfl rfl) ?_
   refine Zo rfl (run_fa rfl rfl fo_32_2) ?_
   refine Zo rfl (run_ld1 rfl ag_3 rfl (B10.at.cell 2 rfl)) ?_
   refine r_append1E (u := .int _ _) (y := _) rfl rfl Tryz.underlying22 ty_3 rfl hoc (fun _ => rfl) rfl (by first | exact rfl | (show _ = List.toArray [_]; first | (dsimp only; done) | exact rfl | (dsimp only; exact rfl))) ((by omega)) ((by omega)) (by omega) ?_
   intro q_v16 v16 w17 E17 hov16 hlv16
   have Q17 := E17.size
   replace hV := evo_stepo hV E17 (fun g hg => .inl (by first | exact (hoc.block hg).1 | (have := hoc.block hg; omega)))
   replace hf := hf0 _ hV
   replace hoo := hoo.evo E17 (by intro g hg hm; exact hsep.symm _ hg _ (Option.mem_toList.1 hm) rfl)
   refine Zn rfl (run_asg (v := v16) rfl rfl) ?_
   refine r_blk ?_
   refine r_blk ?_
   refine r_region ?_
   refine Zo rfl (run_add rfl rfl rfl (by omega) (by omega)) ?_
   refine Zn rfl (mvI rfl) ?_
   refine r_again (k + 1) ?_ ?_ ?_
   ·first | omega | (dsimp only; omega)
   ·refine ⟨_, _, _, _, (by first | exact rfl | exact congrArg (Value.int _) (by omega) | exact congrArg (Value.int _) (by dsimp only; omega) | exact congrArg (Value.int _) (by simp) | exact congrArg S (by simp)), rfl, rfl, (by first | assumption | omega | (dsimp only; omega) | (simp; done)), hov16, hoo, (by first | exact hsep | exact (hsep.symm.grow hlvo hobC (by omega)).symm | exact hsep.grow hlv16 hobO (by omega) | exact (hsep.symm.same hlvo).symm), (by first | exact (shape_succ f k (by omega)).trans (shape_open hsh (by assumption)) | exact (shape_succ f k (by omega)).trans (shape_free hsh (by first | assumption | exact hc15.1) (by first | omega | (have := hc15; omega))) | exact (shape_succ f k (by omega)).trans (shape_match hsh (by first | assumption | exact hc15.1) (by omega) (by first | exact hc15 | exact hc15.2)) | exact (shape_succ f k (by omega)).trans ((shape_other (by omega) (by omega)).trans hsh)), (by first | omega | (simp only [List.length_append, List.length_cons, List.length_nil, List.length_take]; omega)), (by first | assumption | omega | (dsimp only; omega) | (simp; done)), hV⟩
   repeat (first | (with_reducible exact Agree.merge _ _ _) | (with_reducible exact Agree.refl _ _) | (with_reducible refine Agree.upd ?_ _ _ rfl) | ((with_reducible refine Agree.inner ?_ ?_); (kernel_rfl)))
  refine r_seq ?_
  obtain ⟨ao18, g18, cp18, hv18, hr18, hg18⟩ := hoo.rowOf
  subst hv18
  refine r_qregion (by kernel_rfl) (by kernel_rfl) ?_
  refine q_op rfl rfl rfl (fun w' hC => run_fa rfl rfl fo_32_0) ?_
  refine q_op rfl rfl rfl (fun w' hC => run_ld1 rfl ag_3 rfl ((B10.at.evo0 hC).cell 0 rfl)) ?_
  refine q_op rfl rfl rfl (fun w' hC => run_eql rfl rfl rfl) ?_
  refine Zq rfl (fun _ _ => mvB rfl) ?_
  refine q_g rfl (wantT rfl) rfl (fun hg w' hC => run_mv (v := .slice _ _ _) rfl rfl) ?_
  refine q_g rfl (wantT rfl) rfl (fun hg w' hC => run_mv (v := .slice _ _ _) rfl rfl) ?_
  refine q_g rfl (wantT rfl) rfl (fun hg w' hC => run_lenSl rfl (glv rfl (fun h => h) hg) Tryz.underlying22) ?_
  refine q_g rfl (wantT rfl) rfl (fun hg w' hC => run_sub rfl (glv rfl (fun h => h) hg) rfl (by omega) (by omega)) ?_
  refine q_g rfl (wantT rfl) rfl (fun hg w' hC => run_ix ((op.length - 1)) rfl Tryz.underlying22 ty_3 (glv rfl (fun h => h) hg) (glv rfl (fun h => h) hg) (by omega) (by omega) (hr18.addr (i := (op.length - 1)) (by omega))) ?_
  refine q_g rfl (wantT rfl) rfl (fun hg w' hC => run_ld1 rfl ag_3 (glv rfl (fun h => h) hg) (((hr18.atD ((op.length - 1)) (by omega)).evo0 hC).cell 0 rfl)) ?_
  refine q_g rfl (wantT rfl) rfl (fun hg w' hC => run_fa rfl rfl fo_32_2) ?_
  refine q_g rfl (wantT rfl) rfl (fun hg w' hC => run_ld1 rfl ag_3 (glv rfl (fun h => h) hg) ((B10.at.evo0 hC).cell 2 rfl)) ?_
  refine q_g rfl (wantT rfl) rfl (fun hg w' hC => run_eql rfl (glv rfl (fun h => h) hg) (glv rfl (fun h => h) hg)) ?_
  refine q_op rfl rfl rfl (fun w' hC => run_pick_and rfl rfl (fun hq => glv rfl (fun h => h) hq) rfl) ?_
  refine Zq rfl (fun _ _ => asB rfl) ?_
  refine q_nil (fun w19 hE20 => ?_)
  have Q19 := hE20.size
  replace hV := Z0 hV hE20
  replace hf := hf0 _ hV
  replace hoc := hoc.evo0 hE20
  replace hoo := hoo.evo0 hE20
  replace B10 := B10.evo0 hE20
  replace hr18 := hr18.evo0 hE20
  refine r_cond rfl (fun hc21 => ?_) (fun hc21 => ?_)
  ·skip
   refine r_region ?_
   refine Zo rfl (mvS rfl) ?_
   refine Zo rfl (mvS rfl) ?_
   refine Zo rfl (run_lenSl rfl rfl Tryz.underlying22) ?_
   refine Zo rfl (run_sub rfl rfl rfl (by omega) (by omega)) ?_
   refine r_cutOwn ((op.length - 1)) rfl Tryz.underlying22 ty_3 hoo rfl (hi1 rfl (by omega)) (by omega) (by omega) ?_
   intro v22 hov22 hlv22
   refine Zn rfl (run_asg (v := v22) rfl rfl) ?_
   refine r_blk ?_
   refine r_blk ?_
   refine r_region ?_
   refine Zo rfl (run_add rfl rfl rfl (by omega) (by omega)) ?_
   refine Zn rfl (mvI rfl) ?_
   refine r_again (k + 1) ?_ ?_ ?_
   ·first | omega | (dsimp only; omega)
   ·refine ⟨_, _, _, _, (by first | exact rfl | exact congrArg (Value.int _) (by omega) | exact congrArg (Value.int _) (by dsimp only; omega) | exact congrArg (Value.int _) (by simp) | exact congrArg S (by simp)), rfl, rfl, (by first | assumption | omega | (dsimp only; omega) | (simp; done)), hoc, hov22, (by first | exact hsep | exact (hsep.symm.grow hlv22 hobC (by omega)).symm | exact hsep.grow hlvc hobO (by omega) | exact (hsep.symm.same hlv22).symm), (by first | exact (shape_succ f k (by omega)).trans (shape_open hsh (by assumption)) | exact (shape_succ f k (by omega)).trans (shape_free hsh (by first | assumption | exact hc21.1) (by first | omega | (have := hc21; omega))) | exact (shape_succ f k (by omega)).trans (shape_match hsh (by first | assumption | exact hc21.1) (by omega) (by first | exact hc21 | exact hc21.2)) | exact (shape_succ f k (by omega)).trans ((shape_other (by omega) (by omega)).trans hsh)), (by first | omega | (simp only [List.length_append, List.length_cons, List.length_nil, List.length_take]; omega)), (by first | assumption | omega | (dsimp only; omega) | (simp; done)), hV⟩
   repeat (first | (with_reducible exact Agree.merge _ _ _) | (with_reducible exact Agree.refl _ _) | (with_reducible refine Agree.upd ?_ _ _ rfl) | ((with_reducible refine Agree.inner ?_ ?_); (kernel_rfl)))
  refine Zs ?_
  refine Zo rfl (run_fa rfl rfl fo_32_0) ?_
  refine Zo rfl (run_ld1 rfl ag_3 rfl (B10.at.cell 0 rfl)) ?_
  refine Zo rfl (run_eql rfl rfl rfl) ?_
  refine Zn rfl (asB rfl) ?_
  refine r_cond rfl (fun hc23 => ?_) (fun hc23 => ?_)
  ·skip
   refine r_seq ?_
   have hno : shapeL f = none := shape_no (by omega) hsh (by assumption) (by omega) (by omega)
   refine r_region ?_
   refine Zo rfl (asS rfl) ?_
   refine Zo rfl (asS rfl) ?_
   refine Zn rfl (asB rfl) ?_
   refine r_ret (res3 (v := .slice _ _ _) (u := .slice _ _ _) (x := .bool _) rfl rfl rfl rfl) ?_
   exact ⟨_, _, by rw [(sh_none hno).1], hV, by rw [(sh_none hno).2.1]; exact OwnE.nil _ _ _, by rw [(sh_none hno).2.2]; exact OwnE.nil _ _ _⟩
  refine r_skip ?_
  refine r_blk ?_
  refine r_blk ?_
  refine r_region ?_
  refine Zo rfl (run_add rfl rfl rfl (by omega) (by omega)) ?_
  refine Zn rfl (mvI rfl) ?_
  refine r_again (k + 1) ?_ ?_ ?_
  ·first | omega | (dsimp only; omega)
  ·refine ⟨_, _, _, _, (by first | exact rfl | exact congrArg (Value.int _) (by omega) | exact congrArg (Value.int _) (by dsimp only; omega) | exact congrArg (Value.int _) (by simp) | exact congrArg S (by simp)), rfl, rfl, (by first | assumption | omega | (dsimp only; omega) | (simp; done)), hoc, hoo, (by first | exact hsep | exact (hsep.symm.grow hl.slice _ _ _ hobC (by omega)).symm | exact hsep.grow hlvc hobO (by omega) | exact (hsep.symm.same hl.slice _ _ _).symm), (by first | exact (shape_succ f k (by omega)).trans (shape_open hsh (by assumption)) | exact (shape_succ f k (by omega)).trans (shape_free hsh (by first | assumption | exact hc23.1) (by first | omega | (have := hc23; omega))) | exact (shape_succ f k (by omega)).trans (shape_match hsh (by first | assumption | exact hc23.1) (by omega) (by first | exact hc23 | exact hc23.2)) | exact (shape_succ f k (by omega)).trans ((shape_other (by omega) (by omega)).trans hsh)), (by first | omega | (simp only [List.length_append, List.length_cons, List.length_nil, List.length_take]; omega)), (by first | assumption | omega | (dsimp only; omega) | (simp; done)), hV⟩
  repeat (first | (with_reducible exact Agree.merge _ _ _) | (with_reducible exact Agree.refl _ _) | (with_reducible refine Agree.upd ?_ _ _ rfl) | ((with_reducible refine Agree.inner ?_ ?_); (kernel_rfl)))
 refine r_exit rfl ?_
 refine r_seq ?_
 rw [List.take_of_length_le (by omega)] at hsh
 refine r_region ?_
 refine Zo rfl (run_mv (v := vc) rfl rfl) ?_
 refine Zo rfl (run_mv (v := vo) rfl rfl) ?_
 refine Zo rfl (run_asg (v := vc) rfl rfl) ?_
 refine Zo rfl (run_asg (v := vo) rfl rfl) ?_
 refine Zn rfl (asB rfl) ?_
 refine r_ret (res3 (v := vc) (u := vo) (x := .bool _) rfl rfl rfl rfl) ?_
 exact ⟨_, _, by rw [(sh_some hsh).1], hV, by rw [(sh_some hsh).2.1]; exact hoc, by rw [(sh_some hsh).2.2]; exact hoo⟩
theorem kitem : KeyLaw Tryz.prog 32 (fun x : Vc.Item => Value.agg (Enc.enc x).toArray) := key_item Tryz.underlying32 (by decide) (by decide) (by decide) rfl rfl rfl Tryz.underlying3 Tryz.underlying9 Tryz.underlying3 ag_3 ag_9 ag_3 ei_32
theorem tags_noB {f : List Vc.Item} {k : Nat} (h : k < f.length) (ht : isTag (f.getD k default) = false) : tagsL (f.take (k + 1)) = tagsL (f.take k) := tags_no h (by rw [ht]; simp)
theorem ssort_calls {w : World} {base : Nat} {v : Value} {l : List Str} (h : OwnE w base 9 v l) : Calls Tryz.prog 91 #[v] w fun e w' => e = .returned (.tuple #[]) ∧ Evo w w' v.ownBlock.toList ∧ OwnE w' base 9 v (sortS l) :=
  ssort_of Tryz.slices_Sort_string (Tryz.slices_Sort_string_none none 0) h
theorem tags_calls {ao : Option Addr} {b off cap : Nat} {f : List Vc.Item} {w0 : World} (hf : RowE w0 ao b off cap f) (hsm : Small f) :
    Calls Tryz.prog 46 #[.slice ao f.length cap] w0 fun e w' => ∃ v, e = .returned v ∧ Evo w0 w' [] ∧ OwnE w' w0.heap.size 32 v (tagsL f) := by
 have hs1 := hsm.1
 refine calls_enter (n := 20) Tryz.func46 rfl Tryz.ntmps46 rfl ?_
 have hV : Evo w0 w0 [] := Evo.refl _ _
 have hf0 := keepE hf
 have hbd_hf := hf.bd
 refine Zs ?_
 refine Zn rfl (asS rfl) ?_
 refine Zs ?_
 refine Zn rfl (asS rfl) ?_
 refine r_seq ?_
 refine Zs ?_
 refine Zo rfl (mvS rfl) ?_
 refine Zo rfl (run_lenSl rfl rfl Tryz.underlying33) ?_
 refine Zn rfl (mvI rfl) ?_
 refine r_block ?_
 refine r_loop (α := Nat) [3, 5, 8, 9, 10, 11, 12, 13, 14, 15, 16, 17, 18] (fun k g w => ∃ vo : Value, g 8 = .int .i64 (k : Nat) ∧ g 3 = vo ∧ k ≤ f.length ∧ OwnE w w0.heap.size 32 vo (tagsL (f.take k)) ∧ w0.heap.size ≤ w.heap.size ∧ Evo w0 w []) (fun k => f.length - k) 0 ?_ ?_
 ·refine ⟨_, (by first | exact rfl | exact congrArg (Value.int _) (by omega) | exact congrArg (Value.int _) (by dsimp only; omega) | exact congrArg (Value.int _) (by simp) | exact congrArg S (by simp)), rfl, (by first | assumption | omega | (dsimp only; omega) | (simp; done)), (OwnE.nil _ _ _), (by first | assumption | omega | (dsimp only; omega) | (simp; done)), hV⟩
 rintro k g w2 ⟨vo, hj3, hj4, hk_k, hoo, hzl1, hV⟩
 have hs_w2hV := hV.size
 replace hf := hf0 _ hV
 refine Zk 8 (v := .int .i64 (k : Nat)) (by exact hj3) ?_
 refine Zk 3 (v := vo) (by exact hj4) ?_
 refine Zs ?_
 refine Zn rfl (run_lss rfl rfl rfl) ?_
 refine r_seq ?_
 refine r_cond rfl (fun hc5 => ?_) (fun hc5 => ?_)
 ·skip
  refine r_skip ?_
  refine r_seq ?_
  refine r_block ?_
  refine r_seq ?_
  have hobO := fun g hg => (hoo.block (g := g) hg).2
  have ht1 := tagsL_len (f.take k); have ht2 : (f.take k).length ≤ k := List.length_take_le _ _
  refine r_region ?_
  refine Zo rfl (run_ix (k) rfl Tryz.underlying33 ty_32 rfl rfl (by first | exact rfl | omega) (by omega) (hf.addr (i := k) (by omega))) ?_
  have hA60 := fun (w' : World) (h : Evo w0 w' []) => (hf0 w' h).atD (k) (by omega)
  have hA6 := hA60 _ hV
  refine Zo rfl (run_ldN rfl ag_32 ty_32 rfl rfl hA6) ?_
  have hob7 := fun g hg => (hoo.block (g := g) hg).2
  refine r_var (zs := [_, _, _]) (vs := [_, _, _]) ty_32 rfl rfl rfl (fun _ => rfl) rfl rfl rfl rfl ?_
  intro b8 w9 J8 E9 B8 Y8
  have Q9 := E9.size
  replace hV := Z0 hV E9
  replace hoo := hoo.evo0 E9
  refine r_nil ?_
  refine Zs ?_
  refine Zo rfl (run_ldN rfl ag_32 ty_32 rfl rfl B8.at) ?_
  refine r_opcall rfl rfl rfl (run_callf (vs := [.agg _]) rfl (by exact rfl) Tryz.func90 rfl (by kernel_rfl)) istag_calls ?_
  rintro e w10 ⟨rfl, hE10⟩
  refine ⟨_, rfl, ?_⟩
  have Q10 := hE10.size
  replace hV := Z0 hV hE10
  replace hf := hf0 _ hV
  replace hoo := hoo.evo0 hE10
  replace B8 := B8.evo0 hE10
  refine r_nil ?_
  refine r_condb rfl (fun hc11 => ?_) (fun hc11 => ?_)
  ·skip
   refine r_region ?_
   refine Zo rfl (run_mv (v := vo) rfl rfl) ?_
   refine Zo rfl (run_ldN rfl ag_32 ty_32 rfl rfl B8.at) ?_
   refine r_append1E (u := .agg _) (y := ⟨_, _, _⟩) rfl rfl Tryz.underlying33 ty_32 rfl hoo (fun _ => rfl) rfl (by first | exact rfl | (show _ = List.toArray [_, _, _]; first | (dsimp only; done) | exact rfl | (dsimp only; exact rfl))) ((by first | omega | (simp; omega))) ((by first | omega | (simp; omega))) (by omega) ?_
   intro q_v12 v12 w13 E13 hov12 hlv12
   have Q13 := E13.size
   replace hV := evo_stepo hV E13 (fun g hg => .inl (by first | exact (hoo.block hg).1 | (have := hoo.block hg; omega)))
   replace hf := hf0 _ hV
   refine Zn rfl (run_asg (v := v12) rfl rfl) ?_
   refine r_blk ?_
   refine r_region ?_
   refine Zo rfl (run_add rfl rfl rfl (by omega) (by omega)) ?_
   refine Zn rfl (mvI rfl) ?_
   refine r_again (k + 1) ?_ ?_ ?_
   ·first | omega | (dsimp only; omega)
   ·refine ⟨_, (by first | exact rfl | exact congrArg (Value.int _) (by omega) | exact congrArg (Value.int _) (by dsimp only; omega) | exact congrArg (Value.int _) (by simp) | exact congrArg S (by simp)), rfl, (by first | assumption | omega | (dsimp only; omega) | (simp; done)), (by first | (rw [tags_yes (by omega) hc11]; exact hov12) | (rw [tags_noB (by omega) hc11]; exact hov12)), (by first | assumption | omega | (dsimp only; omega) | (simp; done)), hV⟩
   repeat (first | (with_reducible exact Agree.merge _ _ _) | (with_reducible exact Agree.refl _ _) | (with_reducible refine Agree.upd ?_ _ _ rfl) | ((with_reducible refine Agree.inner ?_ ?_); (kernel_rfl)))
  refine r_skip ?_
  refine r_blk ?_
  refine r_region ?_
  refine Zo rfl (run_add rfl rfl rfl (by omega) (by omega)) ?_
  refine Zn rfl (mvI rfl) ?_
  refine r_again (k + 1) ?_ ?_ ?_
  ·first | omega | (dsimp only; omega)
  ·refine ⟨_, (by first | exact rfl | exact congrArg (Value.int _) (by omega) | exact congrArg (Value.int _) (by dsimp only; omega) | exact congrArg (Value.int _) (by simp) | exact congrArg S (by simp)), rfl, (by first | assumption | omega | (dsimp only; omega) | (simp; done)), (by first | (rw [tags_yes (by omega) hc11]; exact hoo) | (rw [tags_noB (by omega) hc11]; exact hoo)), (by first | assumption | omega | (dsimp only; omega) | (simp; done)), hV⟩
  repeat (first | (with_reducible exact Agree.merge _ _ _) | (with_reducible exact Agree.refl _ _) | (with_reducible refine Agree.upd ?_ _ _ rfl) | ((with_reducible refine Agree.inner ?_ ?_); (kernel_rfl)))
 refine r_exit rfl ?_
 refine Zs ?_
 refine Zo rfl (run_mv (v := vo) rfl rfl) ?_
 refine Zn rfl (run_asg (v := vo) rfl rfl) ?_
 refine r_ret (res1 (v := vo) rfl rfl) ?_
 exact ⟨_, rfl, hV, by rw [List.take_of_length_le (by omega)] at hoo; exact hoo⟩
theorem slots_calls {ao : Option Addr} {b off cap : Nat} {f : List Vc.Item} {w0 : World} (hf : RowE w0 ao b off cap f) (hsm : Small f) :
    Calls Tryz.prog 48 #[.slice ao f.length cap] w0 fun e w' => ∃ v, e = .returned v ∧ Evo w0 w' [] ∧ OwnE w' w0.heap.size 9 v (sortS (slotsL f)) := by
 have hs1 := hsm.1
 refine calls_enter (n := 24) Tryz.func48 rfl Tryz.ntmps48 rfl ?_
 have hV : Evo w0 w0 [] := Evo.refl _ _
 have hf0 := keepE hf
 have hbd_hf := hf.bd
 refine Zs ?_
 refine Zn rfl (asS rfl) ?_
 refine Zs ?_
 refine Zn rfl (asS rfl) ?_
 refine r_seq ?_
 refine Zs ?_
 refine Zo rfl (mvS rfl) ?_
 refine Zo rfl (run_lenSl rfl rfl Tryz.underlying33) ?_
 refine Zn rfl (mvI rfl) ?_
 refine r_block ?_
 refine r_loop (α := Nat) [3, 5, 8, 9, 10, 11, 12, 13, 14, 15, 16, 17, 18, 19, 20] (fun k g w => ∃ vo : Value, g 8 = .int .i64 (k : Nat) ∧ g 3 = vo ∧ k ≤ f.length ∧ OwnE w w0.heap.size 9 vo (slotsL (f.take k)) ∧ w0.heap.size ≤ w.heap.size ∧ Evo w0 w []) (fun k => f.length - k) 0 ?_ ?_
 ·refine ⟨_, (by first | exact rfl | exact congrArg (Value.int _) (by omega) | exact congrArg (Value.int _) (by dsimp only; omega) | exact congrArg (Value.int _) (by simp) | exact congrArg S (by simp)), rfl, (by first | assumption | omega | (dsimp only; omega) | (simp; done)), (OwnE.nil _ _ _), (by first | assumption | omega | (dsimp only; omega) | (simp; done)), hV⟩
 rintro k g w2 ⟨vo, hj3, hj4, hk_k, hoo, hzl1, hV⟩
 have hs_w2hV := hV.size
 replace hf := hf0 _ hV
 refine Zk 8 (v := .int .i64 (k : Nat)) (by exact hj3) ?_
 refine Zk 3 (v := vo) (by exact hj4) ?_
 refine Zs ?_
 refine Zn rfl (run_lss rfl rfl rfl) ?_
 refine r_seq ?_
 refine r_cond rfl (fun hc5 => ?_) (fun hc5 => ?_)
 ·skip
  refine r_skip ?_
  refine r_seq ?_
  refine r_block ?_
  refine r_seq ?_
  have hobO := fun g hg => (hoo.block (g := g) hg).2
  have ht1 := slotsL_len (f.take k); have ht2 : (f.take k).length ≤ k := List.length_take_le _ _; have ht3 := fold_ins_len (slotsL (f.take k))
  refine r_region ?_
  refine Zo rfl (run_ix (k) rfl Tryz.underlying33 ty_32 rfl rfl (by first | exact rfl | omega) (by omega) (hf.addr (i := k) (by omega))) ?_
  have hA60 := fun (w' : World) (h : Evo w0 w' []) => (hf0 w' h).atD (k) (by omega)
  have hA6 := hA60 _ hV
  refine Zo rfl (run_ldN rfl ag_32 ty_32 rfl rfl hA6) ?_
  have hob7 := fun g hg => (hoo.block (g := g) hg).2
  refine r_var (zs := [_, _, _]) (vs := [_, _, _]) ty_32 rfl rfl rfl (fun _ => rfl) rfl rfl rfl rfl ?_
  intro b8 w9 J8 E9 B8 Y8
  have Q9 := E9.size
  replace hV := Z0 hV E9
  replace hf := hf0 _ hV
  replace hoo := hoo.evo0 E9
  refine r_nil ?_
  refine Zs ?_
  refine Zo rfl (run_fa rfl rfl fo_32_0) ?_
  refine Zo rfl (run_ld1 rfl ag_3 rfl (B8.at.cell 0 rfl)) ?_
  refine Zn rfl (run_eql rfl rfl rfl) ?_
  refine r_cond rfl (fun hc10 => ?_) (fun hc10 => ?_)
  ·skip
   refine r_region ?_
   refine Zo rfl (run_mv (v := vo) rfl rfl) ?_
   refine Zo rfl (run_fa rfl rfl fo_32_1) ?_
   refine Zo rfl (run_ld1 rfl ag_9 rfl (B8.at.cell 1 rfl)) ?_
   refine r_append1E (u := S _) (y := _) rfl rfl Tryz.underlying77 ty_9 rfl hoo (fun _ => rfl) rfl (by first | exact rfl | (show _ = List.toArray [_]; first | (dsimp only; done) | exact rfl | (dsimp only; exact rfl))) ((by first | omega | (simp; omega))) ((by first | omega | (simp; omega))) (by omega) ?_
   intro q_v11 v11 w12 E12 hov11 hlv11
   have Q12 := E12.size
   replace hV := evo_stepo hV E12 (fun g hg => .inl (by first | exact (hoo.block hg).1 | (have := hoo.block hg; omega)))
   replace hf := hf0 _ hV
   refine Zn rfl (run_asg (v := v11) rfl rfl) ?_
   refine r_blk ?_
   refine r_region ?_
   refine Zo rfl (run_add rfl rfl rfl (by omega) (by omega)) ?_
   refine Zn rfl (mvI rfl) ?_
   refine r_again (k + 1) ?_ ?_ ?_
   ·first | omega | (dsimp only; omega)
   ·refine ⟨_, (by first | exact rfl | exact congrArg (Value.int _) (by omega) | exact congrArg (Value.int _) (by dsimp only; omega) | exact congrArg (Value.int _) (by simp) | exact congrArg S (by simp)), rfl, (by first | assumption | omega | (dsimp only; omega) | (simp; done)), (by first | (rw [slots_yes (by omega) hc10]; exact hov11) | (rw [slots_no (by omega) hc10]; exact hov11)), (by first | assumption | omega | (dsimp only; omega) | (simp; done)), hV⟩
   repeat (first | (with_reducible exact Agree.merge _ _ _) | (with_reducible exact Agree.refl _ _) | (with_reducible refine Agree.upd ?_ _ _ rfl) | ((with_reducible refine Agree.inner ?_ ?_); (kernel_rfl)))
  refine r_skip ?_
  refine r_blk ?_
  refine r_region ?_
  refine Zo rfl (run_add rfl rfl rfl (by omega) (by omega)) ?_
  refine Zn rfl (mvI rfl) ?_
  refine r_again (k + 1) ?_ ?_ ?_
  ·first | omega | (dsimp only; omega)
  ·refine ⟨_, (by first | exact rfl | exact congrArg (Value.int _) (by omega) | exact congrArg (Value.int _) (by dsimp only; omega) | exact congrArg (Value.int _) (by simp) | exact congrArg S (by simp)), rfl, (by first | assumption | omega | (dsimp only; omega) | (simp; done)), (by first | (rw [slots_yes (by omega) hc10]; exact hoo) | (rw [slots_no (by omega) hc10]; exact hoo)), (by first | assumption | omega | (dsimp only; omega) | (simp; done)), hV⟩
  repeat (first | (with_reducible exact Agree.merge _ _ _) | (with_reducible exact Agree.refl _ _) | (with_reducible refine Agree.upd ?_ _ _ rfl) | ((with_reducible refine Agree.inner ?_ ?_); (kernel_rfl)))
 refine r_exit rfl ?_
 refine r_seq ?_
 rw [List.take_of_length_le (by omega)] at hoo
 refine r_region ?_
 refine Zo rfl (run_mv (v := vo) rfl rfl) ?_
 refine r_opcall rfl rfl rfl (run_callf (vs := [vo]) rfl (by exact rfl) Tryz.func91 rfl (by kernel_rfl)) (ssort_calls hoo) ?_
 rintro e w13 ⟨rfl, hE13, hs13⟩
 refine ⟨_, rfl, ?_⟩
 have Q13 := hE13.size
 replace hV := evo_stepo hV hE13 (fun g hg => .inl (by first | exact (hoo.block hg).1 | (have := hoo.block hg; omega)))
 replace hoo := hs13
 refine r_nil ?_
 refine Zs ?_
 refine Zo rfl (run_mv (v := vo) rfl rfl) ?_
 refine Zn rfl (run_asg (v := vo) rfl rfl) ?_
 refine r_ret (res1 (v := vo) rfl rfl) ?_
 exact ⟨_, rfl, hV, hoo⟩
theorem sleqi_calls {aoa aob : Option Addr} {ba offa capa bb offb capb : Nat} {a b : List Int} {w0 : World} (ha : RowE w0 aoa ba offa capa a) (hb : RowE w0 aob bb offb capb b) :
    Calls Tryz.prog 45 #[.slice aoa a.length capa, .slice aob b.length capb] w0 fun e w' => e = .returned (.bool (decide (a = b))) ∧ Evo w0 w' [] := by
 refine calls_enter (n := 26) Tryz.func45 rfl Tryz.ntmps45 rfl ?_
 have hV : Evo w0 w0 [] := Evo.refl _ _
 have ha0 := keepE ha
 have hbd_ha := ha.bd
 have hb0 := keepE hb
 have hbd_hb := hb.bd
 refine Zs ?_
 refine Zn rfl (asB rfl) ?_
 refine r_seq ?_
 refine Zs ?_
 refine Zo rfl (mvS rfl) ?_
 refine Zo rfl (run_lenSl rfl rfl Tryz.underlying22) ?_
 refine Zo rfl (mvS rfl) ?_
 refine Zo rfl (run_lenSl rfl rfl Tryz.underlying22) ?_
 refine Zn rfl (run_neq rfl rfl rfl) ?_
 refine r_cond rfl (fun hc1 => ?_) (fun hc1 => ?_)
 ·skip
  refine Zs ?_
  refine Zn rfl (asB rfl) ?_
  refine r_ret (res1 (v := .bool _) rfl rfl) ?_
  exact ⟨by rw [decide_eq_false (fun h => by subst h; omega)], hV⟩
 refine r_skip ?_
 refine r_seq ?_
 refine Zs ?_
 refine Zo rfl (mvS rfl) ?_
 refine Zo rfl (run_lenSl rfl rfl Tryz.underlying22) ?_
 refine Zn rfl (mvI rfl) ?_
 refine r_block ?_
 refine r_loop (α := Nat) [4, 5, 13, 14, 15, 16, 17, 18, 19, 20, 21, 22, 23, 24, 25] (fun k g w => g 13 = .int .i64 (k : Nat) ∧ k ≤ a.length ∧ a.take k = b.take k ∧ w0.heap.size ≤ w.heap.size ∧ Evo w0 w []) (fun k => a.length - k) 0 ?_ ?_
 ·refine ⟨(by first | exact rfl | exact congrArg (Value.int _) (by omega) | exact congrArg (Value.int _) (by dsimp only; omega) | exact congrArg (Value.int _) (by simp) | exact congrArg S (by simp)), (by first | assumption | omega | (dsimp only; omega) | (simp; done)), (by simp), (by first | assumption | omega | (dsimp only; omega) | (simp; done)), hV⟩
 rintro k g w3 ⟨hj4, hk_k, hpre, hzl2, hV⟩
 have hs_w3hV := hV.size
 replace ha := ha0 _ hV
 replace hb := hb0 _ hV
 refine Zk 13 (v := .int .i64 (k : Nat)) (by exact hj4) ?_
 refine Zs ?_
 refine Zn rfl (run_lss rfl rfl rfl) ?_
 refine r_seq ?_
 refine r_cond rfl (fun hc5 => ?_) (fun hc5 => ?_)
 ·skip
  refine r_skip ?_
  refine r_seq ?_
  refine r_block ?_
  refine Zs ?_
  refine Zo rfl (mvI rfl) ?_
  refine Zn rfl (asI rfl) ?_
  refine r_seq ?_
  refine r_qregion (by kernel_rfl) (by kernel_rfl) ?_
  refine Zq rfl (fun _ _ => mvS rfl) ?_
  refine Zq rfl (fun _ _ => mvI rfl) ?_
  refine q_op rfl rfl rfl (fun w' hC => run_ix (k) rfl Tryz.underlying22 ty_3 rfl rfl (by first | exact rfl | omega) (by omega) (ha.addr (i := k) (by omega))) ?_
  have hA60 := fun (w' : World) (h : Evo w0 w' []) => (ha0 w' h).atD (k) (by omega)
  have hA6 := hA60 _ hV
  refine q_op rfl rfl rfl (fun w' hC => run_ld1 rfl ag_3 rfl ((hA6.evo0 hC).cell 0 rfl)) ?_
  refine Zq rfl (fun _ _ => mvS rfl) ?_
  refine Zq rfl (fun _ _ => mvI rfl) ?_
  refine q_op rfl rfl rfl (fun w' hC => run_ix (k) rfl Tryz.underlying22 ty_3 rfl rfl (by first | exact rfl | omega) (by omega) (hb.addr (i := k) (by omega))) ?_
  have hA70 := fun (w' : World) (h : Evo w0 w' []) => (hb0 w' h).atD (k) (by omega)
  have hA7 := hA70 _ hV
  refine q_op rfl rfl rfl (fun w' hC => run_ld1 rfl ag_3 rfl ((hA7.evo0 hC).cell 0 rfl)) ?_
  refine q_op rfl rfl rfl (fun w' hC => run_neq rfl rfl rfl) ?_
  refine q_nil (fun w8 hE9 => ?_)
  have Q8 := hE9.size
  replace hV := Z0 hV hE9
  replace ha := ha0 _ hV
  replace hb := hb0 _ hV
  refine r_cond rfl (fun hc10 => ?_) (fun hc10 => ?_)
  ·skip
   refine Zs ?_
   refine Zn rfl (asB rfl) ?_
   refine r_ret (res1 (v := .bool _) rfl rfl) ?_
   exact ⟨by rw [decide_eq_false (fun h => by subst h; exact hc10 rfl)], hV⟩
  refine r_skip ?_
  refine r_blk ?_
  refine r_region ?_
  refine Zo rfl (run_add rfl rfl rfl (by omega) (by omega)) ?_
  refine Zn rfl (mvI rfl) ?_
  refine r_again (k + 1) ?_ ?_ ?_
  ·first | omega | (dsimp only; omega)
  ·refine ⟨(by first | exact rfl | exact congrArg (Value.int _) (by omega) | exact congrArg (Value.int _) (by dsimp only; omega) | exact congrArg (Value.int _) (by simp) | exact congrArg S (by simp)), (by first | assumption | omega | (dsimp only; omega) | (simp; done)), (itake_bothI hpre (by omega) (by omega) (Classical.not_not.1 hc10)), (by first | assumption | omega | (dsimp only; omega) | (simp; done)), hV⟩
  repeat (first | (with_reducible exact Agree.merge _ _ _) | (with_reducible exact Agree.refl _ _) | (with_reducible refine Agree.upd ?_ _ _ rfl) | ((with_reducible refine Agree.inner ?_ ?_); (kernel_rfl)))
 refine r_exit rfl ?_
 refine Zs ?_
 refine Zn rfl (asB rfl) ?_
 refine r_ret (res1 (v := .bool _) rfl rfl) ?_
 exact ⟨by rw [decide_eq_true (by rw [List.take_of_length_le (by omega), List.take_of_length_le (by omega)] at hpre; exact hpre)], hV⟩
theorem sleqt_calls {aoa aob : Option Addr} {ba offa capa bb offb capb : Nat} {a b : List Vc.Item} {w0 : World} (ha : RowE w0 aoa ba offa capa a) (hb : RowE w0 aob bb offb capb b) :
    Calls Tryz.prog 103 #[.slice aoa a.length capa, .slice aob b.length capb] w0 fun e w' => e = .returned (.bool (decide (a = b))) ∧ Evo w0 w' [] := by
 refine calls_enter (n := 26) Tryz.func103 rfl Tryz.ntmps103 rfl ?_
 have hV : Evo w0 w0 [] := Evo.refl _ _
 have ha0 := keepE ha
 have hbd_ha := ha.bd
 have hb0 := keepE hb
 have hbd_hb := hb.bd
 refine Zs ?_
 refine Zn rfl (asB rfl) ?_
 refine r_seq ?_
 refine Zs ?_
 refine Zo rfl (mvS rfl) ?_
 refine Zo rfl (run_lenSl rfl rfl Tryz.underlying33) ?_
 refine Zo rfl (mvS rfl) ?_
 refine Zo rfl (run_lenSl rfl rfl Tryz.underlying33) ?_
 refine Zn rfl (run_neq rfl rfl rfl) ?_
 refine r_cond rfl (fun hc1 => ?_) (fun hc1 => ?_)
 ·skip
  refine Zs ?_
  refine Zn rfl (asB rfl) ?_
  refine r_ret (res1 (v := .bool _) rfl rfl) ?_
  exact ⟨by rw [decide_eq_false (fun h => by subst h; omega)], hV⟩
 refine r_skip ?_
 refine r_seq ?_
 refine Zs ?_
 refine Zo rfl (mvS rfl) ?_
 refine Zo rfl (run_lenSl rfl rfl Tryz.underlying33) ?_
 refine Zn rfl (mvI rfl) ?_
 refine r_block ?_
 refine r_loop (α := Nat) [4, 5, 13, 14, 15, 16, 17, 18, 19, 20, 21, 22, 23, 24, 25] (fun k g w => g 13 = .int .i64 (k : Nat) ∧ k ≤ a.length ∧ a.take k = b.take k ∧ w0.heap.size ≤ w.heap.size ∧ Evo w0 w []) (fun k => a.length - k) 0 ?_ ?_
 ·refine ⟨(by first | exact rfl | exact congrArg (Value.int _) (by omega) | exact congrArg (Value.int _) (by dsimp only; omega) | exact congrArg (Value.int _) (by simp) | exact congrArg S (by simp)), (by first | assumption | omega | (dsimp only; omega) | (simp; done)), (by simp), (by first | assumption | omega | (dsimp only; omega) | (simp; done)), hV⟩
 rintro k g w3 ⟨hj4, hk_k, hpre, hzl2, hV⟩
 have hs_w3hV := hV.size
 replace ha := ha0 _ hV
 replace hb := hb0 _ hV
 refine Zk 13 (v := .int .i64 (k : Nat)) (by exact hj4) ?_
 refine Zs ?_
 refine Zn rfl (run_lss rfl rfl rfl) ?_
 refine r_seq ?_
 refine r_cond rfl (fun hc5 => ?_) (fun hc5 => ?_)
 ·skip
  refine r_skip ?_
  refine r_seq ?_
  refine r_block ?_
  refine Zs ?_
  refine Zo rfl (mvI rfl) ?_
  refine Zn rfl (asI rfl) ?_
  refine r_seq ?_
  refine r_qregion (by kernel_rfl) (by kernel_rfl) ?_
  refine Zq rfl (fun _ _ => mvS rfl) ?_
  refine Zq rfl (fun _ _ => mvI rfl) ?_
  refine q_op rfl rfl rfl (fun w' hC => run_ix (k) rfl Tryz.underlying33 ty_32 rfl rfl (by first | exact rfl | omega) (by omega) (ha.addr (i := k) (by omega))) ?_
  have hA60 := fun (w' : World) (h : Evo w0 w' []) => (ha0 w' h).atD (k) (by omega)
  have hA6 := hA60 _ hV
  refine q_op rfl rfl rfl (fun w' hC => run_ldN rfl ag_32 ty_32 rfl rfl (hA6.evo0 hC)) ?_
  refine Zq rfl (fun _ _ => mvS rfl) ?_
  refine Zq rfl (fun _ _ => mvI rfl) ?_
  refine q_op rfl rfl rfl (fun w' hC => run_ix (k) rfl Tryz.underlying33 ty_32 rfl rfl (by first | exact rfl | omega) (by omega) (hb.addr (i := k) (by omega))) ?_
  have hA70 := fun (w' : World) (h : Evo w0 w' []) => (hb0 w' h).atD (k) (by omega)
  have hA7 := hA70 _ hV
  refine q_op rfl rfl rfl (fun w' hC => run_ldN rfl ag_32 ty_32 rfl rfl (hA7.evo0 hC)) ?_
  refine q_op rfl rfl rfl (fun w' hC => run_neqI _ _ rfl Tryz.eqGuardType32 ei_32 rfl rfl) ?_
  refine q_nil (fun w8 hE9 => ?_)
  have Q8 := hE9.size
  replace hV := Z0 hV hE9
  replace ha := ha0 _ hV
  replace hb := hb0 _ hV
  refine r_cond rfl (fun hc10 => ?_) (fun hc10 => ?_)
  ·skip
   refine Zs ?_
   refine Zn rfl (asB rfl) ?_
   refine r_ret (res1 (v := .bool _) rfl rfl) ?_
   exact ⟨by rw [decide_eq_false (fun h => by subst h; exact hc10 rfl)], hV⟩
  refine r_skip ?_
  refine r_blk ?_
  refine r_region ?_
  refine Zo rfl (run_add rfl rfl rfl (by omega) (by omega)) ?_
  refine Zn rfl (mvI rfl) ?_
  refine r_again (k + 1) ?_ ?_ ?_
  ·first | omega | (dsimp only; omega)
  ·refine ⟨(by first | exact rfl | exact congrArg (Value.int _) (by omega) | exact congrArg (Value.int _) (by dsimp only; omega) | exact congrArg (Value.int _) (by simp) | exact congrArg S (by simp)), (by first | assumption | omega | (dsimp only; omega) | (simp; done)), (itake_bothI hpre (by omega) (by omega) (Classical.not_not.1 hc10)), (by first | assumption | omega | (dsimp only; omega) | (simp; done)), hV⟩
  repeat (first | (with_reducible exact Agree.merge _ _ _) | (with_reducible exact Agree.refl _ _) | (with_reducible refine Agree.upd ?_ _ _ rfl) | ((with_reducible refine Agree.inner ?_ ?_); (kernel_rfl)))
 refine r_exit rfl ?_
 refine Zs ?_
 refine Zn rfl (asB rfl) ?_
 refine r_ret (res1 (v := .bool _) rfl rfl) ?_
 exact ⟨by rw [decide_eq_true (by rw [List.take_of_length_le (by omega), List.take_of_length_le (by omega)] at hpre; exact hpre)], hV⟩
theorem isame_calls {aoa aob : Option Addr} {ba offa capa bb offb capb : Nat} {a b : List Vc.Item} {w0 : World} (ha : RowE w0 aoa ba offa capa a) (hb : RowE w0 aob bb offb capb b) :
    Calls Tryz.prog 61 #[.slice aoa a.length capa, .slice aob b.length capb] w0 fun e w' => e = .returned (.bool (decide (a = b))) ∧ Evo w0 w' [] := by
 refine calls_enter (n := 8) Tryz.func61 rfl Tryz.ntmps61 rfl ?_
 have hV : Evo w0 w0 [] := Evo.refl _ _
 have ha0 := keepE ha
 have hbd_ha := ha.bd
 have hb0 := keepE hb
 have hbd_hb := hb.bd
 refine Zs ?_
 refine Zn rfl (asB rfl) ?_
 refine Zs ?_
 refine Zo rfl (mvS rfl) ?_
 refine Zo rfl (mvS rfl) ?_
 refine r_opcall rfl rfl rfl (run_callf (vs := [.slice _ _ _, .slice _ _ _]) rfl (by exact rfl) Tryz.func103 rfl (by kernel_rfl)) (sleqt_calls ha hb) ?_
 rintro e w1 ⟨rfl, hE1⟩
 refine ⟨_, rfl, ?_⟩
 have Q1 := hE1.size
 replace hV := Z0 hV hE1
 refine Zn rfl (asB rfl) ?_
 refine r_ret (res1 (v := .bool _) rfl rfl) ?_
 exact ⟨rfl, hV⟩
theorem pl_39 : placesP Tryz.prog 39 = some [(0, 1), (1, 1), (2, 1)] := by kernel_rfl
theorem fo_28_1 : fieldP Tryz.prog 28 1 = some 13 := by kernel_rfl
theorem fo_28_2 : fieldP Tryz.prog 28 2 = some 14 := by kernel_rfl
theorem if1_len {p : Prop} [Decidable p] {x : Vc.Item} : (if p then [x] else []).length ≤ 1 := by split <;> simp
theorem hlo_bd {lo : Int} {n : Nat} (h : lo = 0 ∨ (100 ≤ lo ∧ lo ≤ 10000)) (hn : n ≤ 101000) : 0 ≤ lo * (n : Int) ∧ lo * (n : Int) ≤ 1010000000 := mul_bd (by omega) (by omega) (by omega) (by omega)
end Go.Proofs.YtlfjocbnbceceaaGreatDoor
namespace Go.Proofs.YtlfjocbnbceceaaGreatDoor
open Go Go.RowKit Go.Vc
theorem lev_at {l : List Int} {rest : List Value} {k : Nat} (hk : k < l.length) : (l.map (Value.int .i64) ++ rest)[k]? = some (.int .i64 (l.getD k default)) := by
  rw [List.getElem?_append_left (by simpa using hk), List.getElem?_map, List.getElem?_eq_getElem hk, List.getD_eq_getElem?_getD, List.getElem?_eq_getElem hk]; rfl
theorem chk_lev {c : Chk} {k : Nat} (hk : k < c.lev.length) (h : c.lev.getD k default < 0 ∨ 2 < c.lev.getD k default) : validK c = 1 := if_pos (.inl ⟨_, getD_in hk, h⟩)
theorem chk_num {c : Chk} (h : ((¬ c.lev.getD 0 default = 0 ∨ c.short < 0) ∨ 100 < c.short) ∨ (¬ c.long = 0 ∧ (c.long < 100 ∨ 10000 < c.long))) : validK c = 1 := if_pos (.inr h)
theorem lev_ok {c : Chk} {n : Nat} (hn : c.lev.length = n) (hno : ∀ j, j < n → ¬ (c.lev.getD j default < 0 ∨ 2 < c.lev.getD j default)) : ¬ ∃ x ∈ c.lev, x < 0 ∨ 2 < x := fun ⟨x, hx, h⟩ => by
  obtain ⟨j, hj, rfl⟩ := List.mem_iff_getElem.1 hx
  exact hno j (by omega) (by rwa [List.getD_eq_getElem?_getD, List.getElem?_eq_getElem hj])
theorem chk_ok {c : Chk} {n : Nat} (hn : c.lev.length = n) (hno : ∀ j, j < n → ¬ (c.lev.getD j default < 0 ∨ 2 < c.lev.getD j default)) (h : ¬ (((¬ c.lev.getD 0 default = 0 ∨ c.short < 0) ∨ 100 < c.short) ∨ (¬ c.long = 0 ∧ (c.long < 100 ∨ 10000 < c.long)))) : validK c = validT c.ts c.cls :=
  if_neg (fun q => q.elim (lev_ok hn hno) h)
def levR (c : Chk) (j : Nat) : Prop := (c.lev.getD j default < 0 ∨ 2 < c.lev.getD j default) ∨ (j = 0 ∧ ¬ c.lev.getD j default = 0)
theorem chkR_lev {c : Chk} {k : Nat} (hk : k < c.lev.length) (h : levR c k) : validK c = 1 := by
  rcases h with h | ⟨rfl, h⟩
  · exact chk_lev hk h
  · exact chk_num (.inl (.inl (.inl h)))
theorem chkR_num {c : Chk} (h : (c.short < 0 ∨ 100 < c.short) ∨ (¬ c.long = 0 ∧ (c.long < 100 ∨ 10000 < c.long))) : validK c = 1 :=
  chk_num (h.imp (fun h => h.imp (fun h => .inr h) id) id)
theorem chkR_ok {c : Chk} {n : Nat} (hn : c.lev.length = n) (h0 : 0 < n) (hno : ∀ j, j < n → ¬ levR c j) (h : ¬ ((c.short < 0 ∨ 100 < c.short) ∨ (¬ c.long = 0 ∧ (c.long < 100 ∨ 10000 < c.long)))) : validK c = validT c.ts c.cls :=
  chk_ok hn (fun j hj q => hno j hj (.inl q)) (fun q => q.elim (fun q => q.elim (fun q => q.elim (fun q => hno 0 h0 (.inr ⟨rfl, q⟩)) (fun q => h (.inl (.inl q)))) (fun q => h (.inl (.inr q)))) (fun q => h (.inr q)))
theorem valid_nums {c : Chk} (h : validK c = 0) : (0 ≤ c.short ∧ c.short ≤ 100) ∧ (c.long = 0 ∨ (100 ≤ c.long ∧ c.long ≤ 10000)) := by
  have h1 : ¬ chkBad c := fun q => by unfold validK at h; rw [if_pos q] at h; exact absurd h (by decide)
  unfold chkBad at h1; omega
theorem missT_req {tg : List Vc.Item} {x : TermL} (h : missT tg x = true) : 0 < x.req.length := by
  unfold missT at h
  rcases hx : x.req with _ | ⟨a, b⟩
  · rw [hx] at h; simp at h
  · simp
theorem missN_in {tg : List Vc.Item} {ts : List TermL} {n : Nat} {sp : List Spt} {k : Nat} (hk : k < (missN tg ts (foundN n sp)).length) : (missN tg ts (foundN n sp)).getD k default < n ∧ 0 < (ts.getD ((missN tg ts (foundN n sp)).getD k default) default).req.length := by
  have h1 := List.mem_filter.1 (getD_in hk)
  exact ⟨List.mem_range.1 (List.mem_filter.1 h1.1).1, missT_req h1.2⟩
theorem wrong_len {tg : List Vc.Item} {ts : List TermL} {sp : List Spt} (h : ∀ x ∈ ts, x.forb.length ≤ 1048576) (h2 : ts.length ≤ 40) : (wrongK tg ts [] (foundN ts.length sp)).length ≤ 41943040 := by
  have h1 := wrongK_len tg ts (B := 1048576) (fun k => by
    rcases Nat.lt_or_ge k ts.length with h3 | h3
    · exact h _ (getD_in h3)
    · rw [List.getD_eq_getElem?_getD, List.getElem?_eq_none h3]; exact Nat.zero_le _) (foundN ts.length sp) []
  have h3 := foundN_len ts.length sp
  rw [List.length_nil, Nat.zero_add] at h1
  exact Nat.le_trans h1 (Nat.le_trans (Nat.mul_le_mul_right _ (show (foundN ts.length sp).length ≤ 40 by omega)) (by decide))
theorem map_step {α β : Type} [Inhabited α] {l : List α} {k : Nat} (hk : k < l.length) (f : α → β) : (l.take (k + 1)).map f = (l.take k).map f ++ [f (l.getD k default)] := by rw [take_succD l k hk, List.map_append]; rfl
theorem filt_yes {α : Type} [Inhabited α] {l : List α} {p : α → Bool} {k : Nat} (hk : k < l.length) (h : p (l.getD k default) = true) : (l.take (k + 1)).filter p = (l.take k).filter p ++ [l.getD k default] := by
  rw [take_succD l k hk, List.filter_append, List.filter_cons_of_pos h]; rfl
theorem filt_no {α : Type} [Inhabited α] {l : List α} {p : α → Bool} {k : Nat} (hk : k < l.length) (h : ¬ p (l.getD k default) = true) : (l.take (k + 1)).filter p = (l.take k).filter p := by
  rw [take_succD l k hk, List.filter_append, List.filter_cons_of_neg h]; simp
theorem plainF_len (c : Chk) (s t : Str) : (plainF c s t).length ≤ 6 := by
  have h : ∀ {p : Prop} [Decidable p] {x : Vc.Item}, (if p then [x] else []).length ≤ 1 := by intro p _ x; split <;> simp
  unfold plainF edgeA edgeB dblF signF longF shortF
  simp only [List.length_append]
  have h1 := @h (¬ leadS s = leadS t) _ ⟨7, begW, 0⟩
  have h2 := @h (¬ trailS s = trailS t) _ ⟨7, endW, 0⟩
  have h3 := @h (0 < dblN t) _ ⟨8, [], (dblN t : Nat)⟩
  have h4 := @h (¬ signL s = signL t) _ ⟨9, signL t, 0⟩
  have h5 := @h (¬ c.long = 0 ∧ c.long * (s.length : Nat) < 100 * (t.length : Nat)) _ ⟨12, longW, 0⟩
  have h6 := @h (¬ c.short = 0 ∧ 100 * (t.length : Nat) < c.short * (s.length : Nat)) _ ⟨12, shortW, 0⟩
  omega
structure FLens (c : Chk) (f g : List Vc.Item) : Prop where
  same : (sameF f g).length ≤ 1
  slot : (slotF f g).length ≤ 2000
  tag : (tagF f g).length ≤ 2000
  shape : (shapeF f g).length ≤ 1
  num : (numF f g).length ≤ 202000
  plain : (plainF c (plainL f) (plainL g)).length ≤ 6
theorem fLens {c : Chk} {f g : List Vc.Item} (hf : Tiny f) (hg : Tiny g) : FLens c f g where
  same := by unfold sameF; split <;> simp
  slot := by
    have h := difS_len 3 (sortS (slotsL f)) (sortS (slotsL g))
    rw [sortS_len, sortS_len] at h
    have h1 := slotsL_len f; have h2 := slotsL_len g; have h3 := hf.1; have h4 := hg.1
    unfold slotF; omega
  tag := by
    have h : (difT (tagsL f) (tagsL g)).length ≤ (dist (tagsL f ++ tagsL g)).length := difs_len _ _ _ _
    have h0 := dist_len (tagsL f ++ tagsL g)
    rw [List.length_append] at h0
    have h1 := tagsL_len f; have h2 := tagsL_len g; have h3 := hf.1; have h4 := hg.1
    unfold tagF; omega
  shape := by unfold shapeF; split <;> simp
  num := by
    have h := difS_len 6 (numT (toks f)) (numT (toks g))
    have h1 := numT_len (toks f); have h2 := numT_len (toks g); have h3 := hf.tlen; have h4 := hg.tlen
    unfold numF; omega
  plain := plainF_len _ _ _
theorem findA_len {c : Chk} {f g : List Vc.Item} (hf : Tiny f) (hg : Tiny g) (hz : c.ts.length ≤ 40) (hj : ∀ x ∈ c.ts, x.forb.length ≤ 1048576) : (findA c f g).length ≤ 50000000 := by
  have h := fLens (c := c) hf hg
  have h1 := h.same; have h2 := h.slot; have h3 := h.tag; have h4 := h.shape; have h5 := h.num; have h6 := h.plain
  have h7 := wrong_len (tg := toks g) (sp := spotsF (toks f) (fsT c.cls c.ts) 0) hj hz
  have h8 := missN_len (toks g) c.ts (foundN c.ts.length (spotsF (toks f) (fsT c.cls c.ts) 0))
  have h9 := foundN_len c.ts.length (spotsF (toks f) (fsT c.cls c.ts) 0)
  unfold findA termF missF wrongF fndK
  simp only [List.length_append, List.length_map]
  omega
theorem findL_len {c : Chk} {f g : List Vc.Item} (hf : Tiny f) (hg : Tiny g) (hz : c.ts.length ≤ 40) (hj : ∀ x ∈ c.ts, x.forb.length ≤ 1048576) : (findL c f g).length ≤ 50000000 := by
  unfold findL; split
  · simp
  · exact findA_len hf hg hz hj
theorem runF_ok {c : Chk} {f g : List Vc.Item} (h : ¬ ¬ validK c = 0) : runF c f g = (sortF (findL c f g)).filter (levF c) := if_pos (Classical.not_not.1 h)
theorem runF_bad {c : Chk} {f g : List Vc.Item} (h : ¬ validK c = 0) : runF c f g = [] := if_neg h
theorem levF_yes {c : Chk} {x : Vc.Item} (h : ¬ c.lev.getD x.kind.toNat default = 0) : levF c x = true := decide_eq_true h
theorem levF_no {c : Chk} {x : Vc.Item} (h : ¬ ¬ c.lev.getD x.kind.toNat default = 0) : ¬ levF c x = true := fun q => h (of_decide_eq_true q)
theorem ag_24 : aggP Tryz.prog 24 = some true := by kernel_rfl
theorem ag_25 : aggP Tryz.prog 25 = some false := by kernel_rfl
theorem ag_26 : aggP Tryz.prog 26 = some false := by kernel_rfl
theorem ag_28 : aggP Tryz.prog 28 = some true := by kernel_rfl
theorem fo_28_0 : fieldP Tryz.prog 28 0 = some 0 := by kernel_rfl
theorem fo_28_3 : fieldP Tryz.prog 28 3 = some 15 := by kernel_rfl
theorem fo_28_4 : fieldP Tryz.prog 28 4 = some 16 := by kernel_rfl
theorem ty_24 : tyP Tryz.prog 24 = some (13, 104, some (.agg #[(.int .i64 0), (.int .i64 0), (.int .i64 0), (.int .i64 0), (.int .i64 0), (.int .i64 0), (.int .i64 0), (.int .i64 0), (.int .i64 0), (.int .i64 0), (.int .i64 0), (.int .i64 0), (.int .i64 0)])) := by kernel_rfl
theorem ty_28 : tyP Tryz.prog 28 = some (17, 168, some (.agg #[(.int .i64 0), (.int .i64 0), (.int .i64 0), (.int .i64 0), (.int .i64 0), (.int .i64 0), (.int .i64 0), (.int .i64 0), (.int .i64 0), (.int .i64 0), (.int .i64 0), (.int .i64 0), (.int .i64 0), (.int .i64 0), (.int .i64 0), (.slice none 0 0), (.slice none 0 0)])) := by kernel_rfl
theorem ei_39 : ∀ (w : World) (x y : Vc.Item), (Op.equalIn 10000 39 (.agg (Enc.enc x).toArray) (.agg (Enc.enc y).toArray)).run Tryz.prog w = .ok (decide (x = y)) w := fun w x y => equalIn_item 9998 Tryz.underlying39 Tryz.stoodInHeld39 (by decide) (by decide) (by decide) rfl rfl rfl Tryz.underlying3 Tryz.underlying9 Tryz.underlying3 ag_3 ag_9 ag_3 x y
set_option maxHeartbeats 1000000 in
theorem kvalidate_calls {l0 l1 l2 l3 l4 l5 l6 l7 l8 l9 l10 l11 l12 sh lo : Int} {aot : Option Addr} {bt ot capt : Nat} {ts : List TermL} {aoc : Option Addr} {bc oc capc : Nat} {cl : List Clas} {w0 : World} (hts : RowR w0 aot bt ot capt ts) (hcl : RowR w0 aoc bc oc capc cl) :
    Calls Tryz.prog 12 #[.agg #[.int .i64 l0, .int .i64 l1, .int .i64 l2, .int .i64 l3, .int .i64 l4, .int .i64 l5, .int .i64 l6, .int .i64 l7, .int .i64 l8, .int .i64 l9, .int .i64 l10, .int .i64 l11, .int .i64 l12, .int .i64 sh, .int .i64 lo, .slice aot ts.length capt, .slice aoc cl.length capc]] w0 fun e w' => e = .returned (.int .i64 (validK (⟨[l0, l1, l2, l3, l4, l5, l6, l7, l8, l9, l10, l11, l12], sh, lo, ts, cl⟩ : Chk))) ∧ Evo w0 w' [] := by
 refine calls_enter (n := 51) Tryz.func12 rfl Tryz.ntmps12 rfl ?_
 have hV : Evo w0 w0 [] := Evo.refl _ _
 have hts0 := hts.keep
 have hbd_hts := hts.bd
 have hcl0 := hcl.keep
 have hbd_hcl := hcl.bd
 refine Zs ?_
 refine r_box (vs := [_, _, _, _, _, _, _, _, _, _, _, _, _, _, _, _, _]) rfl rfl rfl ?_
 intro b1 w2 J1 E2 B1 Y1
 have Q2 := E2.size
 replace hV := Z0 hV E2
 replace hts := hts0.now hV
 replace hcl := hcl0.now hV
 have hAb1 := B1.at
 refine Zn rfl (asI rfl) ?_
 refine r_seq ?_
 refine Zs ?_
 refine Zo rfl (run_fa rfl rfl fo_28_0) ?_
 refine Zo rfl (run_ldN rfl ag_24 ty_24 rfl rfl (hAb1.part 0 13 (ds := [_, _, _, _, _, _, _, _, _, _, _, _, _]) rfl)) ?_
 refine Zn rfl (mvI rfl) ?_
 refine r_block ?_
 refine r_loop (α := Nat) [2, 4, 7, 8, 9, 10, 11, 12, 13, 14, 15, 16] (fun k g w => g 7 = .int .i64 (k : Nat) ∧ Blk w b1 28 [.int .i64 l0, .int .i64 l1, .int .i64 l2, .int .i64 l3, .int .i64 l4, .int .i64 l5, .int .i64 l6, .int .i64 l7, .int .i64 l8, .int .i64 l9, .int .i64 l10, .int .i64 l11, .int .i64 l12, .int .i64 sh, .int .i64 lo, .slice aot ts.length capt, .slice aoc cl.length capc] ∧ At w b1 0 [.int .i64 l0, .int .i64 l1, .int .i64 l2, .int .i64 l3, .int .i64 l4, .int .i64 l5, .int .i64 l6, .int .i64 l7, .int .i64 l8, .int .i64 l9, .int .i64 l10, .int .i64 l11, .int .i64 l12, .int .i64 sh, .int .i64 lo, .slice aot ts.length capt, .slice aoc cl.length capc] ∧ k ≤ 13 ∧ (∀ j, j < k → ¬ (([l0, l1, l2, l3, l4, l5, l6, l7, l8, l9, l10, l11, l12] : List Int).getD j default < 0 ∨ 2 < ([l0, l1, l2, l3, l4, l5, l6, l7, l8, l9, l10, l11, l12] : List Int).getD j default)) ∧ w2.heap.size ≤ w.heap.size ∧ Evo w0 w []) (fun k => 13 - k) 0 ?_ ?_
 ·refine ⟨rfl, B1, B1.at, (by first | assumption | omega | (dsimp only; omega) | (simp; done)), (fun j h => by omega), (by first | assumption | omega | (dsimp only; omega) | (simp; done)), hV⟩
 rintro k g w4 ⟨hj5, B1, hAb1, hk, hno, hzl3, hV⟩
 have hs_w4hV := hV.size
 have hlt6 := B1.lt
 replace hts := hts0.now hV
 replace hcl := hcl0.now hV
 refine Zk 7 (v := .int .i64 (k : Nat)) (by exact hj5) ?_
 refine Zs ?_
 refine Zn rfl (run_lss rfl rfl rfl) ?_
 refine r_seq ?_
 refine r_cond rfl (fun hc7 => ?_) (fun hc7 => ?_)
 ·skip
  refine r_skip ?_
  refine r_seq ?_
  refine r_block ?_
  refine Zs ?_
  refine Zo rfl (run_ixA1 (v := .int .i64 (([l0, l1, l2, l3, l4, l5, l6, l7, l8, l9, l10, l11, l12] : List Int).getD k default)) (k) rfl Tryz.underlying24 ty_3 ag_3 rfl rfl (by first | exact rfl | omega) (by omega) (by exact lev_at (l := ([l0, l1, l2, l3, l4, l5, l6, l7, l8, l9, l10, l11, l12] : List Int)) (rest := []) (show k < 13 by omega))) ?_
  refine Zn rfl (asI rfl) ?_
  refine Zs ?_
  refine Zo rfl (mvI rfl) ?_
  refine Zo rfl (run_lss rfl rfl rfl) ?_
  refine Zo rfl (mvB rfl) ?_
  refine r_g rfl (wantF rfl) rfl (fun hg => run_mv (v := .int _ _) rfl rfl) ?_
  refine r_g rfl (wantF rfl) rfl (fun hg => run_gtr rfl (glv rfl (fun h => h) hg) rfl) ?_
  refine Zn rfl (run_pick_or rfl rfl rfl (fun hq => glv rfl (fun h => h) hq)) ?_
  refine r_cond rfl (fun hc8 => ?_) (fun hc8 => ?_)
  ·skip
   refine Zs ?_
   refine Zn rfl (asI rfl) ?_
   refine r_ret (res1 (v := .int _ _) rfl rfl) ?_
   exact ⟨ret_int (chk_lev (c := (⟨[l0, l1, l2, l3, l4, l5, l6, l7, l8, l9, l10, l11, l12], sh, lo, ts, cl⟩ : Chk)) (k := k) (show k < 13 by omega) hc8).symm, hV⟩
  refine r_skip ?_
  refine r_blk ?_
  refine r_region ?_
  refine Zo rfl (run_add rfl rfl rfl (by omega) (by omega)) ?_
  refine Zn rfl (mvI rfl) ?_
  refine r_again (k + 1) ?_ ?_ ?_
  ·first | omega | (dsimp only; omega)
  ·refine ⟨(congrArg (Value.int _) (by omega)), B1, B1.at, (by first | assumption | omega | (dsimp only; omega) | (simp; done)), (upto0 hno hc8), (by first | assumption | omega | (dsimp only; omega) | (simp; done)), hV⟩
  repeat (first | (with_reducible exact Agree.merge _ _ _) | (with_reducible exact Agree.refl _ _) | (with_reducible refine Agree.upd ?_ _ _ rfl) | ((with_reducible refine Agree.inner ?_ ?_); (kernel_rfl)))
 refine r_exit rfl ?_
 refine r_seq ?_
 refine Zs ?_
 refine Zo rfl (run_fa rfl rfl fo_28_0) ?_
 refine Zo rfl (run_ixP (0) rfl Tryz.underlying24 ty_3 rfl rfl rfl (by omega)) ?_
 refine Zo rfl (run_ld1 rfl ag_3 rfl (hAb1.cell 0 rfl)) ?_
 refine Zo rfl (run_neq rfl rfl rfl) ?_
 refine Zo rfl (mvB rfl) ?_
 refine r_g rfl (wantF rfl) rfl (fun hg => run_fa rfl rfl fo_28_1) ?_
 refine r_g rfl (wantF rfl) rfl (fun hg => run_ld1 rfl ag_3 (glv rfl (fun h => h) hg) (hAb1.cell 13 rfl)) ?_
 refine r_g rfl (wantF rfl) rfl (fun hg => run_lss rfl (glv rfl (fun h => h) hg) rfl) ?_
 refine Zo rfl (run_pick_or rfl rfl rfl (fun hq => glv rfl (fun h => h) hq)) ?_
 refine Zo rfl (mvB rfl) ?_
 refine r_g rfl (wantF rfl) rfl (fun hg => run_fa rfl rfl fo_28_1) ?_
 refine r_g rfl (wantF rfl) rfl (fun hg => run_ld1 rfl ag_3 (glv rfl (fun h => h) hg) (hAb1.cell 13 rfl)) ?_
 refine r_g rfl (wantF rfl) rfl (fun hg => run_gtr rfl (glv rfl (fun h => h) hg) rfl) ?_
 refine Zo rfl (run_pick_or rfl rfl rfl (fun hq => glv rfl (fun h => h) hq)) ?_
 refine Zo rfl (mvB rfl) ?_
 refine r_g rfl (wantF rfl) rfl (fun hg => run_fa rfl rfl fo_28_2) ?_
 refine r_g rfl (wantF rfl) rfl (fun hg => run_ld1 rfl ag_3 (glv rfl (fun h => h) hg) (hAb1.cell 14 rfl)) ?_
 refine r_g rfl (wantF rfl) rfl (fun hg => run_neq rfl (glv rfl (fun h => h) hg) rfl) ?_
 refine r_g rfl (wantF rfl) rfl (fun hg => run_mv (v := .bool _) rfl (glv rfl (fun h => h) hg)) ?_
 refine r_g rfl (wantTg rfl) rfl (fun hg => run_fa rfl rfl fo_28_2) ?_
 refine r_g rfl (wantTg rfl) rfl (fun hg => run_ld1 rfl ag_3 (glv rfl (fun h => h) hg) (hAb1.cell 14 rfl)) ?_
 refine r_g rfl (wantTg rfl) rfl (fun hg => run_lss rfl (glv rfl (fun h => h) hg) rfl) ?_
 refine r_g rfl (wantTg rfl) rfl (fun hg => run_mv (v := .bool _) rfl (glv rfl (fun h => h) hg)) ?_
 refine r_g rfl (wantFg rfl) rfl (fun hg => run_fa rfl rfl fo_28_2) ?_
 refine r_g rfl (wantFg rfl) rfl (fun hg => run_ld1 rfl ag_3 (glv rfl (fun h => h) hg) (hAb1.cell 14 rfl)) ?_
 refine r_g rfl (wantFg rfl) rfl (fun hg => run_gtr rfl (glv rfl (fun h => h) hg) rfl) ?_
 refine r_g rfl (wantTg rfl) rfl (fun hg => run_pick_or rfl (glv rfl (fun h => h) hg) rfl (fun hq => glv rfl (fun h => h) (And.intro hg hq))) ?_
 refine r_g rfl (wantF rfl) rfl (fun hg => run_pick_and rfl (glv rfl (fun h => h) hg) (fun hq => glv rfl (fun h => h) (And.intro hg hq)) rfl) ?_
 refine Zn rfl (run_pick_or rfl rfl rfl (fun hq => glv rfl (fun h => h) hq)) ?_
 refine r_cond rfl (fun hc9 => ?_) (fun hc9 => ?_)
 ·skip
  refine Zs ?_
  refine Zn rfl (asI rfl) ?_
  refine r_ret (res1 (v := .int _ _) rfl rfl) ?_
  exact ⟨ret_int (chk_num (c := (⟨[l0, l1, l2, l3, l4, l5, l6, l7, l8, l9, l10, l11, l12], sh, lo, ts, cl⟩ : Chk)) hc9).symm, hV⟩
 refine r_skip ?_
 refine Zs ?_
 refine Zo rfl (run_fa rfl rfl fo_28_3) ?_
 refine Zo rfl (run_ld1 rfl ag_25 rfl (hAb1.cell 15 rfl)) ?_
 refine Zo rfl (run_fa rfl rfl fo_28_4) ?_
 refine Zo rfl (run_ld1 rfl ag_26 rfl (hAb1.cell 16 rfl)) ?_
 refine r_opcall rfl rfl rfl (run_callf (vs := [.slice aot ts.length capt, .slice aoc cl.length capc]) rfl (by exact rfl) Tryz.func29 rfl (by kernel_rfl)) (tvalidate_calls hts hcl) ?_
 rintro e w10 ⟨rfl, hE10⟩
 refine ⟨_, rfl, ?_⟩
 have Q10 := hE10.size
 replace hV := Z0 hV hE10
 refine Zn rfl (asI rfl) ?_
 refine r_ret (res1 (v := .int _ _) rfl rfl) ?_
 exact ⟨ret_int (chk_ok (c := (⟨[l0, l1, l2, l3, l4, l5, l6, l7, l8, l9, l10, l11, l12], sh, lo, ts, cl⟩ : Chk)) (n := 13) rfl (fun j hj => hno j (by omega)) hc9).symm, hV⟩
set_option maxHeartbeats 1000000 in
theorem rkvalidate_calls {l0 l1 l2 l3 l4 l5 l6 l7 l8 l9 l10 l11 l12 sh lo : Int} {aot : Option Addr} {bt ot capt : Nat} {ts : List TermL} {aoc : Option Addr} {bc oc capc : Nat} {cl : List Clas} {w0 : World} (hts : RowR w0 aot bt ot capt ts) (hcl : RowR w0 aoc bc oc capc cl) (hjb : ∀ x ∈ ts, JudT x) :
    Calls Tryz.prog 13 #[.agg #[.int .i64 l0, .int .i64 l1, .int .i64 l2, .int .i64 l3, .int .i64 l4, .int .i64 l5, .int .i64 l6, .int .i64 l7, .int .i64 l8, .int .i64 l9, .int .i64 l10, .int .i64 l11, .int .i64 l12, .int .i64 sh, .int .i64 lo, .slice aot ts.length capt, .slice aoc cl.length capc]] w0 fun e w' => e = .returned (.int .i64 (validK (⟨[l0, l1, l2, l3, l4, l5, l6, l7, l8, l9, l10, l11, l12], sh, lo, ts, cl⟩ : Chk))) ∧ Evo w0 w' [] := by
 refine calls_enter (n := 54) Tryz.func13 rfl Tryz.ntmps13 rfl ?_
 have hV : Evo w0 w0 [] := Evo.refl _ _
 have hts0 := hts.keep
 have hbd_hts := hts.bd
 have hcl0 := hcl.keep
 have hbd_hcl := hcl.bd
 refine Zs ?_
 refine r_box (vs := [_, _, _, _, _, _, _, _, _, _, _, _, _, _, _, _, _]) rfl rfl rfl ?_
 intro b1 w2 J1 E2 B1 Y1
 have Q2 := E2.size
 replace hV := Z0 hV E2
 replace hts := hts0.now hV
 replace hcl := hcl0.now hV
 have hAb1 := B1.at
 refine Zn rfl (asI rfl) ?_
 refine r_seq ?_
 refine Zs ?_
 refine Zo rfl (run_fa rfl rfl fo_28_0) ?_
 refine Zo rfl (run_ldN rfl ag_24 ty_24 rfl rfl (hAb1.part 0 13 (ds := [_, _, _, _, _, _, _, _, _, _, _, _, _]) rfl)) ?_
 refine Zn rfl (mvI rfl) ?_
 refine r_block ?_
 refine r_loop (α := Nat) [2, 3, 4, 7, 8, 9, 10, 11, 12, 13, 14, 15, 16, 17, 18, 19, 20, 21, 22, 23, 24, 25] (fun k g w => g 7 = .int .i64 (k : Nat) ∧ Blk w b1 28 [.int .i64 l0, .int .i64 l1, .int .i64 l2, .int .i64 l3, .int .i64 l4, .int .i64 l5, .int .i64 l6, .int .i64 l7, .int .i64 l8, .int .i64 l9, .int .i64 l10, .int .i64 l11, .int .i64 l12, .int .i64 sh, .int .i64 lo, .slice aot ts.length capt, .slice aoc cl.length capc] ∧ At w b1 0 [.int .i64 l0, .int .i64 l1, .int .i64 l2, .int .i64 l3, .int .i64 l4, .int .i64 l5, .int .i64 l6, .int .i64 l7, .int .i64 l8, .int .i64 l9, .int .i64 l10, .int .i64 l11, .int .i64 l12, .int .i64 sh, .int .i64 lo, .slice aot ts.length capt, .slice aoc cl.length capc] ∧ k ≤ 13 ∧ (∀ j, j < k → ¬ (levR (⟨[l0, l1, l2, l3, l4, l5, l6, l7, l8, l9, l10, l11, l12], sh, lo, ts, cl⟩ : Chk) j)) ∧ w2.heap.size ≤ w.heap.size ∧ Evo w0 w []) (fun k => 13 - k) 0 ?_ ?_
 ·refine ⟨rfl, B1, B1.at, (by first | assumption | omega | (dsimp only; omega) | (simp; done)), (fun j h => by omega), (by first | assumption | omega | (dsimp only; omega) | (simp; done)), hV⟩
 rintro k g w4 ⟨hj5, B1, hAb1, hk, hno, hzl3, hV⟩
 have hs_w4hV := hV.size
 have hlt6 := B1.lt
 replace hts := hts0.now hV
 replace hcl := hcl0.now hV
 refine Zk 7 (v := .int .i64 (k : Nat)) (by exact hj5) ?_
 refine Zs ?_
 refine Zn rfl (run_lss rfl rfl rfl) ?_
 refine r_seq ?_
 refine r_cond rfl (fun hc7 => ?_) (fun hc7 => ?_)
 ·skip
  refine r_skip ?_
  refine r_seq ?_
  refine r_block ?_
  refine Zs ?_
  refine Zo rfl (mvI rfl) ?_
  refine Zo rfl (run_ixA1 (v := .int .i64 (([l0, l1, l2, l3, l4, l5, l6, l7, l8, l9, l10, l11, l12] : List Int).getD k default)) (k) rfl Tryz.underlying24 ty_3 ag_3 rfl rfl (by first | exact rfl | omega) (by omega) (by exact lev_at (l := ([l0, l1, l2, l3, l4, l5, l6, l7, l8, l9, l10, l11, l12] : List Int)) (rest := []) (show k < 13 by omega))) ?_
  refine Zo rfl (asI rfl) ?_
  refine Zn rfl (asI rfl) ?_
  refine Zs ?_
  refine Zo rfl (mvI rfl) ?_
  refine Zo rfl (run_lss rfl rfl rfl) ?_
  refine Zo rfl (mvB rfl) ?_
  refine r_g rfl (wantF rfl) rfl (fun hg => run_mv (v := .int _ _) rfl rfl) ?_
  refine r_g rfl (wantF rfl) rfl (fun hg => run_gtr rfl (glv rfl (fun h => h) hg) rfl) ?_
  refine Zo rfl (run_pick_or rfl rfl rfl (fun hq => glv rfl (fun h => h) hq)) ?_
  refine Zo rfl (mvB rfl) ?_
  refine r_g rfl (wantF rfl) rfl (fun hg => run_mv (v := .int _ _) rfl rfl) ?_
  refine r_g rfl (wantF rfl) rfl (fun hg => run_eql rfl (glv rfl (fun h => h) hg) rfl) ?_
  refine r_g rfl (wantF rfl) rfl (fun hg => run_mv (v := .bool _) rfl (glv rfl (fun h => h) hg)) ?_
  refine r_g rfl (wantTg rfl) rfl (fun hg => run_mv (v := .int _ _) rfl rfl) ?_
  refine r_g rfl (wantTg rfl) rfl (fun hg => run_neq rfl (glv rfl (fun h => h) hg) rfl) ?_
  refine r_g rfl (wantF rfl) rfl (fun hg => run_pick_and rfl (glv rfl (fun h => h) hg) (fun hq => glv rfl (fun h => h) (And.intro hg hq)) rfl) ?_
  refine Zn rfl (run_pick_or rfl rfl rfl (fun hq => glv rfl (fun h => h) hq)) ?_
  refine r_cond rfl (fun hc8 => ?_) (fun hc8 => ?_)
  ·skip
   refine Zs ?_
   refine Zn rfl (asI rfl) ?_
   refine r_ret (res1 (v := .int _ _) rfl rfl) ?_
   exact ⟨ret_int (chkR_lev (c := (⟨[l0, l1, l2, l3, l4, l5, l6, l7, l8, l9, l10, l11, l12], sh, lo, ts, cl⟩ : Chk)) (k := k) (show k < 13 by omega) (by have h9 := hc8; exact h9.imp (fun q => q) (fun q => ⟨by omega, q.2⟩))).symm, hV⟩
  refine r_skip ?_
  refine r_blk ?_
  refine r_region ?_
  refine Zo rfl (run_add rfl rfl rfl (by omega) (by omega)) ?_
  refine Zn rfl (mvI rfl) ?_
  refine r_again (k + 1) ?_ ?_ ?_
  ·first | omega | (dsimp only; omega)
  ·refine ⟨(congrArg (Value.int _) (by omega)), B1, B1.at, (by first | assumption | omega | (dsimp only; omega) | (simp; done)), (upto0 hno (fun q => hc8 (q.imp id (fun r => ⟨by have := r.1; omega, r.2⟩)))), (by first | assumption | omega | (dsimp only; omega) | (simp; done)), hV⟩
  repeat (first | (with_reducible exact Agree.merge _ _ _) | (with_reducible exact Agree.refl _ _) | (with_reducible refine Agree.upd ?_ _ _ rfl) | ((with_reducible refine Agree.inner ?_ ?_); (kernel_rfl)))
 refine r_exit rfl ?_
 refine r_seq ?_
 refine Zs ?_
 refine Zo rfl (run_fa rfl rfl fo_28_1) ?_
 refine Zo rfl (run_ld1 rfl ag_3 rfl (hAb1.cell 13 rfl)) ?_
 refine Zo rfl (run_lss rfl rfl rfl) ?_
 refine Zo rfl (mvB rfl) ?_
 refine r_g rfl (wantF rfl) rfl (fun hg => run_fa rfl rfl fo_28_1) ?_
 refine r_g rfl (wantF rfl) rfl (fun hg => run_ld1 rfl ag_3 (glv rfl (fun h => h) hg) (hAb1.cell 13 rfl)) ?_
 refine r_g rfl (wantF rfl) rfl (fun hg => run_gtr rfl (glv rfl (fun h => h) hg) rfl) ?_
 refine Zo rfl (run_pick_or rfl rfl rfl (fun hq => glv rfl (fun h => h) hq)) ?_
 refine Zo rfl (mvB rfl) ?_
 refine r_g rfl (wantF rfl) rfl (fun hg => run_fa rfl rfl fo_28_2) ?_
 refine r_g rfl (wantF rfl) rfl (fun hg => run_ld1 rfl ag_3 (glv rfl (fun h => h) hg) (hAb1.cell 14 rfl)) ?_
 refine r_g rfl (wantF rfl) rfl (fun hg => run_neq rfl (glv rfl (fun h => h) hg) rfl) ?_
 refine r_g rfl (wantF rfl) rfl (fun hg => run_mv (v := .bool _) rfl (glv rfl (fun h => h) hg)) ?_
 refine r_g rfl (wantTg rfl) rfl (fun hg => run_fa rfl rfl fo_28_2) ?_
 refine r_g rfl (wantTg rfl) rfl (fun hg => run_ld1 rfl ag_3 (glv rfl (fun h => h) hg) (hAb1.cell 14 rfl)) ?_
 refine r_g rfl (wantTg rfl) rfl (fun hg => run_lss rfl (glv rfl (fun h => h) hg) rfl) ?_
 refine r_g rfl (wantTg rfl) rfl (fun hg => run_mv (v := .bool _) rfl (glv rfl (fun h => h) hg)) ?_
 refine r_g rfl (wantFg rfl) rfl (fun hg => run_fa rfl rfl fo_28_2) ?_
 refine r_g rfl (wantFg rfl) rfl (fun hg => run_ld1 rfl ag_3 (glv rfl (fun h => h) hg) (hAb1.cell 14 rfl)) ?_
 refine r_g rfl (wantFg rfl) rfl (fun hg => run_gtr rfl (glv rfl (fun h => h) hg) rfl) ?_
 refine r_g rfl (wantTg rfl) rfl (fun hg => run_pick_or rfl (glv rfl (fun h => h) hg) rfl (fun hq => glv rfl (fun h => h) (And.intro hg hq))) ?_
 refine r_g rfl (wantF rfl) rfl (fun hg => run_pick_and rfl (glv rfl (fun h => h) hg) (fun hq => glv rfl (fun h => h) (And.intro hg hq)) rfl) ?_
 refine Zn rfl (run_pick_or rfl rfl rfl (fun hq => glv rfl (fun h => h) hq)) ?_
 refine r_cond rfl (fun hc9 => ?_) (fun hc9 => ?_)
 ·skip
  refine Zs ?_
  refine Zn rfl (asI rfl) ?_
  refine r_ret (res1 (v := .int _ _) rfl rfl) ?_
  exact ⟨ret_int (chkR_num (c := (⟨[l0, l1, l2, l3, l4, l5, l6, l7, l8, l9, l10, l11, l12], sh, lo, ts, cl⟩ : Chk)) hc9).symm, hV⟩
 refine r_skip ?_
 refine Zs ?_
 refine Zo rfl (run_fa rfl rfl fo_28_3) ?_
 refine Zo rfl (run_ld1 rfl ag_25 rfl (hAb1.cell 15 rfl)) ?_
 refine Zo rfl (run_fa rfl rfl fo_28_4) ?_
 refine Zo rfl (run_ld1 rfl ag_26 rfl (hAb1.cell 16 rfl)) ?_
 refine r_opcall rfl rfl rfl (run_callf (vs := [.slice aot ts.length capt, .slice aoc cl.length capc]) rfl (by exact rfl) Tryz.func30 rfl (by kernel_rfl)) (rtvalidate_calls hts hcl hjb) ?_
 rintro e w10 ⟨rfl, hE10⟩
 refine ⟨_, rfl, ?_⟩
 have Q10 := hE10.size
 replace hV := Z0 hV hE10
 refine Zn rfl (asI rfl) ?_
 refine r_ret (res1 (v := .int _ _) rfl rfl) ?_
 exact ⟨ret_int (chkR_ok (c := (⟨[l0, l1, l2, l3, l4, l5, l6, l7, l8, l9, l10, l11, l12], sh, lo, ts, cl⟩ : Chk)) (n := 13) rfl (by decide) (fun j hj => hno j (by omega)) hc9).symm, hV⟩
theorem ksame_calls {aoa aob : Option Addr} {ba offa capa bb offb capb : Nat} {a b : List Vc.Item} {w0 : World} (ha : RowE w0 aoa ba offa capa a) (hb : RowE w0 aob bb offb capb b) :
    Calls Tryz.prog 16 #[.slice aoa a.length capa, .slice aob b.length capb] w0 fun e w' => e = .returned (.bool (decide (a = b))) ∧ Evo w0 w' [] := by
 refine calls_enter (n := 26) Tryz.func16 rfl Tryz.ntmps16 rfl ?_
 have hV : Evo w0 w0 [] := Evo.refl _ _
 have ha0 := keepE ha
 have hbd_ha := ha.bd
 have hb0 := keepE hb
 have hbd_hb := hb.bd
 refine Zs ?_
 refine Zn rfl (asB rfl) ?_
 refine r_seq ?_
 refine Zs ?_
 refine Zo rfl (mvS rfl) ?_
 refine Zo rfl (run_lenSl rfl rfl Tryz.underlying34) ?_
 refine Zo rfl (mvS rfl) ?_
 refine Zo rfl (run_lenSl rfl rfl Tryz.underlying34) ?_
 refine Zn rfl (run_neq rfl rfl rfl) ?_
 refine r_cond rfl (fun hc1 => ?_) (fun hc1 => ?_)
 ·skip
  refine Zs ?_
  refine Zn rfl (asB rfl) ?_
  refine r_ret (res1 (v := .bool _) rfl rfl) ?_
  exact ⟨by rw [decide_eq_false (fun h => by subst h; omega)], hV⟩
 refine r_skip ?_
 refine r_seq ?_
 refine Zs ?_
 refine Zo rfl (mvS rfl) ?_
 refine Zo rfl (run_lenSl rfl rfl Tryz.underlying34) ?_
 refine Zn rfl (mvI rfl) ?_
 refine r_block ?_
 refine r_loop (α := Nat) [4, 5, 13, 14, 15, 16, 17, 18, 19, 20, 21, 22, 23, 24, 25] (fun k g w => g 13 = .int .i64 (k : Nat) ∧ k ≤ a.length ∧ a.take k = b.take k ∧ w0.heap.size ≤ w.heap.size ∧ Evo w0 w []) (fun k => a.length - k) 0 ?_ ?_
 ·refine ⟨(by first | exact rfl | exact congrArg (Value.int _) (by omega) | exact congrArg (Value.int _) (by dsimp only; omega) | exact congrArg (Value.int _) (by simp) | exact congrArg S (by simp)), (by first | assumption | omega | (dsimp only; omega) | (simp; done)), (by simp), (by first | assumption | omega | (dsimp only; omega) | (simp; done)), hV⟩
 rintro k g w3 ⟨hj4, hk_k, hpre, hzl2, hV⟩
 have hs_w3hV := hV.size
 replace ha := ha0 _ hV
 replace hb := hb0 _ hV
 refine Zk 13 (v := .int .i64 (k : Nat)) (by exact hj4) ?_
 refine Zs ?_
 refine Zn rfl (run_lss rfl rfl rfl) ?_
 refine r_seq ?_
 refine r_cond rfl (fun hc5 => ?_) (fun hc5 => ?_)
 ·skip
  refine r_skip ?_
  refine r_seq ?_
  refine r_block ?_
  refine Zs ?_
  refine Zo rfl (mvI rfl) ?_
  refine Zn rfl (asI rfl) ?_
  refine r_seq ?_
  refine r_qregion (by kernel_rfl) (by kernel_rfl) ?_
  refine Zq rfl (fun _ _ => mvS rfl) ?_
  refine Zq rfl (fun _ _ => mvI rfl) ?_
  refine q_op rfl rfl rfl (fun w' hC => run_ix (k) rfl Tryz.underlying34 ty_39 rfl rfl (by first | exact rfl | omega) (by omega) (ha.addr (i := k) (by omega))) ?_
  have hA60 := fun (w' : World) (h : Evo w0 w' []) => (ha0 w' h).atD (k) (by omega)
  have hA6 := hA60 _ hV
  refine q_op rfl rfl rfl (fun w' hC => run_ldN rfl ag_39 ty_39 rfl rfl (hA6.evo0 hC)) ?_
  refine Zq rfl (fun _ _ => mvS rfl) ?_
  refine Zq rfl (fun _ _ => mvI rfl) ?_
  refine q_op rfl rfl rfl (fun w' hC => run_ix (k) rfl Tryz.underlying34 ty_39 rfl rfl (by first | exact rfl | omega) (by omega) (hb.addr (i := k) (by omega))) ?_
  have hA70 := fun (w' : World) (h : Evo w0 w' []) => (hb0 w' h).atD (k) (by omega)
  have hA7 := hA70 _ hV
  refine q_op rfl rfl rfl (fun w' hC => run_ldN rfl ag_39 ty_39 rfl rfl (hA7.evo0 hC)) ?_
  refine q_op rfl rfl rfl (fun w' hC => run_neqI _ _ rfl Tryz.eqGuardType39 ei_39 rfl rfl) ?_
  refine q_nil (fun w8 hE9 => ?_)
  have Q8 := hE9.size
  replace hV := Z0 hV hE9
  replace ha := ha0 _ hV
  replace hb := hb0 _ hV
  refine r_cond rfl (fun hc10 => ?_) (fun hc10 => ?_)
  ·skip
   refine Zs ?_
   refine Zn rfl (asB rfl) ?_
   refine r_ret (res1 (v := .bool _) rfl rfl) ?_
   exact ⟨by rw [decide_eq_false (fun h => by subst h; exact hc10 rfl)], hV⟩
  refine r_skip ?_
  refine r_blk ?_
  refine r_region ?_
  refine Zo rfl (run_add rfl rfl rfl (by omega) (by omega)) ?_
  refine Zn rfl (mvI rfl) ?_
  refine r_again (k + 1) ?_ ?_ ?_
  ·first | omega | (dsimp only; omega)
  ·refine ⟨(by first | exact rfl | exact congrArg (Value.int _) (by omega) | exact congrArg (Value.int _) (by dsimp only; omega) | exact congrArg (Value.int _) (by simp) | exact congrArg S (by simp)), (by first | assumption | omega | (dsimp only; omega) | (simp; done)), (take_bothI hpre (by omega) (by omega) (Classical.not_not.1 hc10)), (by first | assumption | omega | (dsimp only; omega) | (simp; done)), hV⟩
  repeat (first | (with_reducible exact Agree.merge _ _ _) | (with_reducible exact Agree.refl _ _) | (with_reducible refine Agree.upd ?_ _ _ rfl) | ((with_reducible refine Agree.inner ?_ ?_); (kernel_rfl)))
 refine r_exit rfl ?_
 refine Zs ?_
 refine Zn rfl (asB rfl) ?_
 refine r_ret (res1 (v := .bool _) rfl rfl) ?_
 exact ⟨by rw [decide_eq_true (by rw [List.take_of_length_le (by omega), List.take_of_length_le (by omega)] at hpre; exact hpre)], hV⟩
theorem cell_at {w : World} {b off j o : Nat} {cs : List Value} {v : Value} (h : At w b off cs) (hj : cs[j]? = some v) (ho : o = off + j) : w.cell? ⟨b, o, none⟩ = some v := by subst ho; exact h.cell j hj
end Go.Proofs.YtlfjocbnbceceaaGreatDoor
namespace Go.Vc
open Go Go.RowKit Go.IntWalk
theorem bump1 {α : Type} [DecidableEq α] {m : List (α × Int)} {a : α} {v d : Int} (hv : v = (getM m a).getD 0 + d) : Bump m (setM m a v) a d := fun x => by
  rw [getM_setM, hv]
  by_cases h : x = a
  · rw [if_pos h, if_pos h.symm]
  · rw [if_neg h, if_neg (Ne.symm h)]
theorem mdone {α β : Type} {dn l1 l2 m : List (α × β)} {p : α × β} (h : (dn ++ (l1 ++ p :: l2)).Perm m) : ((dn ++ [p]) ++ (l1 ++ l2)).Perm m := by
  refine List.Perm.trans ?_ h
  rw [List.append_assoc]
  refine List.Perm.append_left _ ?_
  show (p :: (l1 ++ l2)).Perm _
  exact (List.perm_middle (a := p) (l₁ := l1) (l₂ := l2)).symm
theorem own_anch {v v2 : Value} {n s : Nat} {X : List Nat} (h : v2.ownBlock = v.ownBlock ∨ ∃ g, v2.ownBlock = some g ∧ s ≤ g) (ha : ∀ g, v.ownBlock = some g → n ≤ g ∨ g ∈ X) (hs : n ≤ s) : ∀ g, v2.ownBlock = some g → n ≤ g ∨ g ∈ X := fun g hg =>
  h.elim (fun h => ha g (h ▸ hg)) (fun ⟨q, h, h2⟩ => .inl (by rw [h] at hg; injection hg with hg; omega))
theorem own_ne {v v2 : Value} {s b : Nat} (h : v2.ownBlock = v.ownBlock ∨ ∃ g, v2.ownBlock = some g ∧ s ≤ g) (ha : ∀ g, v.ownBlock = some g → g ≠ b) (hb : b < s) : ∀ g, v2.ownBlock = some g → g ≠ b := fun g hg =>
  h.elim (fun h => ha g (h ▸ hg)) (fun ⟨q, h, h2⟩ => by rw [h] at hg; injection hg with hg; omega)
theorem own_apart {v v2 : Value} {s r b : Nat} (h : v2.ownBlock = v.ownBlock ∨ ∃ g, v2.ownBlock = some g ∧ s ≤ g) (ha : ∀ g, v.ownBlock = some g → g ≠ r ∧ g ≠ b) (hr : r < s) (hb : b < s) : ∀ g, v2.ownBlock = some g → g ≠ r ∧ g ≠ b := fun g hg =>
  h.elim (fun h => ha g (h ▸ hg)) (fun ⟨q, h, h2⟩ => by rw [h] at hg; injection hg with hg; omega)
end Go.Vc
namespace Go.Proofs.YtlfjocbnbceceaaGreatDoor
open Go Go.RowKit Go.Vc
def mkP (k : Int) (p : Str × Int) : Vc.Item := mkS k p.1 p.2
def mkQ (p : Vc.Item × Int) : Vc.Item := mkT p.1 p.2
theorem app_map {α : Type} (l : List Vc.Item) (dn : List α) (f : α → Vc.Item) (p : α) : l ++ (dn ++ [p]).map f = l ++ dn.map f ++ [f p] := by rw [List.map_append, List.append_assoc]; rfl
theorem difS_perm {k : Int} {a b : List Str} {m dn : List (Str × Int)} (h : DifM a b m) (hp : (dn ++ []).Perm m) : (dn.map (mkP k)).Perm (difS k a b) := by
  rw [List.append_nil] at hp
  exact (hp.map _).trans (difs_perm h (uniS_nodup a b) (fun x hx => uniS_mem.2 hx.symm) (mkS k))
theorem difT_perm {a b : List Vc.Item} {m dn : List (Vc.Item × Int)} (h : DifM a b m) (hp : (dn ++ []).Perm m) : (dn.map mkQ).Perm (difT a b) := by
  rw [List.append_nil] at hp
  exact (hp.map _).trans (difs_perm h (dist_nodup _) (fun x hx => (dist_mem _ _).2 (List.mem_append.2 hx.symm)) mkT)
theorem difM_mem {α : Type} [DecidableEq α] {a b : List α} {m : List (α × Int)} (h : DifM a b m) {p : α × Int} (hp : p ∈ m) : p.1 ∈ a ∨ p.1 ∈ b := Classical.not_not.1 (fun q => ((h.2 p).1 hp).2 (dif_out (fun q2 => q q2.symm)))
end Go.Proofs.YtlfjocbnbceceaaGreatDoor
namespace Go.Vc
open Go Go.RowKit Go.IntWalk
open Go.ChangeMaps (setBlock)
theorem eraseIdx_map {α β : Type} (f : α → β) : ∀ (l : List α) (i : Nat), (l.eraseIdx i).map f = (l.map f).eraseIdx i
  | [], _ => by simp
  | a :: l, 0 => by simp
  | a :: l, i + 1 => by simp [eraseIdx_map f l i]
theorem filter_eraseIdx {α : Type} (p : α → Bool) : ∀ (l : List α) (i : Nat) (e : α), l[i]? = some e → p e = false → (l.eraseIdx i).filter p = l.filter p
  | [], i, e, h, _ => by simp at h
  | a :: l, 0, e, h, hp => by
    simp at h; subst h
    simp [List.filter_cons, hp]
  | a :: l, i + 1, e, h, hp => by
    have := filter_eraseIdx p l i e (by simpa using h) hp
    simp [List.filter_cons, this]
theorem nodup_idx {α β : Type} {m : List (α × β)} (hn : (m.map (·.1)).Nodup) {i j : Nat} {a : α} {u v : β} (h1 : m[i]? = some (a, u)) (h2 : m[j]? = some (a, v)) : i = j := by
  have hi : i < (m.map (·.1)).length := by
    rcases Nat.lt_or_ge i (m.map (·.1)).length with h | h
    · exact h
    · rw [List.getElem?_eq_none (by simpa using h)] at h1; cases h1
  exact (List.getElem?_inj hi hn (j := j)).1 (by simp [h1, h2])
theorem delM_miss {α β : Type} [DecidableEq α] {m : List (α × β)} {a : α} (h : getM m a = none) : delM m a = m := by
  unfold delM
  refine List.filter_eq_self.2 (fun p hp => ?_)
  unfold getM at h
  simp only [Option.map_eq_none_iff, List.find?_eq_none, decide_eq_true_eq] at h
  simp [h p hp]
theorem delM_hit {α β : Type} [DecidableEq α] : ∀ {m : List (α × β)} {a : α} {v : β} {i : Nat}, (m.map (·.1)).Nodup → m[i]? = some (a, v) → delM m a = m.eraseIdx i
  | [], _, _, _, _, h => by simp at h
  | p :: m, a, v, 0, hn, h => by
    simp at h; subst h
    simp only [List.map_cons, List.nodup_cons] at hn
    show ((a, v) :: m).filter _ = m
    rw [List.filter_cons, if_neg (by simp)]
    refine List.filter_eq_self.2 (fun q hq => ?_)
    have : q.1 ≠ a := fun e => hn.1 (List.mem_map.2 ⟨q, hq, e⟩)
    simp [this]
  | p :: m, a, v, i + 1, hn, h => by
    simp only [List.map_cons, List.nodup_cons] at hn
    have h' : m[i]? = some (a, v) := by simpa using h
    have hp : p.1 ≠ a := fun e => hn.1 (by rw [e]; exact List.mem_map.2 ⟨(a, v), List.mem_of_getElem? h', rfl⟩)
    have ih := delM_hit hn.2 h'
    show (p :: m).filter _ = p :: m.eraseIdx i
    rw [List.filter_cons, if_pos (by simp [hp])]
    exact congrArg _ ih
theorem delM_keys {α β : Type} [DecidableEq α] (m : List (α × β)) (a : α) (hn : (m.map (·.1)).Nodup) : ((delM m a).map (·.1)).Nodup := hn.sublist (List.Sublist.map _ List.filter_sublist)
section
variable {P : Program} {B : Exit → Act → World → Prop} {n : Nat} {k : List Kont} {f : Fr} {w : World} {ops : Array Oper} {rest : List Oper} {o : Oper}
variable {α β : Type} {ek : α → Value} {ev : β → Value} {b : Nat} {m : List (α × β)} {K E : TypeId}
theorem erase_list (es : Array MapEntry) (i : Nat) : (es.eraseIdxIfInBounds i).toList = es.toList.eraseIdx i := by
  unfold Array.eraseIdxIfInBounds
  split
  · simp
  · rw [List.eraseIdx_of_length_le (by simpa using Nat.le_of_not_lt ‹_›)]
theorem run_delM [DecidableEq α] (L : KeyLaw P K ek) {T ty : TypeId} (hu : P.underlying T = some (.map K E)) (a : α) {es : Array MapEntry} {c : Nat} (hb : w.heap[b]? = some (.map es c)) (h : MapIs w b ek ev m) :
    ∃ es', (Builtin.delete_ #[T, K] ty #[.map (some b), ek a]).run P w = .ok (.tuple #[]) (setBlock w b (.map es' c)) ∧ (es'.toList = es.toList ∧ delM m a = m ∨ ∃ i v, m[i]? = some (a, v) ∧ es'.toList = es.toList.eraseIdx i ∧ delM m a = m.eraseIdx i) := by
  obtain ⟨es2, c2, hb2, hf⟩ := h.find L a
  rw [hb] at hb2
  injection hb2 with hb2
  injection hb2 with e1 e2
  subst e1; subst e2
  have hnd := h.nodup
  rcases hf with ⟨hg, hf⟩ | ⟨i, u, hg, hi, hne, hf⟩
  · refine ⟨es, ?_, .inl ⟨rfl, delM_miss hg⟩⟩
    simp [Builtin.delete_, run_underlying hu, MapKept.run_getObj_map hb, L.check, hf, MapKept.run_setObj_map _ hb, Result.andThen, setBlock]
  · refine ⟨es.eraseIdxIfInBounds i, ?_, .inr ⟨i, u, hi, erase_list es i, delM_hit hnd hi⟩⟩
    simp [Builtin.delete_, run_underlying hu, MapKept.run_getObj_map hb, L.check, hf, MapKept.run_setObj_map _ hb, Result.andThen, setBlock]
theorem mem_erase {γ : Type} {l : List γ} {i : Nat} {x : γ} (h : x ∈ l.eraseIdx i) : x ∈ l := (List.eraseIdx_sublist l i).subset h
theorem r_delI [DecidableEq α] (L : KeyLaw P K ek) {T : TypeId} {t : TypeId} {pos : String} {aft : Array Edge} {x y : Operand} {r : Nat} {p : α × β} {left : List (α × β)} (hu : P.underlying T = some (.map K E)) (hx : opv f x = .map (some b)) (hy : opv f y = ek p.1)
    (h : IterIs w r b ek ev m left (some p)) (h2 : ∀ w', Evo w w' [b] → w'.heap.size = w.heap.size → IterIs w' r b ek ev (delM m p.1) left none → KL P B n ops k rest f w') :
    KL P B n ops k (⟨none, .call ⟨.builtin .delete, #[x, y], #[T, K]⟩, t, pos, aft, none⟩ :: rest) f w := by
  have hM := h.map
  have hne := h.ne
  obtain ⟨es, c, seen, hb, he, hbn, hlt, hnd, hr, hleft, hlast⟩ := h.ex
  obtain ⟨es', hrun, hc⟩ := run_delM (ty := t) L hu p.1 hb hM
  obtain ⟨e, hem, ⟨s, hs⟩, hk, hv⟩ := hlast p rfl
  refine r_opv0 (v := .tuple #[]) (w' := setBlock w b (.map es' c)) rfl rfl (run_builtin (s := Builtin.delete_ #[T, K] t #[.map (some b), ek p.1]) rfl (by simp [hx, hy]) (fun cs => rfl) hrun) (h2 _ (Evo.setB _ _ _) (by simp [setBlock]) ⟨es', c, seen, heap_setB hM.lt _, ?_, ?_, ?_, delM_keys m p.1 hnd, ?_, ?_, fun q hq => by cases hq⟩)
  · rcases hc with ⟨h1, h3⟩ | ⟨i, v, _, h1, h3⟩
    · rw [h1, h3]; exact he
    · rw [h1, h3, eraseIdx_map, he, ← eraseIdx_map]
  · rcases hc with ⟨h1, _⟩ | ⟨i, v, _, h1, _⟩
    · rw [h1]; exact hbn
    · rw [h1]; exact hbn.sublist ((List.eraseIdx_sublist _ _).map _)
  · intro e hm
    rcases hc with ⟨h1, _⟩ | ⟨i, v, _, h1, _⟩
    · rw [h1] at hm; exact hlt e hm
    · rw [h1] at hm; exact hlt e (mem_erase hm)
  · rw [heap_setB_ne _ hne]; exact hr
  · rcases hc with ⟨h1, _⟩ | ⟨i, v, hi, h1, _⟩
    · rw [h1]; exact hleft
    · obtain ⟨j, hj⟩ := List.getElem?_of_mem hem
      have hmj := entry_at he j
      rw [hj] at hmj
      cases hmj2 : m[j]? with
      | none => rw [hmj2] at hmj; simp at hmj
      | some q =>
        rw [hmj2] at hmj
        simp only [Option.map_some, Option.some.injEq, Prod.mk.injEq] at hmj
        have hq : q.1 = p.1 := L.inj _ _ (hmj.1.symm.trans hk)
        have hij : i = j := nodup_idx hnd hi (by rw [hmj2, ← hq])
        subst hij
        rw [h1, filter_eraseIdx _ _ _ _ hj (by rw [hs]; simp)]
        exact hleft
end
end Go.Vc
