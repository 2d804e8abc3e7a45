/-
  Walks that tell that draws only go on: a closure that the library's sort calls. Generic over the program.
-/
import Derived.Test.YtomklacppmaljaaLb
import Derived.Shelf.SlSortCmp.NoneTotal
namespace Go.Vc
open Go Go.RowKit Go.IntWalk Go.Sort
section
variable {P : Program} {B : Exit → Act → World → Prop} {n : Nat} {k : List Kont} {f : Fr} {w : World} {ops : Array Oper} {rest : List Oper}
theorem r_boxD {T d : Nat} {t : TypeId} {pos : String} {aft : Array Edge} {x : Operand} {v : Value} {vs : List Value} (hx : opv f x = v) (hv : v.cells = vs.toArray) (hd : Nat.blt d n = true)
    (h : ∀ b w', b = w.heap.size → Evo w w' [] → Blk w' b T vs → w'.heap.size = b + 1 → w.drawn ≤ w'.drawn → KL P B n ops k rest (upd f d (.pointer (some ⟨b, 0, none⟩))) w') :
    KL P B n ops k (⟨some d, .box T x, t, pos, aft, none⟩ :: rest) f w := by
  refine r_op (v := .pointer (some ⟨w.heap.size, 0, none⟩)) (w' := w.alloc (.cells vs.toArray T)) rfl rfl hd ?_ (h _ _ rfl (Evo.alloc _ _ _) (heap_alloc_new w _) (by simp) (Nat.le_refl _))
  simp [execOp, hx, Instr.box, newVar, newRow, hv]
theorem h_regionD {id : Nat} {l : List Oper} (E : List Nat) (hm : P.follows .mixedOrders = true) (h : ∀ w1, Evo w w1 [] → Evo w w1 E → w.drawn ≤ w1.drawn → HA P B n k (fun w' => Evo w w' E) l.toArray l.toArray.size [] f w1) : KF P B n (.code (.region id l.toArray true) :: k) f w := by
  intro a ha
  show (Code.region id l.toArray true).wp P (Kx P B k) a w
  exact wp_region_noPanic (wp_region_any hm (any_of_F _ _ _ _ (h _ (Evo.drew _ _) (Evo.drew _ _) (Nat.le_succ _) a ha)))
theorem r_bsliceD {T E d len m bb : Nat} {t : TypeId} {pos : String} {aft : Array Edge} {ps : List (Nat × Operand)} {pv : List (Nat × Value)} {z : Value} {zs cs : List Value}
    (hu : P.underlying T = some (.slice E)) (ht : tyP P E = some (m, bb, some z)) (hz : z.cells = zs.toArray) (hd : Nat.blt d n = true) (hps : (ps.map fun p => (p.1, opv f p.2)) = pv) (hlen : (Nat.beq zs.length m && Nat.ble 1 m && Nat.ble (len * m) 10000) = true)
    (hf : fillL (fun i => some (i * m, m)) (List.replicate len zs).flatten pv = some cs)
    (h : ∀ b w', b = w.heap.size → Evo w w' [] → Blk w' b E cs → w'.heap.size = b + 1 → w.drawn ≤ w'.drawn → KL P B n ops k rest (upd f d (.slice (some ⟨b, 0, none⟩) len len)) w') :
    KL P B n ops k (⟨some d, .buildSlice T len ps.toArray, t, pos, aft, none⟩ :: rest) f w := by
  refine r_op (v := .slice (some ⟨w.heap.size, 0, none⟩) len len) (w' := w.alloc (.cells cs.toArray E)) rfl rfl hd ?_ (h _ _ rfl (Evo.alloc _ _ _) (heap_alloc_new w _) (by simp) (Nat.le_refl _))
  unfold execOp
  simp only []
  rw [map_parts, hps]
  simp only [Bool.and_eq_true, Nat.ble_eq] at hlen
  have hzl := Nat.eq_of_beq_eq_true hlen.1.1
  have h24 : ¬ (2 ^ 24 < len * m) := by have : (2:Nat) ^ 24 = 16777216 := by decide
                                        omega
  have hfill := fill_of _ _ _ hf
  rw [← zeros_cells hz hzl (by omega) len] at hfill
  by_cases h0 : len * m = 0
  · have hl0 : len = 0 := by
      rcases Nat.mul_eq_zero.1 h0 with h1 | h1
      · exact h1
      · omega
    subst hl0
    have e0 : ∀ g : Nat → Value, (Array.range 0).map g = #[] := fun g => Array.eq_empty_of_size_eq_zero (by simp)
    have hfill' : Instr.fill (fun i => some (i * m, m)) #[] pv = some cs.toArray := by
      rw [show 0 * m = 0 by omega, e0] at hfill
      exact hfill
    simp [Instr.buildSlice, run_underlying hu, run_sizeOf ht, newRow, e0, hfill']
  · simp [Instr.buildSlice, run_underlying hu, run_sizeOf ht, run_zero ht, h24, h0, newRow]
    rw [hfill]
    simp
end
theorem growD_of {w w' : World} (h : Evo w w' []) (hd : w.drawn ≤ w'.drawn) : ∃ q os', w' = grow (w.drewN q) os' := by
  obtain ⟨h1, h2, h3, h4, h5⟩ := h
  refine ⟨w'.drawn - w.drawn, w'.heap.extract w.heap.size w'.heap.size, ?_⟩
  have hh : w'.heap = w.heap ++ w'.heap.extract w.heap.size w'.heap.size := by
    apply Array.ext_getElem?
    intro i
    rcases Nat.lt_or_ge i w.heap.size with hi | hi
    · rw [Array.getElem?_append_left hi]; exact h5 i hi (by simp)
    · rw [Array.getElem?_append_right hi, Array.getElem?_extract]
      split
      · congr 1; omega
      · rw [Array.getElem?_eq_none (by omega)]
  cases w; cases w'
  simp only [grow, World.drewN] at *
  subst h1; subst h2; subst h3
  simp only [World.mk.injEq, true_and]
  refine ⟨hh, ?_, trivial⟩
  omega
/-- a literal of flat values as a slice of our own -/
theorem ownE_lit {α : Type} [Enc α] {w : World} {b base : Nat} {E : TypeId} {cs : List Value} (L : List α) (h : Blk w b E cs) (hc : cs = (L.map Enc.enc).flatten) (hb : base ≤ b) (hl : L.length ≤ 10000) : OwnE w base E (.slice (some ⟨b, 0, none⟩) L.length L.length) L := by
  subst hc
  have hall : ∀ cs ∈ L.map (Enc.enc : α → List Value), cs.length = Enc.n α := fun cs hcs => by
    obtain ⟨x, _, rfl⟩ := List.mem_map.1 hcs; exact Enc.len x
  have hfl := flatten_length _ _ hall
  refine ⟨⟨hfl, .inr ⟨b, L.length, _, by rw [List.length_map], hb, h, by simp, by unfold maxLen; omega, ?_, ?_⟩⟩, hall, by rw [List.length_map]; omega⟩
  · rw [List.length_map] at hfl; simpa using hfl
  · show List.take _ ((L.map Enc.enc).flatten.toArray).toList = _
    rw [← hfl]; exact List.take_length
theorem resC2 {P : Program} {n : Nat} {f : Fr} {w : World} {fn : Func} {s t : Nat} {T : TypeId} {b : Nat} {m bb : Nat} {z : Option Value} {cs : List Value} {u : Value} (h : fn.results = #[.cell s T, .tmp t]) (ha : aggP P T = some true) (ht : tyP P T = some (m, bb, z)) (hs : f s = .pointer (some ⟨b, 0, none⟩)) (hn : cs.length = m) (hc : At w b 0 cs) (hu : f t = u) :
    ∀ a, Is n f a → (results fn a.tmps).run P w = .ok (.tuple #[.agg cs.toArray, u]) w := fun a hi => by
  have h1 := run_loadN (P := P) (w := w) ha ht hn hc
  have h2 : (loadVar T ⟨b, 0, none⟩).run P w = .ok (.agg cs.toArray) w := by
    simpa [Instr.loadAt, Instr.sureAddr] using h1
  simp [results, h, hi.get, hs, hu, asAddr, h2]
end Go.Vc
