/-
  Slices of bytes: what a string is appended to, bytes as a string; slices of slices; room that is asked for ahead. Generic over the program.
-/
import Derived.Test.YtkdgoghmkmpfnaaEqs
import Derived.Lib.AppendStr
import Derived.Lib.AppendZeros
import Derived.Laws.IdiomStrings
namespace Go.Vc
open Go Go.RowKit Go.IntWalk
theorem bytes_flat (l : List UInt8) : (l.map (Enc.enc (α := UInt8))).flatten = l.map (fun c => Value.int .u8 ((c.toNat : Nat) : Int)) := by
  induction l with
  | nil => rfl
  | cons c l ih => rw [List.map_cons, List.flatten_cons, ih]; rfl
section
variable {P : Program} {B : Exit → Act → World → Prop} {n : Nat} {k : List Kont} {f : Fr} {w : World} {ops : Array Oper} {rest : List Oper} {o : Oper}
/-- 'x = append(x, s...)' of a string's bytes -/
theorem r_appendS {T U E d bb : Nat} {t : TypeId} {pos : String} {aft : Array Edge} {x y : Operand} {base : Nat} {v : Value} {l s : List UInt8}
    (hd : Nat.blt d n = true) (hu : P.underlying T = some (.slice E)) (hus : P.underlying U = some .string) (ht : tyP P E = some (1, bb, some (.int .u8 0))) (hbb : bb = 1)
    (hown : OwnE w base E v l) (hx : opv f x = v) (hy : opv f y = S s) (hlen : l.length + s.length ≤ 140737488355328) (hbase : base ≤ w.heap.size)
    (h : ∀ v' w', Evo w w' v.ownBlock.toList → OwnE w' base E v' (l ++ s) → KL P B n ops k rest (upd f d v') w') :
    KL P B n ops k (⟨some d, .call ⟨.builtin .append, #[x, y], #[T, U]⟩, t, pos, aft, none⟩ :: rest) f w := by
  obtain ⟨i, hi, h1, h2, h3⟩ := info_of ht
  have hrow : w.ownsRow base E 1 v l.length (l.map (Enc.enc (α := UInt8))).flatten := by
    have h9 := hown.row
    rw [List.length_map] at h9
    exact h9
  have hsz : (ByteArray.mk s.toArray).size = s.length := by simp [ByteArray.size]
  obtain ⟨v', w', hrun, hrow', hg, _⟩ := Lib.run_append_own_string (P := P) (w := w) base T U t E i hu hus hi h3 h1 (by rw [h2]; exact hbb) v l.length _ hrow ⟨s.toArray⟩ (by rw [hsz]; unfold maxLen; omega) (by rw [hsz]; exact hlen) hbase
  have hown' : OwnE w' base E v' (l ++ s) := by
    refine ⟨?_, fun cs hcs => ?_, by simp; omega⟩
    · have e : Lib.strCells ⟨s.toArray⟩ = s.map (fun c => Value.int .u8 ((c.toNat : Nat) : Int)) := by simp [Lib.strCells]
      rw [e, hsz, bytes_flat] at hrow'
      show w'.ownsRow base E 1 v' ((l ++ s).map (Enc.enc (α := UInt8))).length ((l ++ s).map (Enc.enc (α := UInt8))).flatten
      rw [bytes_flat, List.length_map, List.length_append, List.map_append]
      exact hrow'
    · obtain ⟨c, _, rfl⟩ := List.mem_map.1 hcs
      rfl
  refine r_op rfl rfl hd ?_ (h v' w' (Evo.grown hg) hown')
  exact run_builtin (s := Builtin.append_ #[T, U] t #[v, S s]) rfl (by simp [hx, hy]) (fun cs => rfl) hrun
/-- 'string(b)' -/
theorem run_cvBS {T U E : TypeId} {x : Operand} {l : List UInt8} {ao : Option Addr} {b off cap len : Nat} (ho : o.op = .convert T U x) (hT : P.underlying T = some (.slice E)) (hE : P.underlying E = some (.int .u8)) (hU : P.underlying U = some .string)
    (hx : opv f x = .slice ao len cap) (hl : len = l.length) (hr : RowE w ao b off cap l) : (execOp (opv f) o).run P w = .ok (.value (S l)) w := by
  subst hl
  unfold execOp; rw [ho]; simp only []; rw [hx]
  have hc : (convert T U (.slice ao l.length cap)).run P w = .ok (S l) w := by
    cases l with
    | nil =>
      show (convert T U (.slice ao 0 cap)).run P w = .ok (S []) w
      rw [run_convert_bytes_string w T U E ao 0 cap hT hE hU]
      cases ao with
      | none => simp [Conv.bytesToString, S]; rfl
      | some a => simp [Conv.bytesToString, S, loadCells, loadCellsFrom]; rfl
    | cons c l =>
      obtain rfl : ao = some ⟨b, off, none⟩ := hr.2.1 (by simp)
      exact run_convert_bytes_back (P := P) w T U E ⟨b, off, none⟩ cap (c :: l) hT hE hU (fun j hj => by
        have := (hr.2.2 j (Enc.enc ((c :: l)[j])) (by rw [List.getElem?_map, List.getElem?_eq_getElem hj]; rfl)).2 0 (.int .u8 (((c :: l)[j]).toNat : Int)) rfl
        rw [add_lit]
        simpa [Enc.n] using this)
  simp [hc]
end
/-! ### slices of slices -/
instance repList {α : Type} [Enc α] : Rep (List α) where
  n := 1
  rep w cs x := ∃ ao b off cap, cs = [.slice ao x.length cap] ∧ RowE w ao b off cap x
  len := fun ⟨_, _, _, _, h, _⟩ => by rw [h]; rfl
  evo0 := fun ⟨ao, b, off, cap, h, hr⟩ he => ⟨ao, b, off, cap, h, hr.evo0 he⟩
  pos := by decide
theorem sl_at {α : Type} [Enc α] {w : World} {ao : Option Addr} {b off cap : Nat} {l : List (List α)} (h : RowR w ao b off cap l) (k : Nat) (hk : k < l.length) :
    ∃ ao' b' off' cap', At w b (off + k * 1) [.slice ao' (l.getD k default).length cap'] ∧ RowE w ao' b' off' cap' (l.getD k default) := by
  obtain ⟨cs, h1, ao', b', off', cap', h2, h3⟩ := h.atD k hk
  exact ⟨ao', b', off', cap', h2 ▸ h1, h3⟩
theorem sl_atK {α : Type} [Enc α] {w : World} {E : List Nat} {ao : Option Addr} {b off cap : Nat} {l : List (List α)} (h : RowRK w E ao b off cap l) (k : Nat) (hk : k < l.length) :
    ∃ ao' b' off' cap', ∀ w', Evo w w' E → At w' b (off + k * 1) [.slice ao' (l.getD k default).length cap'] ∧ RowE w' ao' b' off' cap' (l.getD k default) := by
  obtain ⟨cs, h1⟩ := h.atD k hk
  obtain ⟨_, ao', b', off', cap', h2, h3⟩ := h1 w (Evo.refl _ _)
  refine ⟨ao', b', off', cap', fun w' he => ?_⟩
  obtain ⟨h4, ao2, b2, off2, cap2, h5, h6⟩ := h1 w' he
  rw [h2] at h5
  simp only [List.cons.injEq, Value.slice.injEq, and_true, true_and] at h5
  obtain ⟨rfl, rfl⟩ := h5
  exact ⟨h2 ▸ h4, rowE_same h6 h3⟩
theorem sl_rep {α : Type} [Enc α] {w : World} {ao : Option Addr} {b off cap : Nat} {l : List α} (h : RowE w ao b off cap l) : Rep.rep w [.slice ao l.length cap] l := ⟨ao, b, off, cap, rfl, h⟩
section
variable {P : Program} {B : Exit → Act → World → Prop} {n : Nat} {k : List Kont} {f : Fr} {w : World} {ops : Array Oper} {rest : List Oper} {o : Oper}
/-- 'append(nil, make([]T, m)...)': a new row; cut down to nothing, it is our own with room -/
theorem r_appendZ {α : Type} [Enc α] {T N E d m bb : Nat} {t : TypeId} {pos : String} {aft : Array Edge} {x y : Operand} {base : Nat} {z : Value} {c : Nat}
    (hd : Nat.blt d n = true) (hu : P.underlying T = some (.slice E)) (hN : P.underlying N = some (.int .i64)) (ht : tyP P E = some (m, bb, some z)) (hzs : z.cells.size = m) (hmn : m = Enc.n α)
    (hx : opv f x = .slice none 0 0) (hy : opv f y = .int .i64 (c : Nat)) (hc : 0 < c) (hb : c * bb ≤ 140737488355328) (hc2 : c ≤ 140737488355328) (hbase : base ≤ w.heap.size)
    (h : ∀ g cap w', Evo w w' [] → c ≤ cap → OwnE (α := α) w' base E (.slice (some ⟨g, 0, none⟩) 0 cap) [] → KL P B n ops k rest (upd f d (.slice (some ⟨g, 0, none⟩) c cap)) w') :
    KL P B n ops k (⟨some d, .call ⟨.builtin .append, #[x, y], #[T, N]⟩, t, pos, aft, none⟩ :: rest) f w := by
  obtain ⟨i, hi, h1, h2, h3⟩ := info_of ht
  have hpos := Enc.pos (α := α)
  have hrun := Lib.run_append_nil_zeros (P := P) w T N t E i z .i64 .i64 hu hN hi h3 c hc (by rw [h1, hmn]; exact hpos) (by omega) (by rw [h2]; omega)
  have hge := grownCap_ge w c 0 E
  have hcm : grownCap w c 0 E ≤ maxLen := grownCap_le_maxLen w c 0 E (by unfold maxLen; omega)
  refine r_op rfl rfl hd (run_builtin (s := Builtin.append_ #[T, N] t #[.slice none 0 0, .int .i64 (c : Nat)]) rfl (by simp [hx, hy]) (fun cs => rfl) hrun) ?_
  refine h _ _ _ (Evo.trans (Evo.drew _ _) (Evo.alloc _ _ []) (by simp)) hge ⟨⟨by simp, .inr ⟨w.heap.size, _, _, rfl, hbase, heap_alloc_new w.drew _, by simp, hcm, ?_, by simp⟩⟩, by simp, by simp⟩
  subst hmn
  simp [Builtin.zeroCells, hzs]
  rw [← Nat.add_mul]
  congr 1
  omega
end
section
variable {P : Program} {f : Fr} {w : World} {o : Oper}
theorem run_capSl {t e : TypeId} {x : Operand} {ao : Option Addr} {len cap : Nat} (ho : o.op = .call ⟨.builtin .cap, #[x], #[t]⟩) (hx : opv f x = .slice ao len cap) (ht : P.underlying t = some (.slice e)) :
    (execOp (opv f) o).run P w = .ok (.value (.int .i64 (cap : Int))) w := by
  refine run_builtin (s := Builtin.cap_ #[t] o.type #[.slice ao len cap]) ho (by simp [hx]) (fun cs => rfl) ?_
  simp [Builtin.cap_, run_underlying ht, goInt]
/-- what was made ahead, cut down to nothing -/
theorem run_sl00 {T E m bb : Nat} {z : Option Value} {x : Operand} {g len cap : Nat} {hi : Option Operand} (ho : o.op = .slice T x none hi none) (hu : P.underlying T = some (.slice E)) (ht : tyP P E = some (m, bb, z)) (hx : opv f x = .slice (some ⟨g, 0, none⟩) len cap)
    (hhi : ∃ κ, hi.map (opv f) = some (.int κ ((0 : Nat) : Int))) : (execOp (opv f) o).run P w = .ok (.value (.slice (some ⟨g, 0, none⟩) 0 cap)) w := by
  have := run_sl (P := P) (w := w) (f := f) (o := o) 0 0 ho hu ht hx (.inl ⟨rfl, rfl⟩) (.inr hhi) (Nat.le_refl _) (Nat.zero_le _)
  rw [this]
  have e : (if cap = 0 then some (⟨g, 0, none⟩ : Addr) else (some (⟨g, 0, none⟩ : Addr)).map (·.add (0 * m))) = some ⟨g, 0, none⟩ := by
    split
    · rfl
    · simp [add_lit]
  rw [e]; simp
end
theorem flat_succL {α : Type} (l : List (List α)) (k : Nat) (h : k < l.length) : (l.take (k + 1)).flatten = (l.take k).flatten ++ l.getD k default := by
  rw [List.take_succ_eq_append_getElem h, List.flatten_append]; simp [List.getD, h]
theorem flat_take {α : Type} (l : List (List α)) (k : Nat) : (l.take k).flatten.length ≤ l.flatten.length := by
  conv => rhs; rw [← List.take_append_drop k l]
  rw [List.flatten_append, List.length_append]; omega
theorem flat2 {α : Type} (a b : List α) : [a, b].flatten = a ++ b := by simp
end Go.Vc
