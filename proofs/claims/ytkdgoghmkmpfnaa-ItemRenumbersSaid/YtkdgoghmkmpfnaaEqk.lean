/-
  '==' and '!=' between structs of integers, however they are nested. Generic over the program.
-/
import Derived.Test.YtkdgoghmkmpfnaaRst
namespace Go.Vc
open Go Go.RowKit Go.IntWalk
def zs (l : List Int) : List Value := l.map (Value.int .i64)
/-- a value whose cells are integers -/
def vz (g : Bool) (l : List Int) : Value := if g then .agg (zs l).toArray else (zs l).headD .nilFunc
/-- the type's cells are 'n' integers, and two of its values are compared cell by cell -/
structure EqI (P : Program) (m T n : Nat) (g : Bool) : Prop where
  ag : aggP P T = some g
  sz : ∃ bb z, tyP P T = some (n, bb, z)
  one : g = false → n = 1
  eq : ∀ (d : Nat) (w : World) (as bs : List Int), as.length = n → bs.length = n → (Op.equalIn (d + m) T (vz g as) (vz g bs)).run P w = .ok (decide (as = bs)) w
section
variable {P : Program}
theorem EqI.int {T bb : Nat} {z : Option Value} (hu : P.underlying T = some (.int .i64)) (ha : aggP P T = some false) (ht : tyP P T = some (1, bb, z)) : EqI P 1 T 1 false :=
  ⟨ha, ⟨_, _, ht⟩, fun _ => rfl, fun d w as bs h1 h2 => by
    rcases as with _ | ⟨a, _ | ⟨a1, l⟩⟩
    · simp at h1
    · rcases bs with _ | ⟨b, _ | ⟨b1, l⟩⟩
      · simp at h2
      · show (Op.equalIn (d + 1) T (.int .i64 a) (.int .i64 b)).run P w = _
        rw [run_equalIn_int w d T _ _ a b hu]
        congr 1
        by_cases h : a = b
        · simp [h]
        · simp [h]
      · simp at h2
    · simp at h1⟩
theorem EqI.up {m T n : Nat} {g : Bool} (h : EqI P m T n g) : EqI P (m + 1) T n g :=
  ⟨h.ag, h.sz, h.one, fun d w as bs h1 h2 => by
    have := h.eq (d + 1) w as bs h1 h2
    rw [show d + (m + 1) = d + 1 + m by omega]; exact this⟩
theorem EqI.part {m T n : Nat} {g : Bool} (h : EqI P m T n g) (w : World) (xs : List Int) (off : Nat) (hl : off + n ≤ xs.length) : (part T (zs xs).toArray off).run P w = .ok (vz g ((xs.drop off).take n)) w := by
  obtain ⟨bb, z, hs⟩ := h.sz
  cases g with
  | false =>
    have hn := h.one rfl
    subst hn
    have hlt : off < xs.length := by omega
    have e : (zs xs).toArray[off]? = some (.int .i64 xs[off]) := by simp [zs, hlt]
    rw [run_part1 h.ag e]
    congr 1
    have e2 : (xs.drop off).take 1 = [xs[off]] := by rw [List.drop_eq_getElem_cons hlt]; rfl
    rw [e2]; rfl
  | true =>
    simp [Go.part, run_isAgg h.ag, run_sizeOf hs, vz, zs, List.map_drop, List.map_take]
def LayF (P : Program) (m : Nat) : List Field → Nat → Nat → Prop
  | [], _, n => n = 0
  | f :: fs, off, n => f.name ≠ "_" ∧ f.offset = off ∧ ∃ k g, EqI P m f.type k g ∧ k ≤ n ∧ LayF P m fs (off + k) (n - k)
theorem eqFieldsZ {m : Nat} (d : Nat) (w : World) (xs ys : List Int) : ∀ (fs : List Field) (off n : Nat), LayF P m fs off n → off + n ≤ xs.length → off + n ≤ ys.length →
    (Op.eqFields (d + m) (zs xs).toArray (zs ys).toArray fs).run P w = .ok (decide ((xs.drop off).take n = (ys.drop off).take n)) w
  | [], off, n, h, _, _ => by
    have h : n = 0 := h
    subst h
    simp [Op.eqFields]
  | f :: fs, off, n, ⟨hn, ho, k, g, hE, hk, hL⟩, hx, hy => by
    subst ho
    have p1 := hE.part w xs f.offset (by omega)
    have p2 := hE.part w ys f.offset (by omega)
    have p3 := hE.eq d w ((xs.drop f.offset).take k) ((ys.drop f.offset).take k) (by simp; omega) (by simp; omega)
    have ih := eqFieldsZ d w xs ys fs (f.offset + k) (n - k) hL (by omega) (by omega)
    have split : ∀ zs : List Int, (zs.drop f.offset).take n = (zs.drop f.offset).take k ++ (zs.drop (f.offset + k)).take (n - k) := fun zs => by
      conv => lhs; rw [show n = k + (n - k) by omega]
      rw [List.take_add, List.drop_drop]
    have hiff : (xs.drop f.offset).take n = (ys.drop f.offset).take n ↔ (xs.drop f.offset).take k = (ys.drop f.offset).take k ∧ (xs.drop (f.offset + k)).take (n - k) = (ys.drop (f.offset + k)).take (n - k) := by
      rw [split xs, split ys]
      refine ⟨fun h => ?_, fun h => by rw [h.1, h.2]⟩
      exact List.append_inj h (by simp; omega)
    simp only [Op.eqFields, hn, ne_eq, not_false_eq_true, if_true, Sem.run_bind, p1, p2, p3, Result.andThen_ok]
    by_cases h1 : (xs.drop f.offset).take k = (ys.drop f.offset).take k
    · rw [decide_eq_true h1]
      simp only [Bool.not_true, Bool.false_eq_true, if_false, ih]
      congr 1
      exact decide_eq_decide.2 ⟨fun h2 => hiff.2 ⟨h1, h2⟩, fun h2 => (hiff.1 h2).2⟩
    · rw [decide_eq_false h1, decide_eq_false (fun h2 => h1 (hiff.1 h2).1)]
      simp
theorem EqI.struct {m T n bb : Nat} {z : Option Value} {fs : Array Field} (hu : P.underlying T = some (.struct fs)) (hp : P.stoodInHeld T = false) (ha : aggP P T = some true) (ht : tyP P T = some (n, bb, z)) (hL : LayF P m fs.toList 0 n) : EqI P (m + 1) T n true :=
  ⟨ha, ⟨_, _, ht⟩, fun h => (by cases h), fun d w as bs h1 h2 => by
    have hf : P.fieldsOf T = fs := by simp [Program.fieldsOf, hu]
    have h3 := eqFieldsZ d w as bs fs.toList 0 n hL (by omega) (by omega)
    have h4 := run_equalIn_struct (P := P) w (d + m) T (zs as).toArray (zs bs).toArray (by rw [hf]; exact hu) hp
    rw [hf, h3] at h4
    rw [List.drop_zero, List.drop_zero, List.take_of_length_le (by omega), List.take_of_length_le (by omega)] at h4
    exact h4⟩
variable {w : World} {f : Fr} {o : Oper}
theorem run_eqlZ {T T2 : TypeId} {n m : Nat} {x y : Operand} (as bs : List Int) (ho : o.op = .binOp .eql T x y T2) (hg : P.eqGuardType P.depth T = false) (h : EqI P m T n true) (hm : Nat.ble m 10000 = true) (hx : opv f x = .agg (as.map (Value.int .i64)).toArray) (hy : opv f y = .agg (bs.map (Value.int .i64)).toArray)
    (ha : as.length = n) (hb : bs.length = n) : (execOp (opv f) o).run P w = .ok (.value (.bool (decide (as = bs)))) w := by
  unfold execOp; rw [ho]; simp only []; rw [hx, hy]
  have := h.eq (10000 - m) w as bs ha hb
  rw [Nat.sub_add_cancel (Nat.le_of_ble_eq_true hm)] at this
  have h5 : (Op.equalIn 10000 T (.agg (as.map (Value.int .i64)).toArray) (.agg (bs.map (Value.int .i64)).toArray)).run P w = .ok (decide (as = bs)) w := this
  simp only [Sem.run_bind, run_eqGuard_agg w .eql T x y _ _ hg, Result.andThen_ok, run_eql_struct, h5, Sem.run_pure]
theorem run_neqZ {T T2 : TypeId} {n m : Nat} {x y : Operand} (as bs : List Int) (ho : o.op = .binOp .neq T x y T2) (hg : P.eqGuardType P.depth T = false) (h : EqI P m T n true) (hm : Nat.ble m 10000 = true) (hx : opv f x = .agg (as.map (Value.int .i64)).toArray) (hy : opv f y = .agg (bs.map (Value.int .i64)).toArray)
    (ha : as.length = n) (hb : bs.length = n) : (execOp (opv f) o).run P w = .ok (.value (.bool (decide (¬ as = bs)))) w := by
  unfold execOp; rw [ho]; simp only []; rw [hx, hy]
  have := h.eq (10000 - m) w as bs ha hb
  rw [Nat.sub_add_cancel (Nat.le_of_ble_eq_true hm)] at this
  have h5 : (Op.equalIn 10000 T (.agg (as.map (Value.int .i64)).toArray) (.agg (bs.map (Value.int .i64)).toArray)).run P w = .ok (decide (as = bs)) w := this
  simp only [Sem.run_bind, run_eqGuard_agg w .neq T x y _ _ hg, Result.andThen_ok, run_neq_struct, h5, Sem.run_pure]
  simp
end
end Go.Vc
