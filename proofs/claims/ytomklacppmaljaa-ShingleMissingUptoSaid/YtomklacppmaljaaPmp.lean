/-
  Maps keyed by pairs of strings; what one more of a key does. Generic over the program.
-/
import Derived.Test.YtomklacppmaljaaSp
import Derived.Test.YtomklacppmaljaaMpe
namespace Go.Vc
open Go Go.RowKit Go.IntWalk
instance : Enc (Str × Str) := ⟨2, fun x => [S x.1, S x.2], fun _ => rfl, fun _ => rfl, by decide⟩
theorem equalIn_pair {P : Program} {w : World} (d : Nat) {T : TypeId} {f0 f1 : Field} (hu : P.underlying T = some (.struct #[f0, f1])) (hp : P.stoodInHeld T = false) (n0 : f0.name ≠ "_") (n1 : f1.name ≠ "_")
    (o0 : f0.offset = 0) (o1 : f1.offset = 1) (u0 : P.underlying f0.type = some .string) (u1 : P.underlying f1.type = some .string)
    (a0 : aggP P f0.type = some false) (a1 : aggP P f1.type = some false) (x y : Str × Str) :
    (Op.equalIn (d + 2) T (.agg (Enc.enc x).toArray) (.agg (Enc.enc y).toArray)).run P w = .ok (decide (x = y)) w := by
  have h := equalIn_ende (P := P) (w := w) d hu hp n0 n1 o0 o1 u0 u1 a0 a1 ⟨x.1, x.2⟩ ⟨y.1, y.2⟩
  have e : decide (x = y) = decide ((⟨x.1, x.2⟩ : Ende) = ⟨y.1, y.2⟩) := decide_eq_decide.2 (by rw [Ende.mk.injEq]; exact Prod.ext_iff)
  rw [e]; exact h
theorem key_pair {P : Program} {T : TypeId} {f0 f1 : Field} (hu : P.underlying T = some (.struct #[f0, f1])) (n0 : f0.name ≠ "_") (n1 : f1.name ≠ "_") (o0 : f0.offset = 0) (o1 : f1.offset = 1) (u0 : P.underlying f0.type = some .string) (u1 : P.underlying f1.type = some .string)
    (a0 : aggP P f0.type = some false) (a1 : aggP P f1.type = some false)
    (he : ∀ (w : World) (x y : Str × Str), (Op.equalIn 10000 T (.agg (Enc.enc x).toArray) (.agg (Enc.enc y).toArray)).run P w = .ok (decide (x = y)) w) : KeyLaw P T (fun x : Str × Str => Value.agg (Enc.enc x).toArray) := by
  refine KeyLaw.asked hu (fun x y h => ?_) (fun x y => rfl) (fun w x y => he w x y) (fun w e x => ?_) (fun x => ?_)
  · obtain ⟨t1, i1⟩ := x
    obtain ⟨t2, i2⟩ := y
    have h1 : [S t1, S i1] = [S t2, S i2] := List.toArray_inj (Value.agg.inj h)
    simp only [List.cons.injEq, and_true] at h1
    rw [S_inj h1.1, S_inj h1.2]
  · have p0 : ∀ (z : Str × Str), (part f0.type (Enc.enc z).toArray 0).run P w = .ok (S z.1) w := fun z => run_part1 a0 rfl
    have p1 : ∀ (z : Str × Str), (part f1.type (Enc.enc z).toArray 1).run P w = .ok (S z.2) w := fun z => run_part1 a1 rfl
    have c0 := check_scalar u0 w e 9998 (S x.1) (.inl ⟨rfl, _, rfl⟩)
    have c1 := check_scalar u1 w e 9998 (S x.2) (.inl ⟨rfl, _, rfl⟩)
    unfold Instr.checkKey
    simp only [Sem.run_bind, run_underlying hu, Result.andThen_ok]
    simp [n0, n1, o0, o1, p0, p1, c0, c1, Sem.run_bind]
  · show Instr.sameBits 10000 (.agg #[S x.1, S x.2]) (.agg #[S x.1, S x.2]) = true
    have h1 := bits_str 9999 ⟨x.1.toArray⟩
    have h2 := bits_str 9999 ⟨x.2.toArray⟩
    unfold Instr.sameBits
    simp only [S] at *
    simp [h1, h2]
theorem getM_of_memZ {α : Type} [DecidableEq α] : ∀ {m : List (α × Int)} {p : α × Int}, (m.map (·.1)).Nodup → p ∈ m → getM m p.1 = some p.2
  | q :: m, p, hn, hp => by
    obtain ⟨h1, h2⟩ := List.nodup_cons.1 hn
    rw [getM_cons]
    rcases List.mem_cons.1 hp with rfl | hp
    · rw [if_pos rfl]
    · rw [if_neg (fun e => h1 (by show q.1 ∈ _; rw [e]; exact List.mem_map_of_mem hp)), getM_of_memZ h2 hp]
theorem getM_mem_of {α : Type} [DecidableEq α] {m : List (α × Int)} {a : α} {v : Int} (h : getM m a = some v) : (a, v) ∈ m := by
  unfold getM at h
  cases e : m.find? (fun p => decide (p.1 = a)) with
  | none => rw [e] at h; cases h
  | some p =>
    rw [e] at h
    have h1 : p.2 = v := by simpa using h
    have h2 : p.1 = a := by simpa using List.find?_some e
    have h3 := List.mem_of_find?_eq_some e
    rw [← h1, ← h2]; exact h3
/-! ### one more of a key -/
section
variable {α : Type} [DecidableEq α]
/-- 'm2' is 'm' with 'd' more at 'a' -/
def Bump (m m2 : List (α × Int)) (a : α) (d : Int) : Prop := ∀ x, getM m2 x = if x = a then some ((getM m a).getD 0 + d) else getM m x
theorem bumpF {m : List (α × Int)} {a : α} (d : Int) : Bump m (setM (setM m a ((getM m a).getD 0)) a ((getM m a).getD 0 + d)) a d := fun x => by
  rw [getM_setM, getM_setM]
  by_cases e : x = a
  · subst e; simp
  · simp [e, Ne.symm e]
theorem bumpT {m : List (α × Int)} {a : α} (d : Int) : Bump m (setM (setM m a ((getM m a).getD 0)) a ((getM (setM m a ((getM m a).getD 0)) a).getD 0 + d)) a d := fun x => by
  rw [getM_setM, getM_setM, getM_setM, if_pos rfl]
  by_cases e : x = a
  · subst e; simp
  · simp [e, Ne.symm e]
end
section
variable {α : Type} [BEq α] [LawfulBEq α]
/-- how often a key comes -/
def cntO (ps : List α) (x : α) : Option Int := if x ∈ ps then some ((ps.count x : Nat) : Int) else none
theorem cntO_nil (x : α) : cntO [] x = none := if_neg (by simp)
theorem cntO_get (ps : List α) (x : α) : (cntO ps x).getD 0 = ((ps.count x : Nat) : Int) := by
  unfold cntO
  by_cases h : x ∈ ps
  · rw [if_pos h]; rfl
  · rw [if_neg h, List.count_eq_zero.2 h]; rfl
theorem cntO_snoc [DecidableEq α] {m m2 : List (α × Int)} {ps : List α} {a : α} (h : ∀ x, getM m x = cntO ps x) (hb : Bump m m2 a 1) : ∀ x, getM m2 x = cntO (ps ++ [a]) x := fun x => by
  rw [hb x]
  by_cases e : x = a
  · subst e
    rw [if_pos rfl, h, cntO_get]
    unfold cntO
    rw [if_pos (by simp), List.count_append]; simp
  · rw [if_neg e, h]
    unfold cntO
    have e2 : (ps ++ [a]).count x = ps.count x := by rw [List.count_append, List.count_singleton]; simp [Ne.symm e]
    rw [e2]
    by_cases hx : x ∈ ps
    · rw [if_pos hx, if_pos (by simp [hx])]
    · rw [if_neg hx, if_neg (by simp [hx, e])]
end
/-! ### the pairs of words, one by one -/
def lastW (ws : List Str) (k : Nat) : Str := if k = 0 then [] else ws.getD (k - 1) default
theorem pairs_get : ∀ (l : Str) (ws : List Str) (k : Nat), k ≤ ws.length → (pairsL l ws).getD k default = (if k = 0 then l else ws.getD (k - 1) default, ws.getD k default)
  | l, [], 0, _ => rfl
  | l, w :: r, 0, _ => rfl
  | l, w :: r, k + 1, h => by
    have ih := pairs_get w r k (by simpa using h)
    show (pairsL w r).getD k default = _
    rw [ih]
    cases k with
    | zero => rfl
    | succ k => rfl
theorem pairs_take {ws : List Str} {k : Nat} (h : k ≤ ws.length) : (pairsL [] ws).take (k + 1) = (pairsL [] ws).take k ++ [(lastW ws k, ws.getD k default)] := by
  have hl := pairs_len [] ws
  have e := pairs_get [] ws k h
  rw [take_succD _ k (by omega), e]; rfl
theorem pairs_all {ws : List Str} : (pairsL [] ws).take ws.length ++ [(lastW ws ws.length, [])] = pairsL [] ws := by
  have h := pairs_take (ws := ws) (k := ws.length) (Nat.le_refl _)
  rw [List.take_of_length_le (by rw [pairs_len]; exact Nat.le_refl _)] at h
  have e : ws.getD ws.length default = ([] : Str) := by simp [List.getD]; rfl
  rw [e] at h; exact h.symm
/-! ### one more pair, by its place -/
theorem ins_hit : ∀ {g : List Gram} {p : Str × Str} {k : Nat}, k < g.length → (∀ j, j < k → ltP (prG (g.getD j default)) p) → ¬ ltP (prG (g.getD k default)) p → ¬ ltP p (prG (g.getD k default)) →
    insG g p = g.set k ⟨(g.getD k default).fst, (g.getD k default).snd, (g.getD k default).count + 1⟩
  | [], _, _, h, _, _, _ => by simp at h
  | x :: r, p, 0, _, _, h1, h2 => by
    have h1' : ¬ ltP (prG x) p := h1
    have e : prG x = p := ltP_tri h1' h2
    unfold insG; rw [if_neg h1', if_pos e]; rfl
  | x :: r, p, k + 1, hk, h0, h1, h2 => by
    have hx : ltP (prG x) p := h0 0 (by omega)
    have ih := ins_hit (g := r) (p := p) (k := k) (by simpa using hk) (fun j hj => h0 (j + 1) (by omega)) h1 h2
    unfold insG; rw [if_pos hx, ih]; rfl
theorem ins_new : ∀ {g : List Gram} {p : Str × Str} {k : Nat}, k ≤ g.length → (∀ j, j < k → ltP (prG (g.getD j default)) p) → (k = g.length ∨ ltP p (prG (g.getD k default))) → insG g p = g.take k ++ ⟨p.1, p.2, 1⟩ :: g.drop k
  | [], p, k, h, _, _ => by
    have : k = 0 := by simpa using h
    subst this; rfl
  | x :: r, p, 0, _, _, h1 => by
    have h2 : ltP p (prG x) := by
      rcases h1 with h1 | h1
      · simp at h1
      · exact h1
    have h3 : ¬ ltP (prG x) p := fun q => ltP_irrefl _ (ltP_trans h2 q)
    have h4 : ¬ prG x = p := fun q => ltP_irrefl p (by rwa [q] at h2)
    unfold insG; rw [if_neg h3, if_neg h4]; rfl
  | x :: r, p, k + 1, hk, h0, h1 => by
    have hx : ltP (prG x) p := h0 0 (by omega)
    have ih := ins_new (g := r) (p := p) (k := k) (by simpa using hk) (fun j hj => h0 (j + 1) (by omega)) (h1.imp_left (by simp))
    unfold insG; rw [if_pos hx, ih]; rfl
theorem gramsOf_succ {ps : List (Str × Str)} {i : Nat} (hi : i < ps.length) : gramsOf (ps.take (i + 1)) = insG (gramsOf (ps.take i)) (ps.getD i default) := by
  unfold gramsOf; rw [take_succD ps i hi, List.foldl_append]; rfl
theorem grams_step {ws : List Str} {i : Nat} (hi : i ≤ ws.length) : gramsOf ((pairsL [] ws).take (i + 1)) = insG (gramsOf ((pairsL [] ws).take i)) (lastW ws i, ws.getD i default) := by
  rw [gramsOf_succ (by rw [pairs_len]; omega), pairs_get [] ws i hi]; rfl
theorem gramsOf_len (ps : List (Str × Str)) : (gramsOf ps).length ≤ ps.length := by
  have h := gramsOk_of ps
  have hn : ((gramsOf ps).map prG).Nodup := List.pairwise_map.2 (h.1.imp fun {x y} (h : ltP (prG x) (prG y)) (e : prG x = prG y) => ltP_irrefl (prG y) (by rw [e] at h; exact h))
  have := List.Nodup.length_le_of_subset hn (l₂ := ps) (fun q hq => by
    obtain ⟨x, hx, rfl⟩ := List.mem_map.1 hq
    exact List.count_pos_iff.1 (h.2.1 x hx).1)
  rwa [List.length_map] at this
theorem gramsOf_count {ps : List (Str × Str)} {x : Gram} (hx : x ∈ gramsOf ps) : 0 < x.count ∧ x.count ≤ ps.length := by
  have h := (gramsOk_of ps).2.1 x hx
  have h2 := List.count_le_length (a := prG x) (l := ps)
  omega
theorem gramsL_len (ws : List Str) : (gramsL ws).length ≤ ws.length + 1 := by have := gramsOf_len (pairsL [] ws); rwa [pairs_len] at this
end Go.Vc
