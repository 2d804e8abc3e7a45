/-
  Library, plain laws and walks that the statements reach (joined by a program out of smaller texts).
-/
import Derived.WalkKit
import Derived.WalkLawsBesides
import Derived.OneCell
import Derived.Lib.Strings
import Derived.Maps.AppendAt
import Derived.Deep.Quiet
import Derived.Maps.RangeWalk
import Derived.Maps.OwnSet
namespace Go.Vc
open Go Go.RowKit
abbrev Fr := Nat → Value
@[reducible] def upd (f : Fr) (i : Nat) (v : Value) : Fr := fun j => bif Nat.beq j i then v else f j
@[reducible] def updo (f : Fr) (d : Option Nat) (v : Value) : Fr := match d with | some i => upd f i v | none => f
@[reducible] def opv (f : Fr) : Operand → Value
  | .tmp t => f t
  | .const v => v
  | .global g => .pointer (some ⟨g, 0, none⟩)
  | .func g => .func (.func g) #[] #[]
structure Is (n : Nat) (f : Fr) (a : Act) : Prop where
  size : a.tmps.size = n
  get : ∀ i, a.tmps.getD i undef = f i
  defers : a.defers = []
theorem Is.eval {n : Nat} {f : Fr} {a : Act} (h : Is n f a) : a.eval = opv f := by
  funext x
  cases x with
  | tmp t => exact h.get t
  | const v => rfl
  | global g => rfl
  | func g => rfl
theorem upd_same (f : Fr) (i : Nat) (v : Value) : upd f i v i = v := by simp [upd]
theorem beqF {j i : Nat} (h : j ≠ i) : Nat.beq j i = false := by
  cases e : Nat.beq j i
  · rfl
  · exact absurd (Nat.eq_of_beq_eq_true e) h
theorem upd_ne (f : Fr) (i j : Nat) (v : Value) (h : j ≠ i) : upd f i v j = f j := by simp only [upd, beqF h, cond_false]
theorem Is.put {n : Nat} {f : Fr} {a : Act} (h : Is n f a) {d : Nat} (hd : Nat.blt d n = true) (v : Value) : Is n (upd f d v) (a.put (some d) v) := by
  have hd' : d < n := by simpa using hd
  refine ⟨by simp [Act.put, h.size], fun i => ?_, h.defers⟩
  have hi := h.get i
  simp only [Act.put, Array.getD_eq_getD_getElem?] at *
  by_cases e : i = d
  · subst e
    simp [upd, h.size, hd']
  · rw [upd_ne _ _ _ _ e, Array.getElem?_setIfInBounds_ne (Ne.symm e)]
    exact hi
theorem Is.know {n : Nat} {f : Fr} {a : Act} (h : Is n f a) {i : Nat} {v : Value} (hv : f i = v) : Is n (upd f i v) a := by
  refine ⟨h.size, fun j => ?_, h.defers⟩
  by_cases e : j = i
  · subst e; rw [upd_same, h.get, hv]
  · rw [upd_ne _ _ _ _ e]; exact h.get j
inductive Kont where
  | code (c : Code)
  | blk (id : Nat)
  | stop (I : Act → World → Prop)
section
variable (P : Program) (B : Exit → Act → World → Prop)
def Kx : List Kont → Exit → Act → World → Prop
  | [], e, a, w => B e a w
  | .code c :: k, .normal, a, w => c.wp P (Kx k) a w
  | .code _ :: k, .exit i, a, w => Kx k (.exit i) a w
  | .code _ :: k, .goto i, a, w => Kx k (.goto i) a w
  | .code _ :: k, .ret, a, w => Kx k .ret a w
  | .code _ :: k, .panic c, a, w => Kx k (.panic c) a w
  | .code _ :: k, .outgrown, a, w => Kx k .outgrown a w
  | .blk _ :: k, .normal, a, w => Kx k .normal a w
  | .blk id :: k, .exit i, a, w => if i = id then Kx k .normal a w else Kx k (.exit i) a w
  | .blk _ :: k, .goto i, a, w => Kx k (.goto i) a w
  | .blk _ :: k, .ret, a, w => Kx k .ret a w
  | .blk _ :: k, .panic c, a, w => Kx k (.panic c) a w
  | .blk _ :: k, .outgrown, a, w => Kx k .outgrown a w
  | .stop I :: _, .normal, a, w => I a w
  | .stop _ :: k, .exit i, a, w => Kx k (.exit i) a w
  | .stop _ :: k, .goto i, a, w => Kx k (.goto i) a w
  | .stop _ :: k, .ret, a, w => Kx k .ret a w
  | .stop _ :: k, .panic c, a, w => Kx k (.panic c) a w
  | .stop _ :: k, .outgrown, a, w => Kx k .outgrown a w
variable (n : Nat)
def KF (k : List Kont) (f : Fr) (w : World) : Prop := ∀ a, Is n f a → Kx P B k .normal a w
def KL (ops : Array Oper) (k : List Kont) (l : List Oper) (f : Fr) (w : World) : Prop := ∀ a, Is n f a → wpList P ops (Kx P B k) l a w
end
@[reducible] def exitK (id : Nat) : List Kont → Option (List Kont)
  | [] => none
  | .blk i :: k => bif Nat.beq i id then some k else exitK id k
  | .code _ :: k => exitK id k
  | .stop _ :: k => exitK id k
section rules
variable {P : Program} {B : Exit → Act → World → Prop} {n : Nat} {k : List Kont} {f : Fr} {w : World}
theorem r_seq {x y : Code} (h : KF P B n (.code x :: .code y :: k) f w) : KF P B n (.code (.seq x y) :: k) f w := by
  intro a ha
  show (Code.seq x y).wp P (Kx P B k) a w
  exact wp_seq (wp_mono (h a ha) (by intro e a w hq; cases e <;> exact hq))
theorem r_skip (h : KF P B n k f w) : KF P B n (.code .skip :: k) f w := fun a ha => wp_skip (h a ha)
theorem r_block {id : Nat} {c : Code} (h : KF P B n (.code c :: .blk id :: k) f w) : KF P B n (.code (.block id c) :: k) f w := by
  intro a ha
  show (Code.block id c).wp P (Kx P B k) a w
  exact wp_block (wp_mono (h a ha) (by intro e a w hq; cases e <;> exact hq))
theorem r_blk {id : Nat} (h : KF P B n k f w) : KF P B n (.blk id :: k) f w := h
theorem Kx_exit {id : Nat} {k' : List Kont} {a : Act} : ∀ {k : List Kont}, exitK id k = some k' → Kx P B k' .normal a w → Kx P B k (.exit id) a w
  | [], h, _ => by cases h
  | .blk i :: k, h, hq => by
    by_cases e : id = i
    · subst e
      simp only [exitK, Nat.beq_refl, cond_true, Option.some.injEq] at h
      subst h
      simp only [Kx, if_true]
      exact hq
    · have e' : Nat.beq i id = false := beqF (Ne.symm e)
      simp only [exitK, e', cond_false] at h
      simp only [Kx, if_neg e]
      exact Kx_exit h hq
  | .code _ :: k, h, hq => by
    simp only [Kx]
    exact Kx_exit (k := k) h hq
  | .stop _ :: k, h, hq => by
    simp only [Kx]
    exact Kx_exit (k := k) h hq
theorem r_exit {id : Nat} {k' : List Kont} (hk : exitK id k = some k') (h : KF P B n k' f w) : KF P B n (.code (.exit id) :: k) f w := fun a ha => wp_exit (Kx_exit hk (h a ha))
theorem Kx_ret {a : Act} (h : B .ret a w) : ∀ (k : List Kont), Kx P B k .ret a w
  | [] => h
  | .blk _ :: k => by simp only [Kx]; exact Kx_ret h k
  | .code _ :: k => by simp only [Kx]; exact Kx_ret h k
  | .stop _ :: k => by simp only [Kx]; exact Kx_ret h k
theorem r_cond {c : Operand} {x y : Code} {p : Prop} [Decidable p] (hc : opv f c = .bool (decide p)) (ht : p → KF P B n (.code x :: k) f w) (hf : ¬ p → KF P B n (.code y :: k) f w) :
    KF P B n (.code (.cond c x y) :: k) f w := by
  intro a ha
  have he : a.eval c = .bool (decide p) := by rw [ha.eval]; exact hc
  by_cases hp : p
  · exact wp_cond_true (by rw [he]; simp [hp]) (ht hp a ha)
  · exact wp_cond_false (by rw [he]; simp [hp]) (hf hp a ha)
theorem r_condb {c : Operand} {x y : Code} {b : Bool} (hc : opv f c = .bool b) (ht : b = true → KF P B n (.code x :: k) f w) (hf : b = false → KF P B n (.code y :: k) f w) :
    KF P B n (.code (.cond c x y) :: k) f w := by
  intro a ha
  have he : a.eval c = .bool b := by rw [ha.eval]; exact hc
  cases b
  · exact wp_cond_false he (hf rfl a ha)
  · exact wp_cond_true he (ht rfl a ha)
theorem r_cond_yes {c : Operand} {x y : Code} (hc : opv f c = .bool true) (h : KF P B n (.code x :: k) f w) : KF P B n (.code (.cond c x y) :: k) f w :=
  fun a ha => wp_cond_true (by rw [ha.eval]; exact hc) (h a ha)
theorem r_cond_no {c : Operand} {x y : Code} (hc : opv f c = .bool false) (h : KF P B n (.code y :: k) f w) : KF P B n (.code (.cond c x y) :: k) f w :=
  fun a ha => wp_cond_false (by rw [ha.eval]; exact hc) (h a ha)
theorem r_know {i : Nat} {v : Value} (hv : f i = v) (h : KF P B n k (upd f i v) w) : KF P B n k f w := fun a ha => h a (ha.know hv)
theorem r_loop_raw {c : Code} {α : Type} (J : α → Act → World → Prop) (μ : α → Nat) (x0 : α) {a0 : Act} {w0 : World} (h0 : J x0 a0 w0)
    (round : ∀ x a w, J x a w → Kx P B (.code c :: .stop (fun a' w' => ∃ x', μ x' < μ x ∧ J x' a' w') :: k) .normal a w) : Kx P B (.code (.loop c) :: k) .normal a0 w0 := by
  show (Code.loop c).wp P (Kx P B k) a0 w0
  have hmin : ∀ a w, (∃ x, J x a w) → ∃ x, J x a w ∧ ∀ y, J y a w → μ x ≤ μ y := by
    intro a w ⟨x, hx⟩
    have key : ∀ m x, μ x = m → J x a w → ∃ x, J x a w ∧ ∀ y, J y a w → μ x ≤ μ y := by
      intro m
      induction m using Nat.strongRecOn with
      | _ m ih =>
        intro x hm hx
        by_cases hex : ∃ y, J y a w ∧ μ y < μ x
        · obtain ⟨y, hy, hlt⟩ := hex
          exact ih (μ y) (hm ▸ hlt) y rfl hy
        · exact ⟨x, hx, fun y hy => Nat.le_of_not_lt fun hlt => hex ⟨y, hy, hlt⟩⟩
    exact key _ x rfl hx
  let ν : Act → World → Nat := fun a w => open Classical in if h : ∃ x, J x a w then μ (hmin a w h).choose else 0
  refine wp_loop (fun a w => ∃ x, J x a w) ν ⟨x0, h0⟩ ?_
  intro a w hI
  have hx := (hmin a w hI).choose_spec
  have hν : ν a w = μ (hmin a w hI).choose := by simp only [ν, dif_pos hI]
  refine wp_mono (round _ a w hx.1) ?_
  intro e a' w' hq
  cases e with
  | normal =>
    obtain ⟨x', hlt, hJ⟩ := hq
    refine ⟨⟨x', hJ⟩, ?_⟩
    have hI' : ∃ x, J x a' w' := ⟨x', hJ⟩
    have hν' : ν a' w' = μ (hmin a' w' hI').choose := by simp only [ν, dif_pos hI']
    rw [hν, hν']
    exact Nat.lt_of_le_of_lt ((hmin a' w' hI').choose_spec.2 x' hJ) hlt
  | exit i => exact hq
  | goto i => exact hq
  | ret => exact hq
  | panic c => exact hq
  | outgrown => exact hq
@[reducible] def elemN (i : Nat) : List Nat → Bool
  | [] => false
  | j :: r => bif Nat.beq i j then true else elemN i r
def Agree (M : List Nat) (f g : Fr) : Prop := ∀ i, elemN i M = false → g i = f i
theorem Agree.refl (M : List Nat) (f : Fr) : Agree M f f := fun _ _ => rfl
theorem Agree.at {M : List Nat} {f g : Fr} (h : Agree M f g) (i : Nat) (hi : elemN i M = false) : g i = f i := h i hi
theorem Agree.upd {M : List Nat} {f g : Fr} (h : Agree M f g) (i : Nat) (v : Value) (hi : elemN i M = true) : Agree M f (upd g i v) := by
  intro j hj
  rw [upd_ne]
  · exact h j hj
  · intro e; subst e; rw [hi] at hj; cases hj
theorem Agree.know {M : List Nat} {f g : Fr} (h : Agree M f g) (i : Nat) (v : Value) (hi : f i = v) : Agree M f (Vc.upd g i v) := by
  intro j hj
  by_cases e : j = i
  · subst e; rw [upd_same, hi]
  · rw [upd_ne _ _ _ _ e]; exact h j hj
@[reducible] def merge (M : List Nat) (f g : Fr) : Fr := fun i => bif elemN i M then g i else f i
theorem merge_of {M : List Nat} {f g : Fr} (h : Agree M f g) : merge M f g = g := by
  funext i
  simp only [merge]
  cases e : elemN i M
  · exact (h i e).symm
  · rfl
theorem Agree.merge (M : List Nat) (f g : Fr) : Agree M f (Vc.merge M f g) := by
  intro i hi
  simp only [Vc.merge, hi, cond_false]
@[reducible] def subN : List Nat → List Nat → Bool
  | [], _ => true
  | i :: r, M => bif elemN i M then subN r M else false
theorem subN_spec {M : List Nat} : ∀ {M2 : List Nat}, subN M2 M = true → ∀ i, elemN i M2 = true → elemN i M = true
  | [], _, i, hi => by simp [elemN] at hi
  | j :: r, h, i, hi => by
    cases hj : elemN j M
    · simp [subN, hj] at h
    · simp only [subN, hj, cond_true] at h
      by_cases e : i = j
      · subst e; exact hj
      · simp only [elemN, beqF e, cond_false] at hi
        exact subN_spec h i hi
theorem Agree.inner {M M2 : List Nat} {f f2 g : Fr} (hs : subN M2 M = true) (h : Agree M f f2) : Agree M f (Vc.merge M2 f2 g) := by
  intro i hi
  simp only [Vc.merge]
  cases e : elemN i M2
  · exact h i hi
  · rw [subN_spec hs i e] at hi; cases hi
theorem r_loop {c : Code} {α : Type} (M : List Nat) (J : α → Fr → World → Prop) (μ : α → Nat) (x0 : α) (h0 : J x0 f w)
    (round : ∀ x g w', J x g w' →
      KF P B n (.code c :: .stop (fun a' w'' => ∃ x' g', μ x' < μ x ∧ Is n g' a' ∧ J x' g' w'' ∧ Agree M f g') :: k) (merge M f g) w') : KF P B n (.code (.loop c) :: k) f w := by
  intro a ha
  refine r_loop_raw (J := fun x a w => ∃ g, Is n g a ∧ J x g w ∧ Agree M f g) μ x0 ⟨f, ha, h0, Agree.refl _ _⟩ ?_
  rintro x a w ⟨g, hg, hJ, hA⟩
  have := round x g w hJ a (by rw [merge_of hA]; exact hg)
  show c.wp P _ a w
  refine wp_mono this ?_
  intro e a w hq
  cases e with
  | normal => obtain ⟨x', g', h1, h2, h3, h4⟩ := hq; exact ⟨x', h1, g', h2, h3, h4⟩
  | exit i => exact hq
  | goto i => exact hq
  | ret => exact hq
  | panic c => exact hq
  | outgrown => exact hq
theorem r_again {α : Type} {M : List Nat} {J : α → Fr → World → Prop} {μ : α → Nat} {x : α} {f0 : Fr} (x' : α) (hμ : μ x' < μ x) (hJ : J x' f w) (hA : Agree M f0 f) :
    KF P B n (.stop (fun a' w'' => ∃ x' g', μ x' < μ x ∧ Is n g' a' ∧ J x' g' w'' ∧ Agree M f0 g') :: k) f w := fun _ ha => ⟨x', f, hμ, ha, hJ, hA⟩
theorem r_cut {c : Code} (M : List Nat) (J : Fr → World → Prop) (h1 : KF P B n (.code c :: .stop (fun a' w' => ∃ g', Is n g' a' ∧ J g' w' ∧ Agree M f g') :: k) f w)
    (h2 : ∀ g w', J g w' → KF P B n k (merge M f g) w') : KF P B n (.code c :: k) f w := by
  intro a ha
  show c.wp P _ a w
  refine wp_mono (h1 a ha) ?_
  intro e a w hq
  cases e with
  | normal => obtain ⟨g', h3, h4, h5⟩ := hq; exact h2 g' w h4 a (by rw [merge_of h5]; exact h3)
  | exit i => exact hq
  | goto i => exact hq
  | ret => exact hq
  | panic c => exact hq
  | outgrown => exact hq
theorem r_cut_end {M : List Nat} {J : Fr → World → Prop} {f0 : Fr} (hJ : J f w) (hA : Agree M f0 f) : KF P B n (.stop (fun a' w' => ∃ g', Is n g' a' ∧ J g' w' ∧ Agree M f0 g') :: k) f w := fun _ ha => ⟨f, ha, hJ, hA⟩
theorem r_region {id : Nat} {l : List Oper} (h : KL P B n l.toArray k l f w) : KF P B n (.code (.region id l.toArray false) :: k) f w := by
  intro a ha
  show (Code.region id l.toArray false).wp P (Kx P B k) a w
  exact wp_region_lit (h a ha)
theorem r_nil {ops : Array Oper} (h : KF P B n k f w) : KL P B n ops k [] f w := fun a ha => h a ha
end rules
section fn
variable {P : Program} {fn : Func} {R : Ending → World → Prop} {n : Nat} {k : List Kont} {f : Fr} {w : World}
theorem r_ret {v : Value} (hv : ∀ a, Is n f a → (results fn a.tmps).run P w = .ok v w) (hR : R (.returned v) w) : KF P (bodyPost P fn R) n (.code .ret :: k) f w :=
  fun a ha => wp_ret (Kx_ret ⟨ha.defers, v, hv a ha, hR⟩ k)
theorem res1 {s : Nat} {v : Value} (h : fn.results = #[.tmp s]) (hs : f s = v) : ∀ a, Is n f a → (results fn a.tmps).run P w = .ok v w := fun a ha => by
  rw [results_tmp h, ha.get, hs]
theorem res2 {s t : Nat} {v u : Value} (h : fn.results = #[.tmp s, .tmp t]) (hs : f s = v) (ht : f t = u) : ∀ a, Is n f a → (results fn a.tmps).run P w = .ok (.tuple #[v, u]) w := fun a ha => by
  rw [results_tmp2 h, ha.get, ha.get, hs, ht]
theorem res3 {s t r : Nat} {v u x : Value} (h : fn.results = #[.tmp s, .tmp t, .tmp r]) (hs : f s = v) (ht : f t = u) (hr : f r = x) :
    ∀ a, Is n f a → (results fn a.tmps).run P w = .ok (.tuple #[v, u, x]) w := fun a ha => by
  simp [results, h, ha.get, hs, ht, hr]
@[reducible] def start : List Value → Nat → Fr
  | [], _ => fun _ => undef
  | v :: vs, i => upd (start vs (i + 1)) i v
theorem start_get : ∀ (l : List Value) (i j : Nat), start l i (i + j) = l.getD j undef ∧ (∀ m, m < i → start l i m = undef)
  | [], i, j => ⟨by simp [start], fun _ _ => rfl⟩
  | v :: vs, i, j => by
    refine ⟨?_, fun m hm => ?_⟩
    · cases j with
      | zero => simp [start, upd]
      | succ j =>
        have := (start_get vs (i + 1) j).1
        simp only [start]
        rw [upd_ne _ _ _ _ (by omega), show i + (j + 1) = i + 1 + j from by omega, this]
        simp
    · simp only [start]
      rw [upd_ne _ _ _ _ (by omega)]
      exact (start_get vs (i + 1) 0).2 m (by omega)
theorem calls_enter {g : FuncId} {c : Code} {args : List Value} (hf : P.funcs[g]? = some fn) (hb : fn.body = some c) (hn : fn.ntmps = n) (hl : Nat.ble args.length n = true)
    (h : KF P (bodyPost P fn R) n [.code c] (start args 0) w) : Calls P g args.toArray w R := by
  have hl' : args.length ≤ n := by simpa using hl
  refine calls_of_wp hf hb (wp_mono (h _ ⟨by simp [hn]; omega, fun i => ?_, rfl⟩) (by intro e a w hq; cases e <;> exact hq))
  have := (start_get args 0 i).1
  rw [Nat.zero_add] at this
  rw [this]
  simp only [Array.getD_eq_getD_getElem?, List.getD_eq_getElem?_getD]
  rw [Array.getElem?_append]
  split
  · simp
  · rename_i hi
    have hi' : args.length ≤ i := by simpa using hi
    rw [List.getElem?_eq_none hi']
    by_cases h2 : i - args.length < fn.ntmps - args.length
    · simp [h2]
    · simp [h2]
end fn
section ops
variable {P : Program} {B : Exit → Act → World → Prop} {n : Nat} {k : List Kont} {f : Fr} {w : World} {ops : Array Oper} {rest : List Oper}
theorem r_op {o : Oper} {d : Nat} {v : Value} {w' : World} (hg : o.guard = none) (hdst : o.dst = some d) (hd : Nat.blt d n = true) (hrun : (execOp (opv f) o).run P w = .ok (.value v) w')
    (h : KL P B n ops k rest (upd f d v) w') : KL P B n ops k (o :: rest) f w := by
  intro a ha
  refine wpList_plain hg fun K hK => ?_
  unfold Oper.wp
  rw [ha.eval, hrun]
  simp only [Oper.upon]
  refine hK _ _ (h _ ?_)
  rw [hdst]
  exact ha.put hd v
theorem r_op0 {o : Oper} {w' : World} (hg : o.guard = none) (hdst : o.dst = none) (hrun : (execOp (opv f) o).run P w = .ok .skip w')
    (h : KL P B n ops k rest f w') : KL P B n ops k (o :: rest) f w := by
  intro a ha
  refine wpList_plain hg fun K hK => ?_
  unfold Oper.wp
  rw [ha.eval, hrun]
  simp only [Oper.upon]
  refine hK _ _ (h _ ?_)
  rw [hdst]
  exact ha
theorem r_opcall {o : Oper} {d : Nat} {g : FuncId} {args : Array Value} {w1 : World} {S : Ending → World → Prop} (hg : o.guard = none) (hdst : o.dst = some d) (hd : Nat.blt d n = true)
    (hrun : (execOp (opv f) o).run P w = .ok (.enter g args) w1) (hc : Calls P g args w1 S)
    (h : ∀ e w', S e w' → ∃ v, e = .returned v ∧ KL P B n ops k rest (upd f d v) w') : KL P B n ops k (o :: rest) f w := by
  intro a ha
  refine wpList_plain hg fun K hK => ?_
  unfold Oper.wp
  rw [ha.eval, hrun]
  simp only [Oper.upon]
  refine hc.mono fun e w' hS => ?_
  obtain ⟨v, rfl, hk⟩ := h e w' hS
  refine hK _ _ (hk _ ?_)
  rw [hdst]
  exact ha.put hd v
theorem yielded_is {a : Act} (ha : Is n f a) {j d : Nat} {b : Bool} (hj : (ops[j]?).bind (·.dst) = some d) (hv : f d = .bool b) : yielded ops a.tmps j = some b := by
  have h1 := ha.get d
  rw [hv, Array.getD_eq_getD_getElem?] at h1
  unfold yielded
  rw [hj]
  simp only [Option.bind_some]
  cases h2 : a.tmps[d]? with
  | none => rw [h2] at h1; simp [undef] at h1
  | some v => rw [h2] at h1; simp at h1; subst h1; rfl
theorem r_guard_yes {dst : Option Nat} {op : Op} {t : TypeId} {pos : String} {aft : Array Edge} {j d : Nat} {b : Bool} (hj : (ops[j]?).bind (·.dst) = some d) (hv : f d = .bool b)
    (h : KL P B n ops k (⟨dst, op, t, pos, aft, none⟩ :: rest) f w) : KL P B n ops k (⟨dst, op, t, pos, aft, some (j, b)⟩ :: rest) f w := by
  intro a ha
  have hy := yielded_is ha hj hv
  have := h a ha
  unfold wpList at this ⊢
  simp only [Region.wanted, hy, beq_self_eq_true, if_true] at this ⊢
  exact this
theorem r_guard_no {dst : Option Nat} {op : Op} {t : TypeId} {pos : String} {aft : Array Edge} {j d : Nat} {b c : Bool} (hj : (ops[j]?).bind (·.dst) = some d) (hv : f d = .bool b) (hne : c = !b)
    (hd : (match dst with | some i => Nat.blt i n | none => true) = true)
    (h : KL P B n ops k rest (updo f dst undef) w) : KL P B n ops k (⟨dst, op, t, pos, aft, some (j, c)⟩ :: rest) f w := by
  intro a ha
  have hy := yielded_is ha hj hv
  unfold wpList
  subst hne
  have hw : (some b == some !b) = false := by cases b <;> rfl
  simp only [Region.wanted, hy, hw, Bool.false_eq_true, if_false]
  cases dst with
  | none => exact h a ha
  | some i => exact h _ (ha.put hd _)
theorem r_knowL {i : Nat} {v : Value} {l : List Oper} (hv : f i = v) (h : KL P B n ops k l (upd f i v) w) : KL P B n ops k l f w := fun a ha => h a (ha.know hv)
end ops
end Go.Vc
namespace Go.Vc
open Go Go.RowKit Go.IntWalk
def S (l : List UInt8) : Value := .string ⟨l.toArray⟩
theorem S_inj {a b : List UInt8} (h : S a = S b) : a = b := by
  unfold S at h
  injection h with h
  have := congrArg (fun x : ByteArray => x.data.toList) h
  simpa using this
theorem toList_S (l : List UInt8) : (ByteArray.mk l.toArray).toList = l := by
  exact ByteArray.toList_mk l
theorem size_S (l : List UInt8) : (ByteArray.mk l.toArray).size = l.length := by simp [ByteArray.size]
def gv (g : Prop) [Decidable g] (v : Value) : Value := if g then v else undef
theorem gv_yes {g : Prop} [Decidable g] {v : Value} (h : g) : gv g v = v := if_pos h
theorem gv_no {g : Prop} [Decidable g] {v : Value} (h : ¬ g) : gv g v = undef := if_neg h
section
variable {P : Program} {f : Fr} {w : World} {o : Oper}
theorem glv {g g' : Prop} [Decidable g'] {x : Operand} {v : Value} (h : opv f x = gv g' v) (hi : g → g') : g → opv f x = v := fun hg => by rw [h, gv_yes (hi hg)]
structure Wanted (f : Fr) (s : Nat) (want : Bool) (g : Prop) : Prop where
  yes : g → f s = .bool want
  no : ¬ g → f s ≠ .bool want
theorem wantT {s : Nat} {q : Prop} [Decidable q] (h : f s = .bool (decide q)) : Wanted f s true q := ⟨fun hq => by simp [h, hq], fun hq => by simp [h, hq]⟩
theorem wantF {s : Nat} {q : Prop} [Decidable q] (h : f s = .bool (decide q)) : Wanted f s false (¬ q) := ⟨fun hq => by simp [h, hq], fun hq => by simp at hq; simp [h, hq]⟩
theorem wantTg {s : Nat} {g q : Prop} [Decidable g] [Decidable q] (h : f s = gv g (.bool (decide q))) : Wanted f s true (g ∧ q) :=
  ⟨fun hq => by rw [h, gv_yes hq.1]; simp [hq.2], fun hq => by
    by_cases hg : g
    · have : ¬ q := fun h => hq ⟨hg, h⟩
      rw [h, gv_yes hg]; simp [this]
    · rw [h, gv_no hg]; simp [undef]⟩
theorem wantFg {s : Nat} {g q : Prop} [Decidable g] [Decidable q] (h : f s = gv g (.bool (decide q))) : Wanted f s false (g ∧ ¬ q) :=
  ⟨fun hq => by rw [h, gv_yes hq.1]; simp [hq.2], fun hq => by
    by_cases hg : g
    · have : q := Classical.byContradiction fun h => hq ⟨hg, h⟩
      rw [h, gv_yes hg]; simp [this]
    · rw [h, gv_no hg]; simp [undef]⟩
theorem run_mv {x : Operand} {v : Value} (ho : o.op = .move x) (hx : opv f x = v) : (execOp (opv f) o).run P w = .ok (.value v) w := by
  unfold execOp; rw [ho]; simp only []; rw [hx]; rfl
theorem run_asg {x : Operand} {v : Value} (ho : o.op = .assign x) (hx : opv f x = v) : (execOp (opv f) o).run P w = .ok (.value v) w := by
  unfold execOp; rw [ho]; simp only []; rw [hx]; rfl
theorem guard_int {op : BinOp} {t : TypeId} {x y : Operand} {k : IntKind} {a b : Int} : (eqGuard op t x y (.int k a) (.int k b)).run P w = .ok () w := by
  cases op <;> rfl
theorem run_bin {op : BinOp} {t t2 : TypeId} {x y : Operand} {k : IntKind} {a b : Int} {v : Value} (ho : o.op = .binOp op t x y t2) (hx : opv f x = .int k a) (hy : opv f y = .int k b)
    (h : (binOp op t (.int k a) (.int k b)).run P w = .ok v w) : (execOp (opv f) o).run P w = .ok (.value v) w := by
  unfold execOp
  rw [ho]
  simp only []
  rw [hx, hy]
  simp [guard_int, h]
theorem run_add {t t2 : TypeId} {x y : Operand} {a b : Int} (ho : o.op = .binOp .add t x y t2) (hx : opv f x = .int .i64 a) (hy : opv f y = .int .i64 b)
    (h1 : -9223372036854775808 ≤ a + b) (h2 : a + b ≤ 9223372036854775807) : (execOp (opv f) o).run P w = .ok (.value (.int .i64 (a + b))) w := by
  refine run_bin ho hx hy ?_
  simp [binOp, Op.intArith, i64_in _ ⟨h1, h2⟩]
theorem run_sub {t t2 : TypeId} {x y : Operand} {a b : Int} (ho : o.op = .binOp .sub t x y t2) (hx : opv f x = .int .i64 a) (hy : opv f y = .int .i64 b)
    (h1 : -9223372036854775808 ≤ a - b) (h2 : a - b ≤ 9223372036854775807) : (execOp (opv f) o).run P w = .ok (.value (.int .i64 (a - b))) w := by
  refine run_bin ho hx hy ?_
  simp [binOp, Op.intArith, i64_in _ ⟨h1, h2⟩]
theorem run_addw {t t2 : TypeId} {x y : Operand} {k : IntKind} {a b : Int} (ho : o.op = .binOp .add t x y t2) (hx : opv f x = .int k a) (hy : opv f y = .int k b) :
    (execOp (opv f) o).run P w = .ok (.value (.int k (k.wrap (a + b)))) w := by
  refine run_bin ho hx hy ?_
  simp [binOp, Op.intArith]
theorem run_subw {t t2 : TypeId} {x y : Operand} {k : IntKind} {a b : Int} (ho : o.op = .binOp .sub t x y t2) (hx : opv f x = .int k a) (hy : opv f y = .int k b) :
    (execOp (opv f) o).run P w = .ok (.value (.int k (k.wrap (a - b)))) w := by
  refine run_bin ho hx hy ?_
  simp [binOp, Op.intArith]
theorem run_rem {t t2 : TypeId} {x y : Operand} {k : IntKind} {a b : Int} (ho : o.op = .binOp .rem t x y t2) (hx : opv f x = .int k a) (hy : opv f y = .int k b) (h0 : b ≠ 0) :
    (execOp (opv f) o).run P w = .ok (.value (.int k (a.tmod b))) w := by
  refine run_bin ho hx hy ?_
  simp [binOp, Op.intDiv, h0]
theorem run_quo {t t2 : TypeId} {x y : Operand} {a b : Int} (ho : o.op = .binOp .quo t x y t2) (hx : opv f x = .int .i64 a) (hy : opv f y = .int .i64 b) (h0 : b ≠ 0)
    (h1 : -9223372036854775808 ≤ a.tdiv b) (h2 : a.tdiv b ≤ 9223372036854775807) : (execOp (opv f) o).run P w = .ok (.value (.int .i64 (a.tdiv b))) w := by
  refine run_bin ho hx hy ?_
  simp [binOp, Op.intDiv, h0, i64_in _ ⟨h1, h2⟩]
theorem run_lss {t t2 : TypeId} {x y : Operand} {k : IntKind} {a b : Int} (ho : o.op = .binOp .lss t x y t2) (hx : opv f x = .int k a) (hy : opv f y = .int k b) :
    (execOp (opv f) o).run P w = .ok (.value (.bool (decide (a < b)))) w := run_bin ho hx hy (by simp [binOp, Op.intCmp])
theorem run_leq {t t2 : TypeId} {x y : Operand} {k : IntKind} {a b : Int} (ho : o.op = .binOp .leq t x y t2) (hx : opv f x = .int k a) (hy : opv f y = .int k b) :
    (execOp (opv f) o).run P w = .ok (.value (.bool (decide (a ≤ b)))) w := run_bin ho hx hy (by simp [binOp, Op.intCmp])
theorem run_gtr {t t2 : TypeId} {x y : Operand} {k : IntKind} {a b : Int} (ho : o.op = .binOp .gtr t x y t2) (hx : opv f x = .int k a) (hy : opv f y = .int k b) :
    (execOp (opv f) o).run P w = .ok (.value (.bool (decide (b < a)))) w := run_bin ho hx hy (by simp [binOp, Op.intCmp])
theorem run_geq {t t2 : TypeId} {x y : Operand} {k : IntKind} {a b : Int} (ho : o.op = .binOp .geq t x y t2) (hx : opv f x = .int k a) (hy : opv f y = .int k b) :
    (execOp (opv f) o).run P w = .ok (.value (.bool (decide (b ≤ a)))) w := run_bin ho hx hy (by simp [binOp, Op.intCmp])
theorem run_eql {t t2 : TypeId} {x y : Operand} {k : IntKind} {a b : Int} (ho : o.op = .binOp .eql t x y t2) (hx : opv f x = .int k a) (hy : opv f y = .int k b) :
    (execOp (opv f) o).run P w = .ok (.value (.bool (decide (a = b)))) w := run_bin ho hx hy (by
      simp only [binOp, Op.intCmp, ne_eq, not_true_eq_false, if_false]
      exact congrArg (fun x => Result.ok (Value.bool x) w) (by rw [Bool.eq_iff_iff]; simp))
theorem run_neq {t t2 : TypeId} {x y : Operand} {k : IntKind} {a b : Int} (ho : o.op = .binOp .neq t x y t2) (hx : opv f x = .int k a) (hy : opv f y = .int k b) :
    (execOp (opv f) o).run P w = .ok (.value (.bool (decide (¬ a = b)))) w := run_bin ho hx hy (by
      simp only [binOp, Op.intCmp, ne_eq, not_true_eq_false, if_false]
      exact congrArg (fun x => Result.ok (Value.bool x) w) (by rw [Bool.eq_iff_iff]; simp))
theorem run_binS {op : BinOp} {t t2 : TypeId} {x y : Operand} {a b : List UInt8} {v : Value} (ho : o.op = .binOp op t x y t2) (hx : opv f x = S a) (hy : opv f y = S b)
    (h : (Op.stringOp op ⟨a.toArray⟩ ⟨b.toArray⟩).run P w = .ok v w) : (execOp (opv f) o).run P w = .ok (.value v) w := by
  unfold execOp
  rw [ho]
  simp only []
  rw [hx, hy]
  unfold S
  have hg : (eqGuard op t x y (.string ⟨a.toArray⟩) (.string ⟨b.toArray⟩)).run P w = .ok () w := by cases op <;> rfl
  have hb : binOp op t (.string ⟨a.toArray⟩) (.string ⟨b.toArray⟩) = Op.stringOp op ⟨a.toArray⟩ ⟨b.toArray⟩ := by cases op <;> rfl
  simp [hg, hb, h]
theorem run_seql {t t2 : TypeId} {x y : Operand} {a b : List UInt8} (ho : o.op = .binOp .eql t x y t2) (hx : opv f x = S a) (hy : opv f y = S b) :
    (execOp (opv f) o).run P w = .ok (.value (.bool (decide (a = b)))) w := run_binS ho hx hy (by
      simp only [Op.stringOp, toList_S]
      exact congrArg (fun x => Result.ok (Value.bool x) w) (by rw [Bool.eq_iff_iff]; simp))
theorem run_sneq {t t2 : TypeId} {x y : Operand} {a b : List UInt8} (ho : o.op = .binOp .neq t x y t2) (hx : opv f x = S a) (hy : opv f y = S b) :
    (execOp (opv f) o).run P w = .ok (.value (.bool (decide (¬ a = b)))) w := run_binS ho hx hy (by
      simp only [Op.stringOp, toList_S]
      exact congrArg (fun x => Result.ok (Value.bool x) w) (by rw [Bool.eq_iff_iff]; simp))
theorem run_sadd {t t2 : TypeId} {x y : Operand} {a b : List UInt8} (ho : o.op = .binOp .add t x y t2) (hx : opv f x = S a) (hy : opv f y = S b)
    (hb : a.length + b.length ≤ 9223372036854775807) : (execOp (opv f) o).run P w = .ok (.value (S (a ++ b))) w := run_binS ho hx hy (by
      have : ¬ (9223372036854775807 < (a.length : Int) + (b.length : Int)) := by omega
      have hm : IntKind.i64.max = 9223372036854775807 := by decide
      simp only [Op.stringOp, size_S, hm]
      rw [if_neg (by omega)]
      unfold S
      simp only [Sem.run_pure]
      congr 2)
def blt (a b : List UInt8) : Bool := Op.bytesLess a b
theorem run_not {t : TypeId} {x : Operand} {q : Prop} [Decidable q] (ho : o.op = .unOp .not t x) (hx : opv f x = .bool (decide q)) :
    (execOp (opv f) o).run P w = .ok (.value (.bool (decide (¬ q)))) w := by
  unfold execOp; rw [ho]; simp only []; rw [hx]; simp [Op.unary]
theorem run_notb {t : TypeId} {x : Operand} {b : Bool} (ho : o.op = .unOp .not t x) (hx : opv f x = .bool b) :
    (execOp (opv f) o).run P w = .ok (.value (.bool (!b))) w := by
  unfold execOp; rw [ho]; simp only []; rw [hx]; simp [Op.unary]
theorem run_pick_and {c a b : Operand} {q r : Prop} [Decidable q] [Decidable r] (ho : o.op = .pick c a b) (hc : opv f c = .bool (decide q)) (ha : q → opv f a = .bool (decide r)) (hb : opv f b = .bool false) :
    (execOp (opv f) o).run P w = .ok (.value (.bool (decide (q ∧ r)))) w := by
  unfold execOp; rw [ho]; simp only []; rw [hc, hb]
  by_cases hq : q
  · simp [asBool, ha hq, hq]
  · simp [asBool, hq]
theorem run_pick_or {c a b : Operand} {q r : Prop} [Decidable q] [Decidable r] (ho : o.op = .pick c a b) (hc : opv f c = .bool (decide q)) (ha : opv f a = .bool true) (hb : ¬ q → opv f b = .bool (decide r)) :
    (execOp (opv f) o).run P w = .ok (.value (.bool (decide (q ∨ r)))) w := by
  unfold execOp; rw [ho]; simp only []; rw [hc, ha]
  by_cases hq : q
  · simp [asBool, hq]
  · simp [asBool, hq, hb hq]
theorem run_pick_yes {c a b : Operand} {v : Value} (ho : o.op = .pick c a b) (hc : opv f c = .bool true) (ha : opv f a = v) :
    (execOp (opv f) o).run P w = .ok (.value v) w := by
  unfold execOp; rw [ho]; simp only []; rw [hc, ha]; simp [asBool]
theorem run_pick_no {c a b : Operand} {v : Value} (ho : o.op = .pick c a b) (hc : opv f c = .bool false) (hb : opv f b = v) :
    (execOp (opv f) o).run P w = .ok (.value v) w := by
  unfold execOp; rw [ho]; simp only []; rw [hc, hb]; simp [asBool]
theorem run_extract {t : Operand} {i : Nat} {vs : Array Value} {v : Value} (ho : o.op = .extract t i) (ht : opv f t = .tuple vs) (hv : vs[i]? = some v) :
    (execOp (opv f) o).run P w = .ok (.value v) w := by
  unfold execOp; rw [ho]; simp only []; rw [ht]; simp [Instr.extract, hv]
theorem run_builtin {bi : Builtin} {args : Array Operand} {at_ : Array TypeId} {vs : Array Value} {s : Sem Value} {v : Value} (ho : o.op = .call ⟨.builtin bi, args, at_⟩) (hvs : args.map (opv f) = vs)
    (hb : ∀ cs, builtin bi at_ o.type cs vs = (do pure (.value (← s)))) {w' : World} (h : s.run P w = .ok v w') : (execOp (opv f) o).run P w = .ok (.value v) w' := by
  unfold execOp; rw [ho]; simp only [resolve]; rw [hvs]; simp [invoke, hb, h]
theorem run_lenS {t : TypeId} {x : Operand} {l : List UInt8} (ho : o.op = .call ⟨.builtin .len, #[x], #[t]⟩) (hx : opv f x = S l) (ht : P.underlying t = some .string) :
    (execOp (opv f) o).run P w = .ok (.value (.int .i64 (l.length : Int))) w := by
  refine run_builtin (s := Builtin.len_ #[t] o.type #[S l]) ho (by simp [hx]) (fun cs => rfl) ?_
  unfold S
  simp [Builtin.len_, run_underlying ht, goInt, size_S]
theorem run_lenSl {t e : TypeId} {x : Operand} {ao : Option Addr} {len cap : Nat} (ho : o.op = .call ⟨.builtin .len, #[x], #[t]⟩) (hx : opv f x = .slice ao len cap) (ht : P.underlying t = some (.slice e)) :
    (execOp (opv f) o).run P w = .ok (.value (.int .i64 (len : Int))) w := by
  refine run_builtin (s := Builtin.len_ #[t] o.type #[.slice ao len cap]) ho (by simp [hx]) (fun cs => rfl) ?_
  simp [Builtin.len_, run_underlying ht, goInt]
theorem run_max {ts : Array TypeId} {x y : Operand} {k : IntKind} {a b : Int} (ho : o.op = .call ⟨.builtin .max, #[x, y], ts⟩) (hx : opv f x = .int k a) (hy : opv f y = .int k b) :
    (execOp (opv f) o).run P w = .ok (.value (.int k (max a b))) w := by
  refine run_builtin (s := Builtin.max_ ts o.type #[.int k a, .int k b]) ho (by simp [hx, hy]) (fun cs => rfl) ?_
  have : (if b > a then b else a) = max a b := by omega
  simp [Builtin.max_, Builtin.max2, List.foldlM, this]
theorem run_min {ts : Array TypeId} {x y : Operand} {k : IntKind} {a b : Int} (ho : o.op = .call ⟨.builtin .min, #[x, y], ts⟩) (hx : opv f x = .int k a) (hy : opv f y = .int k b) :
    (execOp (opv f) o).run P w = .ok (.value (.int k (min a b))) w := by
  refine run_builtin (s := Builtin.min_ ts o.type #[.int k a, .int k b]) ho (by simp [hx, hy]) (fun cs => rfl) ?_
  have : (if b < a then b else a) = min a b := by omega
  simp [Builtin.min_, Builtin.min2, List.foldlM, this]
theorem argcons {x : Operand} {l : List Operand} {v : Value} {vs : List Value} (h : opv f x = v) (t : l.map (opv f) = vs) : (x :: l).map (opv f) = v :: vs := by simp [h, t]
theorem run_callf {g : FuncId} {args : List Operand} {ts : Array TypeId} {vs : List Value} {fn : Func} {c : Code} (ho : o.op = .call ⟨.value (.func g), args.toArray, ts⟩) (hvs : args.map (opv f) = vs)
    (hf : P.funcs[g]? = some fn) (hb : fn.body = some c) (hn : (fn.name == "runtime.NumGoroutine") = false) : (execOp (opv f) o).run P w = .ok (.enter g vs.toArray) w := by
  unfold execOp; rw [ho]; simp only [resolve]
  rw [show args.toArray.map (opv f) = vs.toArray from by rw [← hvs]; simp]
  have hn' : ¬ fn.name = "runtime.NumGoroutine" := by simpa using hn
  simp [Deferred.ofValue, invoke, callFunc, hf, hb, hn']
end
section
variable {P : Program} {B : Exit → Act → World → Prop} {n : Nat} {k : List Kont} {f : Fr} {w : World} {ops : Array Oper} {rest : List Oper}
theorem r_g {d : Nat} {op : Op} {t : TypeId} {pos : String} {aft : Array Edge} {j s : Nat} {b : Bool} {g : Prop} [Decidable g] {v : Value} (hj : (ops[j]?).bind (·.dst) = some s) (hw : Wanted f s b g)
    (hd : Nat.blt d n = true) (hrun : g → (execOp (opv f) ⟨some d, op, t, pos, aft, none⟩).run P w = .ok (.value v) w)
    (h : KL P B n ops k rest (upd f d (gv g v)) w) : KL P B n ops k (⟨some d, op, t, pos, aft, some (j, b)⟩ :: rest) f w := by
  by_cases hg : g
  · refine r_guard_yes hj (hw.yes hg) (r_op rfl rfl hd (hrun hg) ?_)
    rw [gv_yes hg] at h
    exact h
  · rw [gv_no hg] at h
    intro a ha
    have hy : (yielded ops a.tmps j == some b) = false := by
      have h1 := ha.get s
      have h2 := hw.no hg
      rw [← h1, Array.getD_eq_getD_getElem?] at h2
      unfold yielded
      rw [hj]
      simp only [Option.bind_some]
      cases h3 : a.tmps[s]? with
      | none => rfl
      | some u =>
        rw [h3] at h2
        simp at h2
        cases u <;> simp_all
        rename_i b'
        intro e
        exact h2 (by rw [← h1, e])
    unfold wpList
    simp only [Region.wanted, hy, Bool.false_eq_true, if_false]
    exact h _ (ha.put hd _)
end
end Go.Vc
namespace Go.Vc
open Go Go.RowKit Go.IntWalk
structure Evo (w w' : World) (E : List Nat) : Prop where
  os : w'.os = w.os
  tape : w'.tape = w.tape
  output : w'.output = w.output
  size : w.heap.size ≤ w'.heap.size
  same : ∀ b, b < w.heap.size → b ∉ E → w'.heap[b]? = w.heap[b]?
theorem Evo.refl (w : World) (E : List Nat) : Evo w w E := ⟨rfl, rfl, rfl, Nat.le_refl _, fun _ _ _ => rfl⟩
theorem Evo.trans {a b c : World} {E E' : List Nat} (h : Evo a b E) (k : Evo b c E') (hE : ∀ x ∈ E', x < a.heap.size → x ∈ E) : Evo a c E :=
  ⟨k.os.trans h.os, k.tape.trans h.tape, k.output.trans h.output, Nat.le_trans h.size k.size, fun x hx hn =>
    (k.same x (Nat.lt_of_lt_of_le hx h.size) (fun hm => hn (hE x hm hx))).trans (h.same x hx hn)⟩
theorem Evo.mono {a b : World} {E E' : List Nat} (h : Evo a b E) (hE : ∀ x ∈ E, x ∈ E') : Evo a b E' := ⟨h.os, h.tape, h.output, h.size, fun x hx hn => h.same x hx (fun hm => hn (hE x hm))⟩
theorem Evo.drew (w : World) (E : List Nat) : Evo w w.drew E := ⟨rfl, rfl, rfl, Nat.le_refl _, fun _ _ _ => rfl⟩
theorem Evo.alloc (w : World) (o : Obj) (E : List Nat) : Evo w (w.alloc o) E := ⟨rfl, rfl, rfl, by simp, fun b hb _ => Below.heap_alloc w o b hb⟩
theorem Evo.setCell (w : World) (a : Addr) (v : Value) : Evo w (w.setCell a v) [a.block] := ⟨rfl, rfl, rfl, by simp, fun b _ hn => Below.heap_setCell w a v b (by simpa using hn)⟩
theorem Evo.setRow (w : World) (g : Nat) (cs : Array Value) : Evo w (w.setRow g cs) [g] := ⟨rfl, rfl, rfl, by simp, fun b _ hn => setRow_other w g b cs (by simpa using hn)⟩
theorem Evo.below {w w' : World} (h : Evo w w' []) : Below w.heap.size w w' := ⟨h.os, h.tape, h.output, h.size, fun k hk => h.same k hk (by simp)⟩
theorem Evo.grown {w w' : World} {row : Option Nat} (h : w.grownBy w' row) : Evo w w' row.toList := ⟨h.os, h.tape, h.output, h.size, fun b hb hn => h.block b hb (by
  intro e; apply hn; rw [← e]; simp)⟩
theorem evo_step0 {w0 w w' : World} {X : List Nat} (h : Evo w0 w X) (he : Evo w w' []) : Evo w0 w' X := h.trans he (by simp)
theorem evo_step1 {w0 w w' : World} {X : List Nat} {b : Nat} (h : Evo w0 w X) (he : Evo w w' [b]) (hb : w0.heap.size ≤ b ∨ b ∈ X) : Evo w0 w' X := h.trans he (fun x hx hlt => by
  simp at hx
  subst hx
  rcases hb with hb | hb
  · omega
  · exact hb)
theorem evo_stepo {w0 w w' : World} {X : List Nat} {v : Value} (h : Evo w0 w X) (he : Evo w w' v.ownBlock.toList) (hb : ∀ g, v.ownBlock = some g → w0.heap.size ≤ g ∨ g ∈ X) : Evo w0 w' X := h.trans he (fun x hx hlt => by
  have hv : v.ownBlock = some x := by simpa using hx
  rcases hb x hv with hb | hb
  · omega
  · exact hb)
def tyP (P : Program) (T : TypeId) : Option (Nat × Nat × Option Value) := (P.info? T).map (fun i => (i.size, i.bytes, i.zero))
def aggP (P : Program) (T : TypeId) : Option Bool :=
  match P.underlying T with
  | some (.struct _) => some true
  | some (.array _ _) => some true
  | some _ => some false
  | none => none
def fieldP (P : Program) (T : TypeId) (f : Nat) : Option Nat :=
  match P.underlying T with
  | some (.struct fs) => match fs[f]? with
    | some d => match P.info? d.type with
      | some i => if i.size = 0 then none else some d.offset
      | none => none
    | none => none
  | _ => none
section
variable {P : Program} {w : World} {T : TypeId}
theorem run_sizeOf {n b : Nat} {z : Option Value} (h : tyP P T = some (n, b, z)) : (sizeOf T).run P w = .ok n w := by
  unfold tyP at h
  cases hi : P.info? T with
  | none => rw [hi] at h; cases h
  | some i => rw [hi] at h; simp at h; simp [sizeOf, typeInfo, hi, h.1]
theorem run_zero {n b : Nat} {z : Value} (h : tyP P T = some (n, b, some z)) : (zeroValue T).run P w = .ok z w := by
  unfold tyP at h
  cases hi : P.info? T with
  | none => rw [hi] at h; cases h
  | some i => rw [hi] at h; simp at h; simp [zeroValue, typeInfo, hi, h.2.2]
theorem run_isAgg {b : Bool} (h : aggP P T = some b) : (isAgg T).run P w = .ok b w := by
  unfold aggP at h
  unfold isAgg
  cases hu : P.underlying T with
  | none => rw [hu] at h; cases h
  | some d =>
    rw [hu] at h
    cases d <;> simp_all [run_underlying hu]
theorem run_fieldAt {f off b o : Nat} (h : fieldP P T f = some off) : (Instr.fieldAt T (.pointer (some ⟨b, o, none⟩)) f).run P w = .ok (.pointer (some ⟨b, o + off, none⟩)) w := by
  unfold fieldP at h
  unfold Instr.fieldAt
  cases hu : P.underlying T with
  | none => rw [hu] at h; cases h
  | some d =>
    rw [hu] at h
    cases d <;> try (simp at h; done)
    case struct fs =>
      simp only at h
      cases hf : fs[f]? with
      | none => rw [hf] at h; cases h
      | some d =>
        rw [hf] at h
        simp only at h
        cases hi : P.info? d.type with
        | none => rw [hi] at h; cases h
        | some i =>
          rw [hi] at h
          simp only at h
          by_cases hz : i.size = 0
          · rw [if_pos hz] at h; cases h
          · rw [if_neg hz] at h
            injection h with h
            have hadd : (⟨b, o, none⟩ : Addr).add d.offset = ⟨b, o + off, none⟩ := by
              rw [h]; unfold Addr.add; split <;> simp_all
            simp [run_underlying hu, hf, Instr.sureAddr, fieldPlace, sizeOf, typeInfo, hi, hz, hadd]
end
def At (w : World) (b off : Nat) (cs : List Value) : Prop := ∀ j v, cs[j]? = some v → w.cell? ⟨b, off + j, none⟩ = some v
def Blk (w : World) (b : Nat) (T : TypeId) (cs : List Value) : Prop := w.heap[b]? = some (.cells cs.toArray T (0, 0))
theorem At.cell {w : World} {b off : Nat} {cs : List Value} (h : At w b off cs) (j : Nat) {v : Value} (hj : cs[j]? = some v) : w.cell? ⟨b, off + j, none⟩ = some v := h j v hj
theorem At.evo {w w' : World} {b off : Nat} {cs : List Value} {E : List Nat} (h : At w b off cs) (he : Evo w w' E) (hn : b ∉ E) : At w' b off cs := by
  intro j v hj
  have h1 := h j v hj
  rw [World.cell?_of_block (w := w) (he.same b (World.block_lt_of_cell? w _ h1) hn)]
  exact h1
theorem At.evo0 {w w' : World} {b off : Nat} {cs : List Value} (h : At w b off cs) (he : Evo w w' []) : At w' b off cs := h.evo he (by simp)
theorem At.below {w0 w : World} {b off : Nat} {cs : List Value} (h : At w0 b off cs) (hb : Below w0.heap.size w0 w) : At w b off cs := by
  intro j v hj
  have h1 := h j v hj
  rw [hb.cell (World.block_lt_of_cell? w0 _ h1)]
  exact h1
theorem At.sub {w : World} {b off : Nat} {cs : List Value} (h : At w b off cs) (i : Nat) (ds : List Value) (hd : ∀ j v, ds[j]? = some v → cs[i + j]? = some v) : At w b (off + i) ds := by
  intro j v hj
  have := h (i + j) v (hd j v hj)
  rwa [← Nat.add_assoc] at this
theorem At.part {w : World} {b off : Nat} {cs ds : List Value} (h : At w b off cs) (i m : Nat) (hd : (cs.drop i).take m = ds) : At w b (off + i) ds := by
  refine h.sub i ds (fun j v hj => ?_)
  subst hd
  rw [List.getElem?_take] at hj
  split at hj
  · simpa using hj
  · cases hj
theorem Blk.lt {w : World} {b : Nat} {T : TypeId} {cs : List Value} (h : Blk w b T cs) : b < w.heap.size := by
  unfold Blk at h
  rcases Nat.lt_or_ge b w.heap.size with h1 | h1
  · exact h1
  · rw [Array.getElem?_eq_none h1] at h; cases h
theorem Blk.at {w : World} {b : Nat} {T : TypeId} {cs : List Value} (h : Blk w b T cs) : At w b 0 cs := by
  intro j v hj
  unfold Blk at h
  simp only [World.cell?, h, Nat.zero_add, Option.isSome_none, Bool.false_eq_true, if_false]
  simpa using hj
theorem Blk.evo {w w' : World} {b : Nat} {T : TypeId} {cs : List Value} {E : List Nat} (h : Blk w b T cs) (he : Evo w w' E) (hn : b ∉ E) : Blk w' b T cs := (he.same b h.lt hn).trans h
theorem Blk.evo0 {w w' : World} {b : Nat} {T : TypeId} {cs : List Value} (h : Blk w b T cs) (he : Evo w w' []) : Blk w' b T cs := h.evo he (by simp)
theorem Blk.below {w0 w : World} {b : Nat} {T : TypeId} {cs : List Value} (h : Blk w0 b T cs) (hb : Below w0.heap.size w0 w) : Blk w b T cs := (hb.block b h.lt).trans h
theorem run_load1 {P : Program} {w : World} {T : TypeId} {b off : Nat} {v : Value} (ha : aggP P T = some false) (hc : w.cell? ⟨b, off, none⟩ = some v) :
    (Instr.loadAt T (.pointer (some ⟨b, off, none⟩))).run P w = .ok v w := by
  simp [Instr.loadAt, Instr.sureAddr, loadVar, run_isAgg ha, run_load, hc]
theorem add_lit (b o j : Nat) : (⟨b, o, none⟩ : Addr).add j = ⟨b, o + j, none⟩ := by unfold Addr.add; split <;> simp_all
theorem run_loadN {P : Program} {w : World} {T : TypeId} {b off n bb : Nat} {z : Option Value} {cs : List Value} (ha : aggP P T = some true) (ht : tyP P T = some (n, bb, z)) (hn : cs.length = n) (hc : At w b off cs) :
    (Instr.loadAt T (.pointer (some ⟨b, off, none⟩))).run P w = .ok (.agg cs.toArray) w := by
  have h1 := run_loadCells_list (P := P) w ⟨b, off, none⟩ cs (fun j v hj => by rw [add_lit]; exact hc j v hj)
  rw [hn] at h1
  simp [Instr.loadAt, Instr.sureAddr, loadVar, run_isAgg ha, run_sizeOf ht, h1]
section
variable {P : Program} {B : Exit → Act → World → Prop} {n : Nat} {k : List Kont} {f : Fr} {w : World} {ops : Array Oper} {rest : List Oper} {o : Oper}
theorem run_ld1 {T : TypeId} {x : Operand} {b off : Nat} {v : Value} (ho : o.op = .load T x) (ha : aggP P T = some false) (hx : opv f x = .pointer (some ⟨b, off, none⟩)) (hc : w.cell? ⟨b, off, none⟩ = some v) :
    (execOp (opv f) o).run P w = .ok (.value v) w := by
  unfold execOp; rw [ho]; simp only []; rw [hx]; simp [run_load1 ha hc]
theorem run_ldN {T : TypeId} {x : Operand} {b off m bb : Nat} {z : Option Value} {cs : List Value} (ho : o.op = .load T x) (ha : aggP P T = some true) (ht : tyP P T = some (m, bb, z))
    (hx : opv f x = .pointer (some ⟨b, off, none⟩)) (hn : cs.length = m) (hc : At w b off cs) :
    (execOp (opv f) o).run P w = .ok (.value (.agg cs.toArray)) w := by
  unfold execOp; rw [ho]; simp only []; rw [hx]; simp [run_loadN ha ht hn hc]
theorem run_fa {T : TypeId} {x : Operand} {i b off fo : Nat} (ho : o.op = .fieldAddr T x i) (hx : opv f x = .pointer (some ⟨b, off, none⟩)) (hf : fieldP P T i = some fo) :
    (execOp (opv f) o).run P w = .ok (.value (.pointer (some ⟨b, off + fo, none⟩))) w := by
  unfold execOp; rw [ho]; simp only []; rw [hx]; simp [run_fieldAt hf]
theorem run_nc {x : Operand} {a : Addr} (ho : o.op = .nilCheck x) (hx : opv f x = .pointer (some a)) :
    (execOp (opv f) o).run P w = .ok (.value (.pointer (some a))) w := by
  unfold execOp; rw [ho]; simp only []; rw [hx]; rfl
theorem r_alloc {T d m bb : Nat} {t : TypeId} {pos : String} {aft : Array Edge} {z : Value} {zs : List Value} (ht : tyP P T = some (m, bb, some z)) (hz : z.cells = zs.toArray) (hd : Nat.blt d n = true)
    (h : ∀ b w', b = w.heap.size → Evo w w' [] → Blk w' b T zs → w'.heap.size = b + 1 → KL P B n ops k rest (upd f d (.pointer (some ⟨b, 0, none⟩))) w') :
    KL P B n ops k (⟨some d, .alloc T, t, pos, aft, none⟩ :: rest) f w := by
  refine r_op (v := .pointer (some ⟨w.heap.size, 0, none⟩)) (w' := w.alloc (.cells zs.toArray T)) rfl rfl hd ?_ (h _ _ rfl (Evo.alloc _ _ _) (heap_alloc_new w _) (by simp))
  simp [execOp, Instr.alloc, run_zero ht, newVar, newRow, hz]
theorem r_box {T d : Nat} {t : TypeId} {pos : String} {aft : Array Edge} {x : Operand} {v : Value} {vs : List Value} (hx : opv f x = v) (hv : v.cells = vs.toArray) (hd : Nat.blt d n = true)
    (h : ∀ b w', b = w.heap.size → Evo w w' [] → Blk w' b T vs → w'.heap.size = b + 1 → KL P B n ops k rest (upd f d (.pointer (some ⟨b, 0, none⟩))) w') :
    KL P B n ops k (⟨some d, .box T x, t, pos, aft, none⟩ :: rest) f w := by
  refine r_op (v := .pointer (some ⟨w.heap.size, 0, none⟩)) (w' := w.alloc (.cells vs.toArray T)) rfl rfl hd ?_ (h _ _ rfl (Evo.alloc _ _ _) (heap_alloc_new w _) (by simp))
  simp [execOp, hx, Instr.box, newVar, newRow, hv]
def oneCells (vs : List Value) : Bool := vs.all (·.oneCell')
theorem run_storeB {T T' : TypeId} {b off m bb : Nat} {z : Option Value} {v : Value} {cs vs : List Value} (hb : Blk w b T' cs) (ht : tyP P T = some (m, bb, z)) (hv : v.cells = vs.toArray) (hm : vs.length = m)
    (h1 : oneCells vs = true) (hfit : off + vs.length ≤ cs.length) :
    (Instr.storeAt T (.pointer (some ⟨b, off, none⟩)) v).run P w = .ok () (w.setRow b (cs.take off ++ vs ++ cs.drop (off + vs.length)).toArray) := by
  have h2 := run_storeCells_at P b off T' vs 0 cs.toArray w hb (by simpa using hfit) (fun u hu => by
    have := List.all_eq_true.1 h1 u hu; exact this)
  have h3 : v.cells.size = m := by rw [hv]; simpa using hm
  simp only [Nat.add_zero] at h2
  rw [hv] at h3
  simp only [Instr.storeAt, Instr.sureAddr, storeVar, Sem.run_bind, run_sizeOf ht, hv, Sem.run_pure, Result.andThen_ok]
  simp only [h3, ne_eq, not_true_eq_false, if_false]
  simpa using h2
theorem r_store {T T' : TypeId} {t : TypeId} {pos : String} {aft : Array Edge} {x y : Operand} {b off m bb : Nat} {z : Option Value} {v : Value} {cs vs cs' : List Value}
    (hx : opv f x = .pointer (some ⟨b, off, none⟩)) (hy : opv f y = v) (hb : Blk w b T' cs) (ht : tyP P T = some (m, bb, z)) (hv : v.cells = vs.toArray) (hm : vs.length = m)
    (h1 : oneCells vs = true) (hfit : Nat.ble (off + vs.length) cs.length = true) (hcs : cs.take off ++ vs ++ cs.drop (off + vs.length) = cs')
    (h : ∀ w', Evo w w' [b] → w'.heap.size = w.heap.size → Blk w' b T' cs' → KL P B n ops k rest f w') :
    KL P B n ops k (⟨none, .store T x y, t, pos, aft, none⟩ :: rest) f w := by
  refine r_op0 (w' := w.setRow b cs'.toArray) rfl rfl ?_ (h _ (Evo.setRow _ _ _) (by simp) (setRow_heap w b _ _ _ _ hb))
  have := run_storeB (P := P) hb ht hv hm h1 (by simpa using hfit)
  simp [execOp, hx, hy, this, ← hcs]
theorem r_var {T d : Nat} {t t2 : TypeId} {pos pos2 : String} {aft aft2 : Array Edge} {y : Operand} {m bb : Nat} {z v : Value} {zs vs : List Value}
    (ht : tyP P T = some (m, bb, some z)) (hz : z.cells = zs.toArray) (hd : Nat.blt d n = true) (hy : opv (upd f d undef) y = v) (hyd : ∀ u, opv (upd f d u) y = opv (upd f d undef) y) (hv : v.cells = vs.toArray) (hm : vs.length = m) (hzm : zs.length = m) (h1 : oneCells vs = true)
    (h : ∀ b w', b = w.heap.size → Evo w w' [] → Blk w' b T vs → w'.heap.size = b + 1 → KL P B n ops k rest (upd f d (.pointer (some ⟨b, 0, none⟩))) w') :
    KL P B n ops k (⟨some d, .alloc T, t, pos, aft, none⟩ :: ⟨none, .store T (.tmp d) y, t2, pos2, aft2, none⟩ :: rest) f w := by
  refine r_alloc ht hz hd ?_
  intro b w' hb he hB hs
  refine r_store (b := b) (off := 0) (cs := zs) (vs := vs) (cs' := vs) (by simp only [opv, upd_same]) ((hyd _).trans hy) hB ht hv hm h1 (by simp [hm, hzm]) (by simp [hm, hzm]) ?_
  intro w'' he' hs' hB'
  refine h b w'' hb (he.trans he' (by simp; omega)) hB' (by omega)
theorem map_parts (f : Fr) (ps : List (Nat × Operand)) : (ps.toArray.map fun (i, x) => (i, opv f x)) = (ps.map fun p => (p.1, opv f p.2)).toArray := by simp
def fillL (place : Nat → Option (Nat × Nat)) (cells : List Value) : List (Nat × Value) → Option (List Value)
  | [] => some cells
  | (i, v) :: rest =>
    match place i with
    | none => none
    | some (off, size) => bif Nat.beq v.cells.toList.length size && Nat.ble (off + size) cells.length then fillL place (cells.take off ++ v.cells.toList ++ cells.drop (off + size)) rest else none
theorem fold_set : ∀ (l : List Value) (i off : Nat) (A : Array Value), off + i + l.length ≤ A.size → (l.zipIdx i).foldl (fun cs x => cs.setIfInBounds (off + x.2) x.1) A = (A.toList.take (off + i) ++ l ++ A.toList.drop (off + i + l.length)).toArray
  | [], i, off, A, h => by simp
  | c :: l, i, off, A, h => by
    have h2 := fold_set l (i + 1) off (A.setIfInBounds (off + i) c) (by simp at h ⊢; omega)
    simp only [List.zipIdx_cons, List.foldl_cons]
    rw [h2]
    apply Array.ext'
    simp only [Array.toList_setIfInBounds]
    have hi : off + i < A.toList.length := by simp at h ⊢; omega
    have e1 : off + (i + 1) = off + i + 1 := by omega
    rw [e1, List.take_set, List.take_succ_eq_append_getElem hi, List.set_append_right _ _ (by rw [List.length_take]; omega)]
    have e2 : off + i - (A.toList.take (off + i)).length = 0 := by rw [List.length_take]; omega
    rw [e2, List.drop_set_of_lt (by omega)]
    simp only [List.set_cons_zero, List.length_cons, List.append_assoc, List.cons_append, List.nil_append]
    congr 3
    congr 1
    omega
theorem fill_of {place : Nat → Option (Nat × Nat)} : ∀ (parts : List (Nat × Value)) (cells cells' : List Value), fillL place cells parts = some cells' → Instr.fill place cells.toArray parts = some cells'.toArray
  | [], cells, cells', h => by simp [fillL] at h; subst h; rfl
  | (i, v) :: rest, cells, cells', h => by
    simp only [fillL] at h
    simp only [Instr.fill]
    cases hp : place i with
    | none => rw [hp] at h; cases h
    | some q =>
      obtain ⟨off, size⟩ := q
      rw [hp] at h
      simp only at h ⊢
      cases hb : (Nat.beq v.cells.toList.length size && Nat.ble (off + size) cells.length)
      · rw [hb] at h; cases h
      · rw [hb] at h
        simp only [Bool.and_eq_true, Nat.ble_eq] at hb
        have hsz : v.cells.size = size := by have := Nat.eq_of_beq_eq_true hb.1; simpa using this
        rw [if_neg (by simp [hsz]; omega)]
        have hf := fold_set v.cells.toList 0 off cells.toArray (by simp [hsz]; omega)
        have : v.cells.zipIdx.foldl (fun cs (x : Value × Nat) => cs.setIfInBounds (off + x.2) x.1) cells.toArray = (cells.take off ++ v.cells.toList ++ cells.drop (off + size)).toArray := by
          rw [← Array.foldl_toList, Array.toList_zipIdx, hf]
          simp [hsz]
        have e : (v.cells.zipIdx.foldl (fun cs (c, j) => cs.setIfInBounds (off + j) c) cells.toArray) = (cells.take off ++ v.cells.toList ++ cells.drop (off + size)).toArray := this
        rw [e]
        exact fill_of rest _ _ h
def placesP (P : Program) (T : TypeId) : Option (List (Nat × Nat)) :=
  match P.underlying T with
  | some (.struct fs) => fs.toList.mapM (fun f => (P.info? f.type).map fun i => (f.offset, i.size))
  | some (.array n e) => (P.info? e).map fun i => (List.range n).map (fun j => (j * i.size, i.size))
  | _ => none
theorem fillL_mono {p q : Nat → Option (Nat × Nat)} (h : ∀ i x, p i = some x → q i = some x) : ∀ (parts : List (Nat × Value)) (cells cells' : List Value), fillL p cells parts = some cells' → fillL q cells parts = some cells'
  | [], _, _, hh => hh
  | (i, v) :: rest, cells, cells', hh => by
    simp only [fillL] at hh ⊢
    cases hp : p i with
    | none => rw [hp] at hh; cases hh
    | some x =>
      rw [hp] at hh
      rw [h i x hp]
      obtain ⟨off, size⟩ := x
      simp only at hh ⊢
      cases hb : (Nat.beq v.cells.toList.length size && Nat.ble (off + size) cells.length)
      · rw [hb] at hh; cases hh
      · rw [hb] at hh
        exact fillL_mono h rest _ _ hh
theorem run_bld {T : TypeId} {ps : List (Nat × Operand)} {pv : List (Nat × Value)} {pl : List (Nat × Nat)} {m bb : Nat} {z : Value} {zs cells : List Value} (ho : o.op = .build T ps.toArray) (ht : tyP P T = some (m, bb, some z)) (hz : z.cells = zs.toArray) (hpl : placesP P T = some pl)
    (hps : (ps.map fun p => (p.1, opv f p.2)) = pv) (h : fillL (fun i => pl[i]?) zs pv = some cells) :
    (execOp (opv f) o).run P w = .ok (.value (.agg cells.toArray)) w := by
  unfold execOp; rw [ho]; simp only []
  rw [map_parts, hps]
  have hb : P.built T pv = some cells.toArray := by
    unfold Program.built
    unfold tyP at ht
    unfold placesP at hpl
    cases hi : P.info? T with
    | none => rw [hi] at ht; cases ht
    | some it =>
      rw [hi] at ht
      simp at ht
      cases hu : P.underlying T with
      | none => rw [hu] at hpl; cases hpl
      | some d =>
        rw [hu] at hpl
        cases d <;> try (simp at hpl; done)
        case array n e =>
          simp only at hpl
          cases hie : P.info? e with
          | none => rw [hie] at hpl; cases hpl
          | some ie =>
            rw [hie] at hpl
            simp only [Option.map_some, Option.some.injEq] at hpl
            subst hpl
            simp only [ht.2.2, hie, hz]
            refine fill_of _ _ _ (fillL_mono (fun i x hx => ?_) _ _ _ h)
            simp only [List.getElem?_map] at hx
            cases hr : (List.range n)[i]? with
            | none => rw [hr] at hx; cases hx
            | some j =>
              rw [hr] at hx
              have : j = i := by
                have := List.getElem?_range (n := n) (i := i) (by
                  rcases Nat.lt_or_ge i n with h1 | h1
                  · exact h1
                  · rw [List.getElem?_eq_none (by simpa using h1)] at hr; cases hr)
                rw [this] at hr
                injection hr with hr
                exact hr.symm
              subst this
              simpa using hx
        case struct fs =>
          simp only at hpl
          simp only [ht.2.2, hpl, hz]
          exact fill_of _ _ _ (fillL_mono (fun i x hx => by simpa using hx) _ _ _ h)
  simp [run_build w T pv.toArray cells.toArray (by simpa using hb)]
theorem zeros_cells {z : Value} {zs : List Value} {m : Nat} (hz : z.cells = zs.toArray) (hm : zs.length = m) (hm0 : 0 < m) : ∀ len, (Array.range (len * m)).map (z.cells[· % z.cells.size]!) = ((List.replicate len zs).flatten).toArray
  | 0 => by simp
  | len + 1 => by
    have ih := zeros_cells hz hm hm0 len
    apply Array.ext'
    have hl := congrArg Array.toList ih
    rw [List.replicate_succ', List.flatten_append]
    simp only [Array.toList_map, Array.toList_range, List.flatten_cons, List.flatten_nil, List.append_nil] at hl ⊢
    rw [← hl, Nat.add_mul, Nat.one_mul, List.range_add, List.map_append]
    congr 1
    apply List.ext_getElem?
    intro j
    rw [List.map_map, List.getElem?_map]
    by_cases hj : j < m
    · rw [List.getElem?_range hj]
      have hs : z.cells.size = m := by rw [hz]; simpa using hm
      have e : (len * m + j) % m = j := by rw [Nat.add_comm, Nat.add_mul_mod_self_right, Nat.mod_eq_of_lt hj]
      simp only [Option.map_some, Function.comp, hs, e]
      have hj2 : j < zs.length := by omega
      rw [hz]
      simp [hj2]
    · rw [List.getElem?_eq_none (by simp; omega), List.getElem?_eq_none (by omega)]
      rfl
theorem r_bslice {T E d len m bb : Nat} {t : TypeId} {pos : String} {aft : Array Edge} {ps : List (Nat × Operand)} {pv : List (Nat × Value)} {z : Value} {zs cs : List Value}
    (hu : P.underlying T = some (.slice E)) (ht : tyP P E = some (m, bb, some z)) (hz : z.cells = zs.toArray) (hd : Nat.blt d n = true) (hps : (ps.map fun p => (p.1, opv f p.2)) = pv) (hlen : (Nat.beq zs.length m && Nat.ble 1 m && Nat.ble (len * m) 10000) = true)
    (hf : fillL (fun i => some (i * m, m)) (List.replicate len zs).flatten pv = some cs)
    (h : ∀ b w', b = w.heap.size → Evo w w' [] → Blk w' b E cs → w'.heap.size = b + 1 → KL P B n ops k rest (upd f d (.slice (some ⟨b, 0, none⟩) len len)) w') :
    KL P B n ops k (⟨some d, .buildSlice T len ps.toArray, t, pos, aft, none⟩ :: rest) f w := by
  refine r_op (v := .slice (some ⟨w.heap.size, 0, none⟩) len len) (w' := w.alloc (.cells cs.toArray E)) rfl rfl hd ?_ (h _ _ rfl (Evo.alloc _ _ _) (heap_alloc_new w _) (by simp))
  unfold execOp
  simp only []
  rw [map_parts, hps]
  simp only [Bool.and_eq_true, Nat.ble_eq] at hlen
  have hzl := Nat.eq_of_beq_eq_true hlen.1.1
  have h24 : ¬ (2 ^ 24 < len * m) := by have : (2:Nat) ^ 24 = 16777216 := by decide
                                        omega
  have hfill := fill_of _ _ _ hf
  rw [← zeros_cells hz hzl (by omega) len] at hfill
  by_cases h0 : len * m = 0
  · have hl0 : len = 0 := by
      rcases Nat.mul_eq_zero.1 h0 with h1 | h1
      · exact h1
      · omega
    subst hl0
    have e0 : ∀ g : Nat → Value, (Array.range 0).map g = #[] := fun g => Array.eq_empty_of_size_eq_zero (by simp)
    have hfill' : Instr.fill (fun i => some (i * m, m)) #[] pv = some cs.toArray := by
      rw [show 0 * m = 0 by omega, e0] at hfill
      exact hfill
    simp [Instr.buildSlice, run_underlying hu, run_sizeOf ht, newRow, e0, hfill']
  · simp [Instr.buildSlice, run_underlying hu, run_sizeOf ht, run_zero ht, h24, h0, newRow]
    rw [hfill]
    simp
end
def Row (w : World) (n : Nat) (ao : Option Addr) (b off cap : Nat) (css : List (List Value)) : Prop :=
  (css.length ≤ cap ∧ css.length ≤ 140737488355328) ∧ (css ≠ [] → ao = some ⟨b, off, none⟩) ∧ ∀ (i : Nat) cs, css[i]? = some cs → cs.length = n ∧ At w b (off + i * n) cs
section
variable {w0 w w' : World} {n : Nat} {ao : Option Addr} {b off cap : Nat} {css : List (List Value)} {E : List Nat}
theorem Row.evo (h : Row w n ao b off cap css) (he : Evo w w' E) (hn : b ∉ E) : Row w' n ao b off cap css :=
  ⟨h.1, h.2.1, fun i cs hi => ⟨(h.2.2 i cs hi).1, (h.2.2 i cs hi).2.evo he hn⟩⟩
theorem Row.evo0 (h : Row w n ao b off cap css) (he : Evo w w' []) : Row w' n ao b off cap css := h.evo he (by simp)
theorem Row.bd (h : Row w n ao b off cap css) : css.length ≤ 140737488355328 := h.1.2
theorem Row.addr (h : Row w n ao b off cap css) {i : Nat} (hi : i < css.length) : ao = some ⟨b, off, none⟩ := h.2.1 (by intro e; rw [e] at hi; simp at hi)
theorem Row.take (h : Row w n ao b off cap css) (k : Nat) : Row w n ao b off cap (css.take k) :=
  ⟨by have := h.1; simp; omega, fun hne => h.2.1 (fun e => hne (by simp [e])), fun i cs hi => h.2.2 i cs (by
    rw [List.getElem?_take] at hi
    split at hi
    · exact hi
    · cases hi)⟩
theorem Row.drop (h : Row w n ao b off cap css) (k : Nat) : Row w n (if cap = k then ao else ao.map (·.add (k * n))) b (off + k * n) (cap - k) (css.drop k) := by
  refine ⟨by have := h.1; simp; omega, fun hne => ?_, fun i cs hi => ?_⟩
  · have hlt : k < css.length := by
      rcases Nat.lt_or_ge k css.length with h1 | h1
      · exact h1
      · exact absurd (List.drop_eq_nil_of_le h1) hne
    have := h.1
    rw [if_neg (by omega), h.addr hlt]
    simp [add_lit]
  · have := h.2.2 (k + i) cs (by simpa using hi)
    refine ⟨this.1, ?_⟩
    have h2 := this.2
    rw [Nat.add_mul] at h2
    rwa [Nat.add_assoc]
end
class Enc (α : Type) where
  n : Nat
  enc : α → List Value
  len : ∀ x, (enc x).length = n
  one : ∀ x, oneCells (enc x) = true
  pos : 0 < n
def RowE {α : Type} [Enc α] (w : World) (ao : Option Addr) (b off cap : Nat) (l : List α) : Prop := Row w (Enc.n α) ao b off cap (l.map Enc.enc)
section
variable {α : Type} [Enc α] {w w' : World} {ao : Option Addr} {b off cap : Nat} {l : List α} {E : List Nat}
theorem RowE.evo (h : RowE w ao b off cap l) (he : Evo w w' E) (hn : b ∉ E) : RowE w' ao b off cap l := Row.evo h he hn
theorem RowE.evo0 (h : RowE w ao b off cap l) (he : Evo w w' []) : RowE w' ao b off cap l := Row.evo0 h he
theorem RowE.at (h : RowE w ao b off cap l) (i : Nat) (hi : i < l.length) : At w b (off + i * Enc.n α) (Enc.enc l[i]) :=
  (h.2.2 i _ (by simp [hi])).2
theorem RowE.atD [Inhabited α] (h : RowE w ao b off cap l) (i : Nat) (hi : i < l.length) : At w b (off + i * Enc.n α) (Enc.enc (l.getD i default)) := by
  have := h.at i hi
  rwa [show l.getD i default = l[i] from by simp [List.getD, hi]]
theorem RowE.addr (h : RowE w ao b off cap l) {i : Nat} (hi : i < l.length) : ao = some ⟨b, off, none⟩ := Row.addr h (i := i) (by simpa using hi)
theorem RowE.le (h : RowE w ao b off cap l) : l.length ≤ cap := by have := h.1.1; simpa using this
theorem RowE.bd (h : RowE w ao b off cap l) : l.length ≤ 140737488355328 := by have := h.1.2; simpa using this
theorem RowE.take (h : RowE w ao b off cap l) (k : Nat) : RowE w ao b off cap (l.take k) := by
  have := Row.take h k
  unfold RowE
  rwa [List.map_take]
theorem RowE.drop (h : RowE w ao b off cap l) (k : Nat) : RowE w (if cap = k then ao else ao.map (·.add (k * Enc.n α))) b (off + k * Enc.n α) (cap - k) (l.drop k) := by
  have := Row.drop h k
  unfold RowE
  rwa [List.map_drop]
theorem RowE.nil (w : World) (ao : Option Addr) (b off cap : Nat) : RowE (α := α) w ao b off cap [] := ⟨by simp, by simp, by simp⟩
end
class Rep (α : Type) where
  n : Nat
  rep : World → List Value → α → Prop
  len : ∀ {w cs x}, rep w cs x → cs.length = n
  evo0 : ∀ {w w' cs x}, rep w cs x → Evo w w' [] → rep w' cs x
  pos : 0 < n
def RepL {α : Type} [Rep α] (w : World) (css : List (List Value)) (l : List α) : Prop := css.length = l.length ∧ ∀ (i : Nat) cs x, css[i]? = some cs → l[i]? = some x → Rep.rep w cs x
def RowR {α : Type} [Rep α] (w : World) (ao : Option Addr) (b off cap : Nat) (l : List α) : Prop := ∃ css, Row w (Rep.n α) ao b off cap css ∧ RepL w css l
section
variable {α : Type} [Rep α] {w w' : World} {ao : Option Addr} {b off cap : Nat} {l : List α} {css : List (List Value)}
theorem RepL.evo0 (h : RepL w css l) (he : Evo w w' []) : RepL w' css l := ⟨h.1, fun i cs x h1 h2 => Rep.evo0 (h.2 i cs x h1 h2) he⟩
theorem RepL.nil (w : World) : RepL (α := α) w [] [] := ⟨rfl, by simp⟩
theorem RepL.take (h : RepL w css l) (k : Nat) : RepL w (css.take k) (l.take k) := ⟨by simp [h.1], fun i cs x h1 h2 => by
  rw [List.getElem?_take] at h1 h2
  split at h1
  · rename_i hi
    rw [if_pos hi] at h2
    exact h.2 i cs x h1 h2
  · cases h1⟩
theorem RepL.drop (h : RepL w css l) (k : Nat) : RepL w (css.drop k) (l.drop k) := ⟨by simp [h.1], fun i cs x h1 h2 => h.2 (k + i) cs x (by simpa using h1) (by simpa using h2)⟩
theorem RepL.append {css' : List (List Value)} {l' : List α} (h : RepL w css l) (h' : RepL w css' l') : RepL w (css ++ css') (l ++ l') := ⟨by simp [h.1, h'.1], fun i cs x h1 h2 => by
  by_cases hi : i < css.length
  · rw [List.getElem?_append_left hi] at h1
    rw [List.getElem?_append_left (by rw [← h.1]; exact hi)] at h2
    exact h.2 i cs x h1 h2
  · rw [List.getElem?_append_right (by omega)] at h1
    rw [List.getElem?_append_right (by rw [← h.1]; omega), ← h.1] at h2
    exact h'.2 _ cs x h1 h2⟩
theorem RepL.one {cs : List Value} {x : α} (h : Rep.rep w cs x) : RepL w [cs] [x] := ⟨rfl, fun i cs' x' h1 h2 => by
  cases i with
  | zero => simp at h1 h2; subst h1; subst h2; exact h
  | succ i => simp at h1⟩
theorem RowR.evo0 (h : RowR w ao b off cap l) (he : Evo w w' []) : RowR w' ao b off cap l := let ⟨css, h1, h2⟩ := h; ⟨css, h1.evo0 he, h2.evo0 he⟩
theorem RowR.addr (h : RowR w ao b off cap l) {i : Nat} (hi : i < l.length) : ao = some ⟨b, off, none⟩ := let ⟨_, h1, h2⟩ := h; h1.addr (i := i) (by rw [h2.1]; exact hi)
theorem RowR.le (h : RowR w ao b off cap l) : l.length ≤ cap := let ⟨_, h1, h2⟩ := h; by rw [← h2.1]; exact h1.1.1
theorem RowR.bd (h : RowR w ao b off cap l) : l.length ≤ 140737488355328 := let ⟨_, h1, h2⟩ := h; by rw [← h2.1]; exact h1.1.2
theorem RowR.atD [Inhabited α] (h : RowR w ao b off cap l) (i : Nat) (hi : i < l.length) : ∃ cs, At w b (off + i * Rep.n α) cs ∧ Rep.rep w cs (l.getD i default) := by
  obtain ⟨css, h1, h2⟩ := h
  have hi' : i < css.length := by rw [h2.1]; exact hi
  refine ⟨css[i], (h1.2.2 i _ (by simp [hi'])).2, h2.2 i _ _ (by simp [hi']) (by simp [List.getD, hi])⟩
theorem RowR.take (h : RowR w ao b off cap l) (k : Nat) : RowR w ao b off cap (l.take k) := let ⟨css, h1, h2⟩ := h; ⟨css.take k, h1.take k, h2.take k⟩
theorem RowR.drop (h : RowR w ao b off cap l) (k : Nat) : RowR w (if cap = k then ao else ao.map (·.add (k * Rep.n α))) b (off + k * Rep.n α) (cap - k) (l.drop k) := let ⟨css, h1, h2⟩ := h; ⟨css.drop k, h1.drop k, h2.drop k⟩
theorem RowR.nil (w : World) (ao : Option Addr) (b off cap : Nat) : RowR (α := α) w ao b off cap [] := ⟨[], ⟨by simp, by simp, by simp⟩, RepL.nil w⟩
end
def RowRK {α : Type} [Rep α] (w : World) (E : List Nat) (ao : Option Addr) (b off cap : Nat) (l : List α) : Prop :=
  ∃ css, ∀ w', Evo w w' E → Row w' (Rep.n α) ao b off cap css ∧ RepL w' css l
section
variable {α : Type} [Rep α] {w w' : World} {ao : Option Addr} {b off cap : Nat} {l : List α} {E : List Nat}
theorem RowRK.now (h : RowRK w E ao b off cap l) (he : Evo w w' E) : RowR w' ao b off cap l := let ⟨css, h1⟩ := h; ⟨css, h1 w' he⟩
theorem RowR.keep (h : RowR w ao b off cap l) : RowRK w [] ao b off cap l := let ⟨css, h1, h2⟩ := h; ⟨css, fun _ he => ⟨h1.evo0 he, h2.evo0 he⟩⟩
theorem RowRK.addr (h : RowRK w E ao b off cap l) {i : Nat} (hi : i < l.length) : ao = some ⟨b, off, none⟩ := (h.now (Evo.refl _ _)).addr hi
theorem RowRK.bd (h : RowRK w E ao b off cap l) : l.length ≤ 140737488355328 := (h.now (Evo.refl _ _)).bd
theorem RowRK.take (h : RowRK w E ao b off cap l) (k : Nat) : RowRK w E ao b off cap (l.take k) := let ⟨css, h1⟩ := h; ⟨css.take k, fun w' he => ⟨(h1 w' he).1.take k, (h1 w' he).2.take k⟩⟩
theorem RowRK.drop (h : RowRK w E ao b off cap l) (k : Nat) : RowRK w E (if cap = k then ao else ao.map (·.add (k * Rep.n α))) b (off + k * Rep.n α) (cap - k) (l.drop k) := let ⟨css, h1⟩ := h; ⟨css.drop k, fun w' he => ⟨(h1 w' he).1.drop k, (h1 w' he).2.drop k⟩⟩
theorem RowRK.atD [Inhabited α] (h : RowRK w E ao b off cap l) (i : Nat) (hi : i < l.length) : ∃ cs, ∀ w', Evo w w' E → At w' b (off + i * Rep.n α) cs ∧ Rep.rep w' cs (l.getD i default) := by
  obtain ⟨css, h1⟩ := h
  have hl := (h1 w (Evo.refl _ _)).2.1
  have hi' : i < css.length := by rw [hl]; exact hi
  exact ⟨css[i], fun w' he => ⟨((h1 w' he).1.2.2 i _ (by simp [hi'])).2, (h1 w' he).2.2 i _ _ (by simp [hi']) (by simp [List.getD, hi])⟩⟩
end
theorem keepE {α : Type} [Enc α] {w : World} {ao : Option Addr} {b off cap : Nat} {l : List α} (h : RowE w ao b off cap l) : ∀ w', Evo w w' [] → RowE w' ao b off cap l := fun _ he => h.evo0 he
section
variable {P : Program} {f : Fr} {w : World} {o : Oper}
theorem run_ix {T E : TypeId} {x y : Operand} {ao : Option Addr} {b off len cap m bb : Nat} {z : Option Value} {κ : IntKind} {i : Int} (j : Nat) (ho : o.op = .indexAddr T x y) (hu : P.underlying T = some (.slice E))
    (ht : tyP P E = some (m, bb, z)) (hx : opv f x = .slice ao len cap) (hy : opv f y = .int κ i) (hij : i = (j : Int)) (hlt : j < len) (hao : ao = some ⟨b, off, none⟩) :
    (execOp (opv f) o).run P w = .ok (.value (.pointer (some ⟨b, off + j * m, none⟩))) w := by
  subst hij
  subst hao
  unfold execOp; rw [ho]; simp only []; rw [hx, hy]
  have h1 : (0 : Int) ≤ (j : Int) ∧ (j : Int) < (len : Int) := by omega
  simp [Instr.indexAt, run_underlying hu, asIntOf, run_sizeOf ht, h1, add_lit]
  intro h2
  omega
theorem run_bounds {isS : Bool} {len cap l h : Nat} {lo hi : Option Value} (hlo : (lo = none ∧ l = 0) ∨ ∃ κ, lo = some (.int κ (l : Int))) (hhi : (hi = none ∧ h = len) ∨ ∃ κ, hi = some (.int κ (h : Int)))
    (h1 : l ≤ h) (h2 : h ≤ cap) : (Instr.sliceBounds isS len cap lo hi none).run P w = .ok (l, h, cap) w := by
  have e1 : ∀ κ code, (Instr.sliceBound (.int κ (l : Int)) h code).run P w = .ok l w := fun κ code => by
    rw [run_sliceBound w κ l h code (by omega) (by omega)]; simp
  have e2 : ∀ κ code, (Instr.sliceBound (.int κ (h : Int)) cap code).run P w = .ok h w := fun κ code => by
    rw [run_sliceBound w κ h cap code (by omega) (by omega)]; simp
  rcases hlo with ⟨rfl, rfl⟩ | ⟨κ, rfl⟩ <;> rcases hhi with ⟨rfl, rfl⟩ | ⟨κ2, rfl⟩ <;> simp [Instr.sliceBounds, e1, e2]
theorem run_sl {T E : TypeId} {x : Operand} {ao : Option Addr} {len cap m bb : Nat} {z : Option Value} {lo hi : Option Operand} (l h : Nat) (ho : o.op = .slice T x lo hi none) (hu : P.underlying T = some (.slice E))
    (ht : tyP P E = some (m, bb, z)) (hx : opv f x = .slice ao len cap)
    (hlo : (lo.map (opv f) = none ∧ l = 0) ∨ ∃ κ, lo.map (opv f) = some (.int κ (l : Int))) (hhi : (hi.map (opv f) = none ∧ h = len) ∨ ∃ κ, hi.map (opv f) = some (.int κ (h : Int))) (h1 : l ≤ h) (h2 : h ≤ cap) :
    (execOp (opv f) o).run P w = .ok (.value (.slice (if cap = l then ao else ao.map (·.add (l * m))) (h - l) (cap - l))) w := by
  unfold execOp; rw [ho]; simp only []; rw [hx, Option.map_none]
  have e1 : (Instr.sliceAt T (.slice ao len cap) (lo.map (opv f)) (hi.map (opv f)) none).run P w = .ok (.slice (if cap = l then ao else ao.map (·.add (l * m))) (h - l) (cap - l)) w := by
    have hb := run_bounds (P := P) (w := w) (isS := true) hlo hhi h1 h2
    simp only [Instr.sliceAt, Instr.slice, Sem.run_bind, run_underlying hu, Result.andThen_ok, hb, run_sizeOf ht, Sem.run_pure]
  simp [e1]
theorem run_slS {T : TypeId} {x : Operand} {s : List UInt8} {lo hi : Option Operand} (l h : Nat) (ho : o.op = .slice T x lo hi none) (hu : P.underlying T = some .string) (hx : opv f x = S s)
    (hlo : (lo.map (opv f) = none ∧ l = 0) ∨ ∃ κ, lo.map (opv f) = some (.int κ (l : Int))) (hhi : (hi.map (opv f) = none ∧ h = s.length) ∨ ∃ κ, hi.map (opv f) = some (.int κ (h : Int))) (h1 : l ≤ h) (h2 : h ≤ s.length) :
    (execOp (opv f) o).run P w = .ok (.value (S ((s.drop l).take (h - l)))) w := by
  unfold execOp; rw [ho]; simp only []; rw [hx, Option.map_none]
  have e0 : (ByteArray.mk s.toArray).extract l h = ⟨((s.drop l).take (h - l)).toArray⟩ := by
    have := Lib.extract_eq (ByteArray.mk s.toArray) l h
    simpa using this
  have hsz : (ByteArray.mk s.toArray).size = s.length := size_S s
  have e1 : (Instr.sliceAt T (S s) (lo.map (opv f)) (hi.map (opv f)) none).run P w = .ok (S ((s.drop l).take (h - l))) w := by
    unfold S
    have hb := run_bounds (P := P) (w := w) (isS := false) (len := s.length) (cap := s.length) hlo hhi h1 h2
    simp only [Instr.sliceAt, Instr.slice, Sem.run_bind, run_underlying hu, Result.andThen_ok, hsz, Option.isSome_none, Bool.false_eq_true, if_false, hb, Sem.run_pure, e0]
  simp [e1]
theorem lo0 {f : Fr} : ((none : Option Operand).map (opv f) = none ∧ (0 : Nat) = 0) ∨ ∃ κ, (none : Option Operand).map (opv f) = some (.int κ ((0 : Nat) : Int)) := .inl ⟨rfl, rfl⟩
theorem hi0 {f : Fr} {n : Nat} : ((none : Option Operand).map (opv f) = none ∧ n = n) ∨ ∃ κ, (none : Option Operand).map (opv f) = some (.int κ (n : Int)) := .inl ⟨rfl, rfl⟩
theorem at1 {f : Fr} {l n : Nat} {y : Operand} {κ : IntKind} {i : Int} (h : opv f y = .int κ i) (hi : i = (l : Int)) : ((some y).map (opv f) = none ∧ l = n) ∨ ∃ κ, (some y).map (opv f) = some (.int κ (l : Int)) := .inr ⟨κ, by simp [h, hi]⟩
theorem run_ixS {T : TypeId} {x y : Operand} {s : List UInt8} {κ : IntKind} {i : Int} (j : Nat) (ho : o.op = .index T x y) (hu : P.underlying T = some .string) (hx : opv f x = S s) (hy : opv f y = .int κ i) (hij : i = (j : Int)) (hlt : j < s.length) :
    (execOp (opv f) o).run P w = .ok (.value (.int .u8 ((s.getD j 0).toNat : Int))) w := by
  subst hij
  unfold execOp; rw [ho]; simp only []; rw [hx, hy]
  unfold S
  have hb : (ByteArray.mk s.toArray)[j]? = some (s.getD j 0) := by
    have hsz : j < (ByteArray.mk s.toArray).size := by rw [size_S]; exact hlt
    rw [getElem?_pos (ByteArray.mk s.toArray) j hsz]
    congr 1
    simp [List.getD, hlt]
    rfl
  simp [Instr.index, run_underlying hu, asIntOf, hb]
end
end Go.Vc
namespace Go.Vc
open Go Go.RowKit Go.IntWalk
structure Own (w : World) (base : Nat) (E : TypeId) (m : Nat) (v : Value) (css : List (List Value)) : Prop where
  row : w.ownsRow base E m v css.length css.flatten
  each : ∀ cs ∈ css, cs.length = m
  bd : css.length ≤ 140737488355328
theorem flatten_at : ∀ (css : List (List Value)) (m i j : Nat) (cs : List Value), (∀ cs ∈ css, cs.length = m) → css[i]? = some cs → j < m → css.flatten[i * m + j]? = cs[j]?
  | [], _, _, _, _, _, h, _ => by simp at h
  | c :: css, m, 0, j, cs, hm, h, hj => by
    simp at h
    subst h
    have hc : c.length = m := hm c (by simp)
    simp only [List.flatten_cons, Nat.zero_mul, Nat.zero_add]
    rw [List.getElem?_append_left (by omega)]
  | c :: css, m, i + 1, j, cs, hm, h, hj => by
    have hc : c.length = m := hm c (by simp)
    have ih := flatten_at css m i j cs (fun x hx => hm x (by simp [hx])) (by simpa using h) hj
    simp only [List.flatten_cons]
    have e : (i + 1) * m + j = c.length + (i * m + j) := by rw [hc, Nat.add_mul]; omega
    rw [e, List.getElem?_append_right (by omega)]
    simpa using ih
theorem flatten_length : ∀ (css : List (List Value)) (m : Nat), (∀ cs ∈ css, cs.length = m) → css.flatten.length = css.length * m
  | [], _, _ => by simp
  | c :: css, m, hm => by
    have := flatten_length css m (fun x hx => hm x (by simp [hx]))
    simp only [List.flatten_cons, List.length_append, List.length_cons, this, hm c (by simp), Nat.add_mul]
    omega
section
variable {w w' : World} {base : Nat} {E : TypeId} {m : Nat} {v : Value} {css : List (List Value)}
theorem Own.nil (w : World) (base : Nat) (E : TypeId) (m : Nat) : Own w base E m (.slice none 0 0) [] := ⟨World.ownsRow_nil w base E m, by simp, by simp⟩
theorem Own.form (h : Own w base E m v css) : (v = .slice none 0 0 ∧ css = []) ∨ ∃ g cap, v = .slice (some ⟨g, 0, none⟩) css.length cap ∧ base ≤ g ∧ g < w.heap.size ∧ css.length ≤ cap ∧ cap ≤ maxLen := by
  rcases h.row.2 with ⟨hv, hn⟩ | ⟨g, cap, cur, hv, hb, hg, hn, hc, _⟩
  · exact .inl ⟨hv, List.eq_nil_of_length_eq_zero hn⟩
  · refine .inr ⟨g, cap, hv, hb, ?_, hn, hc⟩
    rcases Nat.lt_or_ge g w.heap.size with h1 | h1
    · exact h1
    · rw [Array.getElem?_eq_none h1] at hg; cases hg
theorem Own.shape (h : Own w base E m v css) : ∃ ao cap, v = .slice ao css.length cap := by
  rcases h.form with ⟨hv, hc⟩ | ⟨g, cap, hv, _⟩
  · exact ⟨none, 0, by rw [hv, hc]; rfl⟩
  · exact ⟨_, cap, hv⟩
theorem Own.block (h : Own w base E m v css) {g : Nat} (hg : v.ownBlock = some g) : base ≤ g ∧ g < w.heap.size := h.row.lt g hg
theorem Own.evo {X : List Nat} (h : Own w base E m v css) (he : Evo w w' X) (hn : ∀ g, v.ownBlock = some g → g ∉ X) : Own w' base E m v css := by
  refine ⟨⟨h.row.1, ?_⟩, h.each, h.bd⟩
  rcases h.row.2 with hv | ⟨g, cap, cur, hv, hb, hg, r⟩
  · exact .inl hv
  · refine .inr ⟨g, cap, cur, hv, hb, ?_, r⟩
    have hlt : g < w.heap.size := (h.row.lt g (by rw [hv]; rfl)).2
    exact (he.same g hlt (hn g (by rw [hv]; rfl))).trans hg
theorem Own.evo0 (h : Own w base E m v css) (he : Evo w w' []) : Own w' base E m v css := h.evo he (by simp)
theorem Own.base_le {base' : Nat} (h : Own w base E m v css) (hb : base' ≤ base) : Own w base' E m v css := by
  refine ⟨⟨h.row.1, ?_⟩, h.each, h.bd⟩
  rcases h.row.2 with hv | ⟨g, cap, cur, hv, hbg, r⟩
  · exact .inl hv
  · exact .inr ⟨g, cap, cur, hv, Nat.le_trans hb hbg, r⟩
theorem Own.rowOf (h : Own w base E m v css) : ∃ ao g cap, v = .slice ao css.length cap ∧ Row w m ao g 0 cap css ∧ (css ≠ [] → v.ownBlock = some g ∧ base ≤ g ∧ g < w.heap.size) := by
  rcases h.row.2 with ⟨hv, hn⟩ | ⟨g, cap, cur, hv, hb, hg, hn, hc, hs, ht⟩
  · have hc : css = [] := List.eq_nil_of_length_eq_zero hn
    subst hc
    exact ⟨none, 0, 0, hv, ⟨by simp, by simp, by simp⟩, by simp⟩
  · refine ⟨some ⟨g, 0, none⟩, g, cap, hv, ⟨⟨hn, h.bd⟩, fun _ => rfl, fun i cs hi => ⟨h.each cs (List.mem_of_getElem? hi), ?_⟩⟩, fun _ => ⟨by rw [hv]; rfl, h.block (by rw [hv]; rfl)⟩⟩
    intro j u hj
    have hjm : j < m := by
      have h1 := h.each cs (List.mem_of_getElem? hi)
      have h2 : j < cs.length := by
        rcases Nat.lt_or_ge j cs.length with h2 | h2
        · exact h2
        · rw [List.getElem?_eq_none h2] at hj; cases hj
      omega
    have hil : i < css.length := by
      rcases Nat.lt_or_ge i css.length with h2 | h2
      · exact h2
      · rw [List.getElem?_eq_none h2] at hi; cases hi
    have h3 := flatten_at css m i j cs h.each hi hjm
    have h4 : i * m + j < css.length * m := by
      have : (i + 1) * m ≤ css.length * m := Nat.mul_le_mul_right _ hil
      rw [Nat.add_mul] at this
      omega
    rw [cell_of_row w g _ cur E (0, 0) hg, Nat.zero_add]
    rw [← ht, List.getElem?_take_of_lt h4] at h3
    rw [← Array.getElem?_toList, h3]
    exact hj
end
theorem news_flat {w : World} {m b off : Nat} {news : List (List Value)} (h : ∀ (i : Nat) cs, news[i]? = some cs → cs.length = m ∧ At w b (off + i * m) cs) (hm : 0 < m) :
    ∀ j u, news.flatten[j]? = some u → w.cell? ⟨b, off + j, none⟩ = some u := by
  intro j u hj
  have hall : ∀ cs ∈ news, cs.length = m := fun cs hcs => by
    obtain ⟨i, hi⟩ := List.getElem?_of_mem hcs
    exact (h i cs hi).1
  have hlen := flatten_length news m hall
  have hjl : j < news.flatten.length := by
    rcases Nat.lt_or_ge j news.flatten.length with h1 | h1
    · exact h1
    · rw [List.getElem?_eq_none h1] at hj; cases hj
  have hdm := Nat.div_add_mod j m
  have hmod : j % m < m := Nat.mod_lt _ hm
  have hi : j / m < news.length := by
    rw [hlen] at hjl
    exact (Nat.div_lt_iff_lt_mul hm).2 hjl
  have hc := flatten_at news m (j / m) (j % m) news[j / m] hall (by simp [hi]) hmod
  have e : j / m * m + j % m = j := by rw [Nat.mul_comm]; exact hdm
  rw [e] at hc
  rw [hj] at hc
  have := (h (j / m) news[j / m] (by simp [hi])).2 (j % m) u hc.symm
  rw [Nat.add_assoc, e] at this
  exact this
section
variable {P : Program} {B : Exit → Act → World → Prop} {n : Nat} {k : List Kont} {f : Fr} {w : World} {ops : Array Oper} {rest : List Oper}
theorem info_of {E m bb : Nat} {z : Value} (h : tyP P E = some (m, bb, some z)) : ∃ i, P.info? E = some i ∧ i.size = m ∧ i.bytes = bb ∧ i.zero = some z := by
  unfold tyP at h
  cases hi : P.info? E with
  | none => rw [hi] at h; cases h
  | some i => rw [hi] at h; simp at h; exact ⟨i, rfl, h.1, h.2.1, h.2.2⟩
theorem run_append_0 {T E ty : TypeId} {m bb : Nat} {z : Value} (hu : P.underlying T = some (.slice E)) (ht : tyP P E = some (m, bb, some z)) (base : Nat) {v : Value} {css : List (List Value)}
    (hown : Own w base E m v css) (ao : Option Addr) (cap : Nat) : (Builtin.append_ #[T, T] ty #[v, .slice ao 0 cap]).run P w = .ok v w := by
  obtain ⟨i, hi, hs, hb, hz⟩ := info_of ht
  rcases hown.form with ⟨rfl, _⟩ | ⟨g, c, rfl, _, _, hn, _⟩
  · cases ao <;> simp [Builtin.append_, run_underlying hu, sizeOf, typeInfo, hi, Builtin.lenOf, Builtin.firstCells, loadCells, loadCellsFrom]
  · cases ao <;> simp [Builtin.append_, run_underlying hu, sizeOf, typeInfo, hi, Builtin.lenOf, Builtin.firstCells, loadCells, loadCellsFrom, hn, storeCells]
theorem run_append_row {T E ty : TypeId} {m bb : Nat} {z : Value} (hu : P.underlying T = some (.slice E)) (ht : tyP P E = some (m, bb, some z)) (hzs : z.cells.size = m) (hm : 0 < m) (base : Nat) {v : Value} {css news : List (List Value)}
    (hown : Own w base E m v css) {ao : Option Addr} {b off cap : Nat} (hr : Row w m ao b off cap news) (h1 : ∀ cs ∈ news, oneCells cs = true)
    (hbytes : (css.length + news.length) * bb ≤ 140737488355328) (hlen : css.length + news.length ≤ 140737488355328) (hbase : base ≤ w.heap.size) :
    ∃ v' w', (Builtin.append_ #[T, T] ty #[v, .slice ao news.length cap]).run P w = .ok v' w' ∧ Own w' base E m v' (css ++ news) ∧ Evo w w' v.ownBlock.toList ∧
      (v'.ownBlock = v.ownBlock ∨ v'.ownBlock = some w.heap.size) := by
  cases news with
  | nil => exact ⟨v, w, run_append_0 hu ht base hown ao cap, by simpa using hown, Evo.refl _ _, .inl rfl⟩
  | cons c cs =>
    obtain ⟨i, hi, hs, hb, hz⟩ := info_of ht
    obtain rfl : ao = some ⟨b, off, none⟩ := hr.2.1 (by simp)
    have hall : ∀ x ∈ (c :: cs), x.length = m := fun x hx => by
      obtain ⟨j, hj⟩ := List.getElem?_of_mem hx
      exact (hr.2.2 j x hj).1
    obtain ⟨v', w', hrun, hown', hg, _, hloc⟩ := run_append_own_at (P := P) (w := w) base T ty E i z m bb hu hi hz hs hb hzs hm v css.length css.flatten hown.row ⟨b, off, none⟩ (c :: cs).length cap (c :: cs).flatten
      (flatten_length _ _ hall) (fun j u hj => by rw [add_lit]; exact news_flat hr.2.2 hm j u hj) (fun u hu => by
        obtain ⟨x, hx, hux⟩ := List.mem_flatten.1 hu
        exact List.all_eq_true.1 (h1 x hx) u hux) (by unfold maxLen; omega) hbytes hbase
    refine ⟨v', w', hrun, ⟨by simpa [List.flatten_append] using hown', fun x hx => ?_, by simpa using hlen⟩, Evo.grown hg, hloc⟩
    rcases List.mem_append.1 hx with hx | hx
    · exact hown.each x hx
    · exact hall x hx
theorem r_append {T E d m bb : Nat} {t : TypeId} {pos : String} {aft : Array Edge} {x y : Operand} {z : Value} {base : Nat} {v : Value} {css news : List (List Value)} {ao : Option Addr} {b off len cap : Nat}
    (hd : Nat.blt d n = true) (hu : P.underlying T = some (.slice E)) (ht : tyP P E = some (m, bb, some z)) (hzs : z.cells.size = m) (hm : 0 < m)
    (hown : Own w base E m v css) (hx : opv f x = v) (hy : opv f y = .slice ao len cap) (hr : Row w m ao b off cap news) (hl : len = news.length) (h1 : ∀ cs ∈ news, oneCells cs = true)
    (hbytes : (css.length + news.length) * bb ≤ 140737488355328) (hlen : css.length + news.length ≤ 140737488355328) (hbase : base ≤ w.heap.size)
    (h : ∀ v' w', Evo w w' v.ownBlock.toList → Own w' base E m v' (css ++ news) → (v'.ownBlock = v.ownBlock ∨ v'.ownBlock = some w.heap.size) → KL P B n ops k rest (upd f d v') w') :
    KL P B n ops k (⟨some d, .call ⟨.builtin .append, #[x, y], #[T, T]⟩, t, pos, aft, none⟩ :: rest) f w := by
  subst hl
  obtain ⟨v', w', hrun, hown', he, hloc⟩ := run_append_row (P := P) (ty := t) hu ht hzs hm base hown (cap := cap) hr h1 hbytes hlen hbase
  refine r_op rfl rfl hd ?_ (h v' w' he hown' hloc)
  exact run_builtin (s := Builtin.append_ #[T, T] t #[v, .slice ao news.length cap]) rfl (by simp [hx, hy]) (fun cs => rfl) hrun
theorem r_append1 {T E d d1 m bb : Nat} {t t1 : TypeId} {pos pos1 : String} {aft aft1 : Array Edge} {x e : Operand} {z : Value} {base : Nat} {v u : Value} {css : List (List Value)} {us : List Value}
    (hd : Nat.blt d n = true) (hd1 : Nat.blt d1 n = true) (hu : P.underlying T = some (.slice E)) (ht : tyP P E = some (m, bb, some z)) (hzs : z.cells.size = m) (hm : (Nat.ble 1 m && Nat.ble m 10000) = true)
    (hown : Own w base E m v css) (hx : ∀ q, opv (upd f d1 q) x = v) (he : opv f e = u) (hus : u.cells = us.toArray) (hml : us.length = m) (h1 : oneCells us = true)
    (hbytes : (css.length + 1) * bb ≤ 140737488355328) (hlen : css.length + 1 ≤ 140737488355328) (hbase : base ≤ w.heap.size)
    (h : ∀ q v' w', Evo w w' v.ownBlock.toList → Own w' base E m v' (css ++ [us]) → (v'.ownBlock = v.ownBlock ∨ ∃ g, v'.ownBlock = some g ∧ w.heap.size ≤ g) → KL P B n ops k rest (upd (upd f d1 q) d v') w') :
    KL P B n ops k (⟨some d1, .buildSlice T 1 #[(0, e)], t1, pos1, aft1, none⟩ :: ⟨some d, .call ⟨.builtin .append, #[x, .tmp d1], #[T, T]⟩, t, pos, aft, none⟩ :: rest) f w := by
  simp only [Bool.and_eq_true, Nat.ble_eq] at hm
  obtain ⟨zs, hz⟩ : ∃ zs : List Value, z.cells = zs.toArray := ⟨z.cells.toList, by simp⟩
  have hzl : zs.length = m := by rw [hz] at hzs; simpa using hzs
  have hsu : u.cells.toList.length = m := by rw [hus]; simpa using hml
  refine r_bslice (cs := us) (zs := zs) (pv := [(0, u)]) hu ht hz hd1 (by simp [he]) (by simp [hzl]; omega) ?_ ?_
  · have h1 : Nat.beq u.cells.toList.length m = true := by rw [hsu]; simp
    have h2 : Nat.ble (0 * m + m) (List.replicate 1 zs).flatten.length = true := by simp [hzl]
    simp only [fillL, h1, h2, Bool.and_self, cond_true]
    congr 1
    rw [hus]
    simp [hzl]
  intro b w1 hb hev hB hs
  have hrow : Row w1 m (some ⟨b, 0, none⟩) b 0 1 [us] := ⟨by simp, fun _ => rfl, fun i cs hi => by
    cases i with
    | zero => simp at hi; subst hi; exact ⟨hml, by simpa using hB.at⟩
    | succ i => simp at hi⟩
  refine r_append (len := 1) (cap := 1) (b := b) (off := 0) (news := [us]) hd hu ht hzs hm.1 (hown.evo0 hev) (hx _) (by simp only [opv, upd_same]) hrow rfl (by simpa using h1) (by simpa using hbytes) (by simpa using hlen) (Nat.le_trans hbase hev.size) ?_
  intro v' w' he' hown' hloc
  refine h _ v' w' ((hev.mono (by simp)).trans he' (fun x hx _ => hx)) hown' ?_
  rcases hloc with hloc | hloc
  · exact .inl hloc
  · exact .inr ⟨_, hloc, hev.size⟩
end
def OwnE {α : Type} [Enc α] (w : World) (base : Nat) (E : TypeId) (v : Value) (l : List α) : Prop := Own w base E (Enc.n α) v (l.map Enc.enc)
section
variable {α : Type} [Enc α] {w w' : World} {base : Nat} {E : TypeId} {v : Value} {l : List α}
theorem OwnE.nil (w : World) (base : Nat) (E : TypeId) : OwnE (α := α) w base E (.slice none 0 0) [] := Own.nil w base E _
theorem OwnE.form (h : OwnE w base E v l) : (v = .slice none 0 0 ∧ l = []) ∨ ∃ g cap, v = .slice (some ⟨g, 0, none⟩) l.length cap ∧ base ≤ g ∧ g < w.heap.size ∧ l.length ≤ cap ∧ cap ≤ maxLen := by
  rcases Own.form h with ⟨h1, h2⟩ | ⟨g, cap, h1, h2⟩
  · exact .inl ⟨h1, by simpa using h2⟩
  · exact .inr ⟨g, cap, by simpa using h1, by simpa using h2⟩
theorem OwnE.shape (h : OwnE w base E v l) : ∃ ao cap, v = .slice ao l.length cap := by
  obtain ⟨ao, cap, h1⟩ := Own.shape h
  exact ⟨ao, cap, by simpa using h1⟩
theorem OwnE.bd (h : OwnE w base E v l) : l.length ≤ 140737488355328 := by have := Own.bd h; simpa using this
theorem OwnE.block (h : OwnE w base E v l) {g : Nat} (hg : v.ownBlock = some g) : base ≤ g ∧ g < w.heap.size := Own.block h hg
theorem OwnE.evo {X : List Nat} (h : OwnE w base E v l) (he : Evo w w' X) (hn : ∀ g, v.ownBlock = some g → g ∉ X) : OwnE w' base E v l := Own.evo h he hn
theorem OwnE.evo0 (h : OwnE w base E v l) (he : Evo w w' []) : OwnE w' base E v l := Own.evo0 h he
theorem OwnE.base_le {base' : Nat} (h : OwnE w base E v l) (hb : base' ≤ base) : OwnE w base' E v l := Own.base_le h hb
theorem run_lenOE {P : Program} {f : Fr} {o : Oper} {t e : TypeId} {x : Operand} (ho : o.op = .call ⟨.builtin .len, #[x], #[t]⟩) (hx : opv f x = v) (ht : P.underlying t = some (.slice e))
    (hown : OwnE w base E v l) : (execOp (opv f) o).run P w = .ok (.value (.int .i64 (l.length : Int))) w := by
  obtain ⟨ao, cap, rfl⟩ := hown.shape
  exact run_lenSl ho hx ht
theorem r_append1E {P : Program} {B : Exit → Act → World → Prop} {n : Nat} {k : List Kont} {f : Fr} {ops : Array Oper} {rest : List Oper} {T d d1 bb m : Nat} {t t1 : TypeId} {pos pos1 : String} {aft aft1 : Array Edge} {x e : Operand} {z u : Value} {y : α}
    (hd : Nat.blt d n = true) (hd1 : Nat.blt d1 n = true) (hu : P.underlying T = some (.slice E)) (ht : tyP P E = some (m, bb, some z)) (hm : (m == Enc.n α && z.cells.size == Enc.n α && Nat.ble m 10000) = true)
    (hown : OwnE w base E v l) (hx : ∀ q, opv (upd f d1 q) x = v) (he : opv f e = u) (hus : u.cells = (Enc.enc y).toArray)
    (hbytes : (l.length + 1) * bb ≤ 140737488355328) (hlen : l.length + 1 ≤ 140737488355328) (hbase : base ≤ w.heap.size)
    (h : ∀ q v' w', Evo w w' v.ownBlock.toList → OwnE w' base E v' (l ++ [y]) → (v'.ownBlock = v.ownBlock ∨ ∃ g, v'.ownBlock = some g ∧ w.heap.size ≤ g) → KL P B n ops k rest (upd (upd f d1 q) d v') w') :
    KL P B n ops k (⟨some d1, .buildSlice T 1 #[(0, e)], t1, pos1, aft1, none⟩ :: ⟨some d, .call ⟨.builtin .append, #[x, .tmp d1], #[T, T]⟩, t, pos, aft, none⟩ :: rest) f w := by
  simp only [Bool.and_eq_true, beq_iff_eq, Nat.ble_eq] at hm
  obtain ⟨⟨rfl, h2⟩, h3⟩ := hm
  have hp := Enc.pos (α := α)
  refine r_append1 (us := Enc.enc y) hd hd1 hu ht h2 (by simp; omega) hown hx he hus (Enc.len y) (Enc.one y) (by simpa using hbytes) (by simpa using hlen) hbase ?_
  intro q v' w' h4 h5 h6
  refine h q v' w' h4 ?_ h6
  unfold OwnE
  simpa using h5
theorem r_appendE {P : Program} {B : Exit → Act → World → Prop} {n : Nat} {k : List Kont} {f : Fr} {ops : Array Oper} {rest : List Oper} {T d bb m : Nat} {t : TypeId} {pos : String} {aft : Array Edge} {x y : Operand} {z : Value} {ao : Option Addr} {b off cap len : Nat} {l' : List α}
    (hd : Nat.blt d n = true) (hu : P.underlying T = some (.slice E)) (ht : tyP P E = some (m, bb, some z)) (hm : (m == Enc.n α && z.cells.size == Enc.n α) = true)
    (hown : OwnE w base E v l) (hx : opv f x = v) (hy : opv f y = .slice ao len cap) (hr : RowE w ao b off cap l') (hl : len = l'.length)
    (hbytes : (l.length + l'.length) * bb ≤ 140737488355328) (hlen : l.length + l'.length ≤ 140737488355328) (hbase : base ≤ w.heap.size)
    (h : ∀ v' w', Evo w w' v.ownBlock.toList → OwnE w' base E v' (l ++ l') → (v'.ownBlock = v.ownBlock ∨ v'.ownBlock = some w.heap.size) → KL P B n ops k rest (upd f d v') w') :
    KL P B n ops k (⟨some d, .call ⟨.builtin .append, #[x, y], #[T, T]⟩, t, pos, aft, none⟩ :: rest) f w := by
  simp only [Bool.and_eq_true, beq_iff_eq] at hm
  obtain ⟨rfl, h2⟩ := hm
  refine r_append (news := l'.map Enc.enc) hd hu ht h2 Enc.pos hown hx hy hr (by simpa using hl) (fun cs hcs => ?_) (by simpa using hbytes) (by simpa using hlen) hbase ?_
  · obtain ⟨a, _, rfl⟩ := List.mem_map.1 hcs
    exact Enc.one a
  intro v' w' h4 h5 h6
  refine h v' w' h4 ?_ h6
  unfold OwnE
  rw [List.map_append]
  exact h5
theorem run_slE {l' : List α} {P : Program} {f : Fr} {o : Oper} {T m bb : Nat} {z : Option Value} {x : Operand} {ao : Option Addr} {b off cap : Nat} {lo hi : Option Operand} (i j : Nat) (ho : o.op = .slice T x lo hi none) (hu : P.underlying T = some (.slice E))
    (ht : tyP P E = some (m, bb, z)) (hx : opv f x = .slice ao l.length cap) (hr : RowE w ao b off cap l)
    (hlo : (lo.map (opv f) = none ∧ i = 0) ∨ ∃ κ, lo.map (opv f) = some (.int κ (i : Int))) (hhi : (hi.map (opv f) = none ∧ j = l.length) ∨ ∃ κ, hi.map (opv f) = some (.int κ (j : Int))) (h1 : i ≤ j) (h2 : j ≤ l.length) (hl' : (l.take j).drop i = l') :
    (execOp (opv f) o).run P w = .ok (.value (.slice (if cap = i then ao else ao.map (·.add (i * m))) l'.length (cap - i))) w := by
  have := hr.le
  subst hl'
  rw [run_sl (w := w) i j ho hu ht hx hlo hhi h1 (by omega)]
  simp
  omega
theorem run_slR {β : Type} [Rep β] {ls l' : List β} {P : Program} {f : Fr} {o : Oper} {T m bb : Nat} {z : Option Value} {x : Operand} {ao : Option Addr} {b off cap : Nat} {lo hi : Option Operand} (i j : Nat) (ho : o.op = .slice T x lo hi none) (hu : P.underlying T = some (.slice E))
    (ht : tyP P E = some (m, bb, z)) (hx : opv f x = .slice ao ls.length cap) (hr : RowR w ao b off cap ls)
    (hlo : (lo.map (opv f) = none ∧ i = 0) ∨ ∃ κ, lo.map (opv f) = some (.int κ (i : Int))) (hhi : (hi.map (opv f) = none ∧ j = ls.length) ∨ ∃ κ, hi.map (opv f) = some (.int κ (j : Int))) (h1 : i ≤ j) (h2 : j ≤ ls.length) (hl' : (ls.take j).drop i = l') :
    (execOp (opv f) o).run P w = .ok (.value (.slice (if cap = i then ao else ao.map (·.add (i * m))) l'.length (cap - i))) w := by
  have := hr.le
  subst hl'
  rw [run_sl (w := w) i j ho hu ht hx hlo hhi h1 (by omega)]
  simp
  omega
theorem OwnE.rowOf (h : OwnE w base E v l) : ∃ ao g cap, v = .slice ao l.length cap ∧ RowE w ao g 0 cap l ∧ (l ≠ [] → v.ownBlock = some g ∧ base ≤ g ∧ g < w.heap.size) := by
  obtain ⟨ao, g, cap, h1, h2, h3⟩ := Own.rowOf h
  exact ⟨ao, g, cap, by simpa using h1, h2, fun hl => h3 (by simpa using hl)⟩
end
end Go.Vc
namespace Go.Vc
open Go Go.RowKit Go.IntWalk
section
variable {P : Program} {B : Exit → Act → World → Prop} {n : Nat} {k : List Kont} {f : Fr} {w : World} {ops : Array Oper} {rest : List Oper} {C : World → Prop} {Q : Fr → Prop}
def KQ (P : Program) (n : Nat) (C : World → Prop) (Q : Fr → Prop) (ops : Array Oper) (l : List Oper) (f : Fr) : Prop :=
  ∀ a, Is n f a → wpQuiet P ops C (fun a' => ∃ f', Is n f' a' ∧ Q f') l a
theorem r_qregion {id : Nat} {l : List Oper} (hm : P.follows .mixedOrders = true) (hB : Region.lexB .any l.toArray = true)
    (h : KQ P n (fun w' => Evo w w' []) (fun f' => ∀ w', Evo w w' [] → KF P B n k f' w') l.toArray l f) : KF P B n (.code (.region id l.toArray true) :: k) f w := by
  intro a ha
  show (Code.region id l.toArray true).wp P (Kx P B k) a w
  refine wp_region_quiet (C := fun w' => Evo w w' []) hm hB (Evo.drew w []) ?_
  have := h a ha
  have mono : ∀ (l : List Oper) (a : Act) (Q1 Q2 : Act → Prop), (∀ a, Q1 a → Q2 a) → wpQuiet P l.toArray (fun w' => Evo w w' []) Q1 l a → wpQuiet P l.toArray (fun w' => Evo w w' []) Q2 l a := by
    intro l a Q1 Q2 h12
    have gen : ∀ (m : List Oper) (os : Array Oper) (a : Act), wpQuiet P os (fun w' => Evo w w' []) Q1 m a → wpQuiet P os (fun w' => Evo w w' []) Q2 m a := by
      intro m os
      induction m with
      | nil => exact fun a h => h12 a h
      | cons o m ih =>
        intro a h
        unfold wpQuiet at h ⊢
        split
        · rename_i hw; rw [if_pos hw] at h; exact Oper.quiet_mono ih h
        · rename_i hw; rw [if_neg hw] at h; exact ih _ h
    exact gen l l.toArray a
  simpa using mono l a _ _ (fun a' ⟨f', h1, h2⟩ w' hw' => h2 w' hw' a' h1) this
theorem q_nil (h : Q f) : KQ P n C Q ops [] f := fun _ ha => ⟨f, ha, h⟩
theorem q_op {o : Oper} {d : Nat} {v : Value} (hg : o.guard = none) (hdst : o.dst = some d) (hd : Nat.blt d n = true) (hrun : ∀ w', C w' → (execOp (opv f) o).run P w' = .ok (.value v) w')
    (h : KQ P n C Q ops rest (upd f d v)) : KQ P n C Q ops (o :: rest) f := by
  intro a ha
  refine wpQuiet_step fun K hK => ?_
  rw [if_pos (by simp [Region.wanted, hg])]
  refine ⟨v, fun w' hw' => ?_, hK _ (h _ (by rw [hdst]; exact ha.put hd v))⟩
  unfold Oper.quietAt
  rw [ha.eval, hrun w' hw']
  exact ⟨rfl, rfl⟩
theorem q_call {o : Oper} {d : Nat} {v : Value} {g : FuncId} {args : Array Value} (hg : o.guard = none) (hdst : o.dst = some d) (hd : Nat.blt d n = true) (hrun : ∀ w', C w' → (execOp (opv f) o).run P w' = .ok (.enter g args) w')
    (hc : ∀ w', C w' → Calls P g args w' fun e w'' => e = .returned v ∧ C w'')
    (h : KQ P n C Q ops rest (upd f d v)) : KQ P n C Q ops (o :: rest) f := by
  intro a ha
  refine wpQuiet_step fun K hK => ?_
  rw [if_pos (by simp [Region.wanted, hg])]
  refine ⟨v, fun w' hw' => ?_, hK _ (h _ (by rw [hdst]; exact ha.put hd v))⟩
  unfold Oper.quietAt
  rw [ha.eval, hrun w' hw']
  exact ⟨rfl, hc w' hw'⟩
theorem wanted_of {a : Act} (ha : Is n f a) {j s : Nat} {b : Bool} {g : Prop} (hj : (ops[j]?).bind (·.dst) = some s) (hw : Wanted f s b g) : (g → (yielded ops a.tmps j == some b) = true) ∧ (¬ g → (yielded ops a.tmps j == some b) = false) := by
  refine ⟨fun hg => ?_, fun hg => ?_⟩
  · rw [yielded_is ha hj (hw.yes hg)]; simp
  · have h1 := ha.get s
    have h2 := hw.no hg
    rw [← h1, Array.getD_eq_getD_getElem?] at h2
    unfold yielded
    rw [hj]
    simp only [Option.bind_some]
    cases h3 : a.tmps[s]? with
    | none => rfl
    | some u =>
      rw [h3] at h2
      simp at h2
      cases u <;> simp_all
      rename_i b'
      intro e
      exact h2 (by rw [← h1, e])
theorem q_g {d : Nat} {op : Op} {t : TypeId} {pos : String} {aft : Array Edge} {j s : Nat} {b : Bool} {g : Prop} [Decidable g] {v : Value} (hj : (ops[j]?).bind (·.dst) = some s) (hw : Wanted f s b g)
    (hd : Nat.blt d n = true) (hrun : g → ∀ w', C w' → (execOp (opv f) ⟨some d, op, t, pos, aft, none⟩).run P w' = .ok (.value v) w')
    (h : KQ P n C Q ops rest (upd f d (gv g v))) : KQ P n C Q ops (⟨some d, op, t, pos, aft, some (j, b)⟩ :: rest) f := by
  intro a ha
  refine wpQuiet_step fun K hK => ?_
  have hwa := wanted_of ha hj hw
  by_cases hg : g
  · rw [if_pos (by simp only [Region.wanted]; exact hwa.1 hg)]
    rw [gv_yes hg] at h
    refine ⟨v, fun w' hw' => ?_, hK _ (h _ (ha.put hd v))⟩
    unfold Oper.quietAt
    have := hrun hg w' hw'
    rw [ha.eval]
    have e : execOp (opv f) ⟨some d, op, t, pos, aft, some (j, b)⟩ = execOp (opv f) ⟨some d, op, t, pos, aft, none⟩ := rfl
    rw [e, this]
    exact ⟨rfl, rfl⟩
  · rw [if_neg (by simp only [Region.wanted]; rw [hwa.2 hg]; simp)]
    rw [gv_no hg] at h
    exact hK _ (h _ (ha.put hd _))
theorem q_gcall {d : Nat} {op : Op} {t : TypeId} {pos : String} {aft : Array Edge} {j s : Nat} {b : Bool} {g : Prop} [Decidable g] {v : Value} {F : FuncId} {args : Array Value} (hj : (ops[j]?).bind (·.dst) = some s) (hw : Wanted f s b g)
    (hd : Nat.blt d n = true) (hrun : g → ∀ w', C w' → (execOp (opv f) ⟨some d, op, t, pos, aft, none⟩).run P w' = .ok (.enter F args) w')
    (hc : g → ∀ w', C w' → Calls P F args w' fun e w'' => e = .returned v ∧ C w'')
    (h : KQ P n C Q ops rest (upd f d (gv g v))) : KQ P n C Q ops (⟨some d, op, t, pos, aft, some (j, b)⟩ :: rest) f := by
  intro a ha
  refine wpQuiet_step fun K hK => ?_
  have hwa := wanted_of ha hj hw
  by_cases hg : g
  · rw [if_pos (by simp only [Region.wanted]; exact hwa.1 hg)]
    rw [gv_yes hg] at h
    refine ⟨v, fun w' hw' => ?_, hK _ (h _ (ha.put hd v))⟩
    unfold Oper.quietAt
    have := hrun hg w' hw'
    rw [ha.eval]
    have e : execOp (opv f) ⟨some d, op, t, pos, aft, some (j, b)⟩ = execOp (opv f) ⟨some d, op, t, pos, aft, none⟩ := rfl
    rw [e, this]
    exact ⟨rfl, hc hg w' hw'⟩
  · rw [if_neg (by simp only [Region.wanted]; rw [hwa.2 hg]; simp)]
    rw [gv_no hg] at h
    exact hK _ (h _ (ha.put hd _))
theorem r_gcall {d : Nat} {op : Op} {t : TypeId} {pos : String} {aft : Array Edge} {j s : Nat} {b : Bool} {g : Prop} [Decidable g] {v : Value} {F : FuncId} {args : Array Value} (hj : (ops[j]?).bind (·.dst) = some s) (hw : Wanted f s b g)
    (hd : Nat.blt d n = true) (hrun : g → (execOp (opv f) ⟨some d, op, t, pos, aft, none⟩).run P w = .ok (.enter F args) w)
    (hc : g → Calls P F args w fun e w' => e = .returned v ∧ Evo w w' [])
    (h : ∀ w', Evo w w' [] → KL P B n ops k rest (upd f d (gv g v)) w') : KL P B n ops k (⟨some d, op, t, pos, aft, some (j, b)⟩ :: rest) f w := by
  intro a ha
  have hwa := wanted_of ha hj hw
  by_cases hg : g
  · unfold wpList
    rw [if_pos (by simp only [Region.wanted]; exact hwa.1 hg)]
    refine .inl ?_
    unfold Oper.wp
    have e : execOp (opv f) ⟨some d, op, t, pos, aft, some (j, b)⟩ = execOp (opv f) ⟨some d, op, t, pos, aft, none⟩ := rfl
    rw [ha.eval, e, hrun hg]
    simp only [Oper.upon]
    refine (hc hg).mono fun e w' ⟨h1, h2⟩ => ?_
    subst h1
    have h3 := h w' h2 _ (ha.put hd (gv g v))
    rw [gv_yes hg] at h3
    exact h3
  · unfold wpList
    rw [if_neg (by simp only [Region.wanted]; rw [hwa.2 hg]; simp)]
    have h3 := h w (Evo.refl _ _) _ (ha.put hd (gv g v))
    rw [gv_no hg] at h3
    exact h3
end
end Go.Vc
namespace Go.Vc
open Go Go.RowKit Go.IntWalk
abbrev Str := List UInt8
instance : Enc Int := ⟨1, fun x => [.int .i64 x], fun _ => rfl, fun _ => rfl, by decide⟩
instance : Enc Str := ⟨1, fun x => [S x], fun _ => rfl, fun _ => rfl, by decide⟩
structure Item where
  kind : Int
  text : Str
  id : Int
  deriving Inhabited, DecidableEq
instance : Enc Item := ⟨3, fun x => [.int .i64 x.kind, S x.text, .int .i64 x.id], fun _ => rfl, fun _ => rfl, by decide⟩
structure Range where
  lo : Int
  hi : Int
  deriving Inhabited, DecidableEq
instance : Enc Range := ⟨2, fun x => [.int .i64 x.lo, .int .i64 x.hi], fun _ => rfl, fun _ => rfl, by decide⟩
structure Bead where
  alo : Int
  ahi : Int
  blo : Int
  bhi : Int
  deriving Inhabited, DecidableEq
instance : Enc Bead := ⟨4, fun x => [.int .i64 x.alo, .int .i64 x.ahi, .int .i64 x.blo, .int .i64 x.bhi], fun _ => rfl, fun _ => rfl, by decide⟩
structure Gram where
  fst : Str
  snd : Str
  count : Int
  deriving Inhabited, DecidableEq
instance : Enc Gram := ⟨3, fun x => [S x.fst, S x.snd, .int .i64 x.count], fun _ => rfl, fun _ => rfl, by decide⟩
theorem rowE_same {α : Type} [Enc α] {w w' : World} {ao : Option Addr} {b off cap b' off' : Nat} {l : List α} (h : RowE w' ao b' off' cap l) (h0 : RowE w ao b off cap l) : RowE w' ao b off cap l := by
  by_cases hl : l = []
  · subst hl; exact ⟨h.1, by simp, by simp⟩
  · have hne : l.map Enc.enc ≠ [] := by simpa using hl
    have h1 := h.2.1 hne
    have h2 := h0.2.1 hne
    rw [h1] at h2
    injection h2 with h2
    injection h2 with e1 e2
    subst e1; subst e2
    exact h
structure Side where
  len : Int
  anchors : List Str
  deriving Inhabited
instance : Rep Side where
  n := 2
  rep w cs x := ∃ ao b off cap, cs = [.int .i64 x.len, .slice ao x.anchors.length cap] ∧ RowE w ao b off cap x.anchors
  len := fun ⟨_, _, _, _, h, _⟩ => by rw [h]; rfl
  evo0 := fun ⟨ao, b, off, cap, h, hr⟩ he => ⟨ao, b, off, cap, h, hr.evo0 he⟩
  pos := by decide
theorem ret_int {k : IntKind} {a b : Int} (h : a = b) : Ending.returned (.int k a) = .returned (.int k b) := by rw [h]
theorem ret_bool {a b : Bool} (h : a = b) : Ending.returned (.bool a) = .returned (.bool b) := by rw [h]
theorem tmod_bd (x n : Int) (hn : 1 ≤ n) : -n < x.tmod n ∧ x.tmod n < n := by
  have := Int.tmod_lt_of_pos x (b := n) (by omega)
  have := Int.lt_tmod_of_pos x (b := n) (by omega)
  omega
theorem place_pos (x n : Int) (hn : 1 ≤ n) (h : ¬ x.tmod n < 0) : x % n = x.tmod n := by
  rw [Int.tmod_eq_emod]
  split
  · omega
  · rename_i hh
    rw [Int.tmod_eq_emod, if_neg hh] at h
    have := Int.emod_lt_of_pos x (b := n) (by omega)
    omega
theorem place_neg (x n : Int) (hn : 1 ≤ n) (h : x.tmod n < 0) : x % n = x.tmod n + n := by
  rw [Int.tmod_eq_emod]
  split
  · rename_i hh
    rw [Int.tmod_eq_emod, if_pos hh] at h
    have := Int.emod_nonneg x (b := n) (by omega)
    omega
  · omega
def nextL (l : List Int) (N : Nat) (n : Int) : Int := (l.getD N default) % n
theorem nextL_bd (l : List Int) (N : Nat) (n : Int) (hn : 1 ≤ n) : 0 ≤ nextL l N n ∧ nextL l N n < n := ⟨Int.emod_nonneg _ (by omega), Int.emod_lt_of_pos _ (by omega)⟩
end Go.Vc
namespace Go.Vc
open Go Go.RowKit Go.IntWalk
structure KeyLaw (P : Program) (K : TypeId) {α : Type} (ek : α → Value) : Prop where
  inj : ∀ x y, ek x = ek y → x = y
  check : ∀ w e x, (Instr.checkKey e 10000 K (ek x)).run P w = .ok () w
  same : ∀ x, Instr.sameBits 10000 (ek x) (ek x) = true
  hit : ∀ w x (es : List MapEntry) (i : Nat) (e : MapEntry), (∀ e ∈ es, ∃ y, e.key = ek y) → es[i]? = some e → e.key = ek x → (∀ j e', j < i → es[j]? = some e' → e'.key ≠ ek x) → (Instr.findKey K (ek x) es).run P w = .ok (some (i, e.val)) w
  miss : ∀ w x (es : List MapEntry), (∀ e ∈ es, ∃ y, e.key = ek y) → (∀ e ∈ es, e.key ≠ ek x) → (Instr.findKey K (ek x) es).run P w = .ok none w
theorem findNow_hit {D : TypeDesc} {α : Type} [DecidableEq α] {ek : α → Value} (inj : ∀ x y, ek x = ek y → x = y) (hs : ∀ x y, Instr.sameNow D (ek x) (ek y) = some (decide (x = y))) (x : α) :
    ∀ (es : List MapEntry) (i k : Nat) (e : MapEntry), (∀ e ∈ es, ∃ y, e.key = ek y) → es[i]? = some e → e.key = ek x → (∀ j e', j < i → es[j]? = some e' → e'.key ≠ ek x) → Instr.findNow D (ek x) es k = some (some (k + i, e.val))
  | [], i, k, e, _, h, _, _ => by simp at h
  | a :: es, 0, k, e, _, h, hk, _ => by
    simp at h; subst h
    simp [Instr.findNow, hk, hs]
  | a :: es, i + 1, k, e, hall, h, hk, hne => by
    obtain ⟨y, hy⟩ := hall a (by simp)
    have h0 := hne 0 a (by omega) (by simp)
    have ih := findNow_hit inj hs x es i (k + 1) e (fun e he => hall e (by simp [he])) (by simpa using h) hk (fun j e' hj he' => hne (j + 1) e' (by omega) (by simpa using he'))
    have hd : decide (x = y) = false := by simp; intro h; exact h0 (by rw [hy, h])
    simp only [Instr.findNow, hy, hs, hd]
    rw [ih]
    simp
    omega
theorem findNow_miss {D : TypeDesc} {α : Type} [DecidableEq α] {ek : α → Value} (hs : ∀ x y, Instr.sameNow D (ek x) (ek y) = some (decide (x = y))) (x : α) :
    ∀ (es : List MapEntry) (k : Nat), (∀ e ∈ es, ∃ y, e.key = ek y) → (∀ e ∈ es, e.key ≠ ek x) → Instr.findNow D (ek x) es k = some none
  | [], _, _, _ => rfl
  | a :: es, k, hall, hne => by
    obtain ⟨y, hy⟩ := hall a (by simp)
    have h0 := hne a (by simp)
    have ih := findNow_miss hs x es (k + 1) (fun e he => hall e (by simp [he])) (fun e he => hne e (by simp [he]))
    have hd : decide (x = y) = false := by simp; intro h; exact h0 (by rw [hy, h])
    simp only [Instr.findNow, hy, hs, hd]
    exact ih
theorem KeyLaw.scalar {P : Program} {K : TypeId} {D : TypeDesc} {α : Type} [DecidableEq α] {ek : α → Value} (hu : P.underlying K = some D) (inj : ∀ x y, ek x = ek y → x = y) (hs : ∀ x y, Instr.sameNow D (ek x) (ek y) = some (decide (x = y)))
    (check : ∀ w e x, (Instr.checkKey e 10000 K (ek x)).run P w = .ok () w) (same : ∀ x, Instr.sameBits 10000 (ek x) (ek x) = true) : KeyLaw P K ek where
  inj := inj
  check := check
  same := same
  hit w x es i e hall h hk hne := by
    have := findNow_hit inj hs x es i 0 e hall h hk hne
    simp [Instr.findKey, run_underlying hu, this]
  miss w x es hall hne := by
    have := findNow_miss hs x es 0 hall hne
    simp [Instr.findKey, run_underlying hu, this]
theorem check_scalar {P : Program} {K : TypeId} {D : TypeDesc} (hu : P.underlying K = some D) (w : World) (e : Bool) (n : Nat) (v : Value) (hD : (D = .string ∧ ∃ s, v = .string s) ∨ (∃ k a, D = .int k ∧ v = .int k a)) : (Instr.checkKey e (n + 1) K v).run P w = .ok () w := by
  rcases hD with ⟨rfl, s, rfl⟩ | ⟨k, a, rfl, rfl⟩ <;> simp only [Instr.checkKey, Sem.run_bind, run_underlying hu, Result.andThen_ok, Sem.run_pure]
theorem bits_str (n : Nat) (s : ByteArray) : Instr.sameBits n (.string s) (.string s) = true := by
  cases n <;> simp only [Instr.sameBits, beq_toListBytes, beq_self_eq_true]
theorem bits_int (n : Nat) (k : IntKind) (a : Int) : Instr.sameBits n (.int k a) (.int k a) = true := by
  cases n <;> simp only [Instr.sameBits, beq_self_eq_true, Bool.and_self]
theorem key_str {P : Program} {K : TypeId} (hu : P.underlying K = some .string) : KeyLaw P K S := by
  refine KeyLaw.scalar hu (fun x y h => S_inj h) (fun x y => ?_) (fun w e x => ?_) (fun x => ?_)
  · unfold S
    simp only [Instr.sameNow, beq_toListBytes, toList_S]
    congr 1
    rw [Bool.eq_iff_iff]
    simp
  · exact check_scalar hu w e 9999 _ (.inl ⟨rfl, _, rfl⟩)
  · exact bits_str _ _
theorem key_int {P : Program} {K : TypeId} {k : IntKind} (hu : P.underlying K = some (.int k)) : KeyLaw P K (Value.int k) := by
  refine KeyLaw.scalar hu (fun x y h => by injection h) (fun x y => ?_) (fun w e x => ?_) (fun x => ?_)
  · simp only [Instr.sameNow, if_true]
    congr 1
  · exact check_scalar hu w e 9999 _ (.inr ⟨_, _, rfl, rfl⟩)
  · exact bits_int _ _ _
section
variable {α β : Type} [DecidableEq α]
def getM (m : List (α × β)) (x : α) : Option β := (m.find? (·.1 = x)).map (·.2)
def setM (m : List (α × β)) (x : α) (v : β) : List (α × β) := if m.any (·.1 = x) then m.map (fun p => if p.1 = x then (x, v) else p) else m ++ [(x, v)]
end
structure MapIs {α β : Type} (w : World) (b : Nat) (ek : α → Value) (ev : β → Value) (m : List (α × β)) : Prop where
  ex : ∃ es clock, w.heap[b]? = some (.map es clock) ∧ es.toList.map (fun e => (e.key, e.val)) = m.map (fun p => (ek p.1, ev p.2)) ∧ (es.toList.map (·.born)).Nodup ∧ (∀ e ∈ es.toList, e.born < clock) ∧ (m.map (·.1)).Nodup
section
variable {α β : Type} {ek : α → Value} {ev : β → Value} {w w' : World} {b : Nat} {m : List (α × β)} {E : List Nat}
theorem MapIs.lt (h : MapIs w b ek ev m) : b < w.heap.size := by
  obtain ⟨es, c, hb, _⟩ := h.ex
  rcases Nat.lt_or_ge b w.heap.size with h1 | h1
  · exact h1
  · rw [Array.getElem?_eq_none h1] at hb; cases hb
theorem MapIs.evo (h : MapIs w b ek ev m) (he : Evo w w' E) (hn : b ∉ E) : MapIs w' b ek ev m := by
  obtain ⟨es, c, hb, r⟩ := h.ex
  exact ⟨es, c, (he.same b h.lt hn).trans hb, r⟩
theorem MapIs.evo0 (h : MapIs w b ek ev m) (he : Evo w w' []) : MapIs w' b ek ev m := h.evo he (by simp)
theorem MapIs.made (w : World) : MapIs (w.alloc (.map #[] 0)) w.heap.size ek ev [] := ⟨#[], 0, heap_alloc_new w _, by simp, by simp, by simp, by simp⟩
theorem keys_of {es : List MapEntry} (h : es.map (fun e => (e.key, e.val)) = m.map (fun p => (ek p.1, ev p.2))) : ∀ e ∈ es, ∃ y, e.key = ek y := by
  intro e he
  have : (e.key, e.val) ∈ es.map (fun e => (e.key, e.val)) := List.mem_map.2 ⟨e, he, rfl⟩
  rw [h] at this
  obtain ⟨p, _, hp⟩ := List.mem_map.1 this
  exact ⟨p.1, (congrArg Prod.fst hp).symm⟩
theorem entry_at {es : List MapEntry} (h : es.map (fun e => (e.key, e.val)) = m.map (fun p => (ek p.1, ev p.2))) (i : Nat) : (es[i]?).map (fun e => (e.key, e.val)) = (m[i]?).map (fun p => (ek p.1, ev p.2)) := by
  have := congrArg (·[i]?) h
  simpa using this
theorem find_idx [DecidableEq α] (x : α) : ∀ (m : List (α × β)), (∀ p ∈ m, p.1 ≠ x) ∨ ∃ i v, m[i]? = some (x, v) ∧ ∀ (j : Nat) (p : α × β), j < i → m[j]? = some p → p.1 ≠ x
  | [] => .inl (by simp)
  | p :: m => by
    by_cases h : p.1 = x
    · exact .inr ⟨0, p.2, by simp [← h], by simp⟩
    · rcases find_idx x m with h1 | ⟨i, v, h1, h2⟩
      · refine .inl (fun q hq => ?_)
        rcases List.mem_cons.1 hq with rfl | hq
        · exact h
        · exact h1 q hq
      · refine .inr ⟨i + 1, v, by simpa using h1, fun j q hj hq => ?_⟩
        cases j with
        | zero => simp at hq; subst hq; exact h
        | succ j => exact h2 j q (by omega) (by simpa using hq)
theorem getM_none [DecidableEq α] {x : α} (h : ∀ p ∈ m, p.1 ≠ x) : getM m x = none := by
  unfold getM
  rw [List.find?_eq_none.2 (by intro p hp; simpa using h p hp)]
  rfl
theorem getM_some [DecidableEq α] {x : α} {v : β} {i : Nat} (h1 : m[i]? = some (x, v)) (h2 : ∀ (j : Nat) (p : α × β), j < i → m[j]? = some p → p.1 ≠ x) : getM m x = some v := by
  have : m.find? (·.1 = x) = some (x, v) := by
    induction m generalizing i with
    | nil => simp at h1
    | cons p m ih =>
      cases i with
      | zero => simp at h1; subst h1; simp
      | succ i =>
        have h0 := h2 0 p (by omega) (by simp)
        simp only [List.find?_cons, decide_eq_false h0]
        exact ih (by simpa using h1) (fun j q hj hq => h2 (j + 1) q (by omega) (by simpa using hq))
  simp [getM, this]
variable {P : Program} {K : TypeId} (L : KeyLaw P K ek)
include L
theorem MapIs.find [DecidableEq α] (h : MapIs w b ek ev m) (x : α) : ∃ es clock, w.heap[b]? = some (.map es clock) ∧
    ((getM m x = none ∧ (Instr.findKey K (ek x) es.toList).run P w = .ok none w) ∨
      ∃ i v, getM m x = some v ∧ m[i]? = some (x, v) ∧ (∀ (j : Nat) (p : α × β), j < i → m[j]? = some p → p.1 ≠ x) ∧ (Instr.findKey K (ek x) es.toList).run P w = .ok (some (i, ev v)) w) := by
  obtain ⟨es, c, hb, he, hbn, hlt, hnd⟩ := h.ex
  refine ⟨es, c, hb, ?_⟩
  rcases find_idx x m with h1 | ⟨i, v, h1, h2⟩
  · refine .inl ⟨getM_none h1, L.miss w x _ (keys_of he) (fun e hm hk => ?_)⟩
    obtain ⟨i, hi⟩ := List.getElem?_of_mem hm
    have := entry_at he i
    rw [hi] at this
    cases hp : m[i]? with
    | none => rw [hp] at this; simp at this
    | some p =>
      rw [hp] at this
      simp at this
      exact h1 p (List.mem_of_getElem? hp) (L.inj _ _ (this.1.symm.trans hk))
  · have hi := entry_at he i
    rw [h1] at hi
    cases hes : es.toList[i]? with
    | none => rw [hes] at hi; simp at hi
    | some e =>
      rw [hes] at hi
      simp only [Option.map_some, Option.some.injEq, Prod.mk.injEq] at hi
      refine .inr ⟨i, v, getM_some h1 h2, h1, h2, ?_⟩
      rw [← hi.2]
      refine L.hit w x _ i e (keys_of he) hes hi.1 (fun j e' hj he' hk => ?_)
      have := entry_at he j
      rw [he'] at this
      cases hp : m[j]? with
      | none => rw [hp] at this; simp at this
      | some p =>
        rw [hp] at this
        simp at this
        exact h2 j p hj hp (L.inj _ _ (this.1.symm.trans hk))
end
section
variable {P : Program} {B : Exit → Act → World → Prop} {n : Nat} {k : List Kont} {f : Fr} {w : World} {ops : Array Oper} {rest : List Oper} {o : Oper}
variable {α β : Type} {ek : α → Value} {ev : β → Value} {b : Nat} {m : List (α × β)} {K E : TypeId}
open Go.ChangeMaps (setBlock)
theorem heap_setB {w : World} {b : Nat} (hb : b < w.heap.size) (ob : Obj) : (setBlock w b ob).heap[b]? = some ob := by simp [setBlock, hb]
theorem heap_setB_ne {w : World} {b i : Nat} (ob : Obj) (h : i ≠ b) : (setBlock w b ob).heap[i]? = w.heap[i]? := by
  simp only [setBlock]
  rw [Array.getElem?_setIfInBounds_ne (Ne.symm h)]
theorem Evo.setB (w : World) (b : Nat) (ob : Obj) : Evo w (setBlock w b ob) [b] := ⟨rfl, rfl, rfl, by simp [setBlock], fun i _ hn => heap_setB_ne ob (by simpa using hn)⟩
theorem r_makeMap {T d : Nat} {t : TypeId} {pos : String} {aft : Array Edge} (ek : α → Value) (ev : β → Value) (hd : Nat.blt d n = true)
    (h : ∀ b w', b = w.heap.size → Evo w w' [] → MapIs w' b ek ev [] → w'.heap.size = b + 1 → KL P B n ops k rest (upd f d (.map (some b))) w') :
    KL P B n ops k (⟨some d, .makeMap T none, t, pos, aft, none⟩ :: rest) f w := by
  refine r_op (v := .map (some w.heap.size)) (w' := w.alloc (.map #[] 0)) rfl rfl hd ?_ (h _ _ rfl (Evo.alloc _ _ _) (MapIs.made w) (by simp))
  simp [execOp, Instr.makeMap]
theorem run_lookupM [DecidableEq α] (L : KeyLaw P K ek) {T : TypeId} {ok : Bool} {z : Value} {s bb : Nat} {y x : Operand} {a : α} (ho : o.op = .lookup T x y ok) (hu : P.underlying T = some (.map K E)) (hz : tyP P E = some (s, bb, some z))
    (hx : opv f x = .map (some b)) (hy : opv f y = ek a) (h : MapIs w b ek ev m) :
    (execOp (opv f) o).run P w = .ok (.value (if ok then .tuple #[((getM m a).map ev).getD z, .bool (getM m a).isSome] else ((getM m a).map ev).getD z)) w := by
  obtain ⟨es, c, hb, hf⟩ := h.find L a
  unfold execOp; rw [ho]; simp only []; rw [hx, hy]
  rcases hf with ⟨hg, hf⟩ | ⟨i, v, hg, _, _, hf⟩
  · cases ok <;> simp [Instr.lookup, getObj, run_underlying hu, Sem.run, hb, L.check, hf, run_zero hz, hg]
  · cases ok <;> simp [Instr.lookup, getObj, run_underlying hu, Sem.run, hb, L.check, hf, hg]
theorem run_lookup2 [DecidableEq α] (L : KeyLaw P K ek) {T : TypeId} {z : β} {s bb : Nat} {y x : Operand} {a : α} (ho : o.op = .lookup T x y true) (hu : P.underlying T = some (.map K E)) (hz : tyP P E = some (s, bb, some (ev z)))
    (hx : opv f x = .map (some b)) (hy : opv f y = ek a) (h : MapIs w b ek ev m) {v : Value} (hv : ev ((getM m a).getD z) = v) :
    (execOp (opv f) o).run P w = .ok (.value (.tuple #[v, .bool (getM m a).isSome])) w := by
  rw [run_lookupM L ho hu hz hx hy h, ← hv]
  cases getM m a <;> rfl
theorem setM_miss [DecidableEq α] {x : α} {v : β} (h : ∀ p ∈ m, p.1 ≠ x) : setM m x v = m ++ [(x, v)] := by
  unfold setM
  rw [if_neg]
  intro hh
  obtain ⟨p, hp, he⟩ := List.any_eq_true.1 hh
  exact h p hp (by simpa using he)
theorem setM_hit [DecidableEq α] {x : α} {v u : β} {i : Nat} (h1 : m[i]? = some (x, u)) (hn : (m.map (·.1)).Nodup) : setM m x v = m.set i (x, v) := by
  unfold setM
  rw [if_pos (by simp; exact ⟨_, List.mem_of_getElem? h1⟩)]
  apply List.ext_getElem?
  intro j
  rw [List.getElem?_map, List.getElem?_set]
  by_cases hj : i = j
  · subst hj
    have hi : i < m.length := by
      rcases Nat.lt_or_ge i m.length with h2 | h2
      · exact h2
      · rw [List.getElem?_eq_none h2] at h1; cases h1
    have hm : m[i] = (x, u) := by rw [List.getElem?_eq_getElem hi] at h1; injection h1
    simp [hi, hm]
  · simp only [hj, if_false]
    cases hm : m[j]? with
    | none => rfl
    | some p =>
      have : p.1 ≠ x := by
        intro e
        have hi : i < (m.map (·.1)).length := by
          rcases Nat.lt_or_ge i (m.map (·.1)).length with h2 | h2
          · exact h2
          · rw [List.getElem?_eq_none (by simpa using h2)] at h1; cases h1
        have := (List.getElem?_inj hi hn (j := j)).1 (by simp [h1, hm, e])
        exact hj this
      simp [this]
theorem keys_setM [DecidableEq α] (x : α) (v : β) (m : List (α × β)) (hn : (m.map (·.1)).Nodup) : ((setM m x v).map (·.1)).Nodup := by
  rcases find_idx x m with h | ⟨i, u, h, _⟩
  · rw [setM_miss h]
    simp only [List.map_append, List.map_cons, List.map_nil]
    rw [List.nodup_append]
    refine ⟨hn, by simp, fun a ha c hc => ?_⟩
    simp at hc
    subst hc
    obtain ⟨p, hp, rfl⟩ := List.mem_map.1 ha
    exact h p hp
  · rw [setM_hit h hn, List.map_set]
    have : (m.map (·.1)).set i x = m.map (·.1) := by
      apply List.ext_getElem?
      intro j
      rw [List.getElem?_set]
      by_cases hj : i = j
      · subst hj
        have hi : i < m.length := by
          rcases Nat.lt_or_ge i m.length with h2 | h2
          · exact h2
          · rw [List.getElem?_eq_none h2] at h; cases h
        have hm : m[i] = (x, u) := by rw [List.getElem?_eq_getElem hi] at h; injection h
        simp [hi, hm]
      · simp [hj]
    rw [this]
    exact hn
theorem run_mapset [DecidableEq α] (L : KeyLaw P K ek) {T : TypeId} (hu : P.underlying T = some (.map K E)) (a : α) (v : β) (h : MapIs w b ek ev m) :
    ∃ w', (Instr.mapUpdate T (.map (some b)) (ek a) (ev v)).run P w = .ok () w' ∧ Evo w w' [b] ∧ w'.heap.size = w.heap.size ∧ MapIs w' b ek ev (setM m a v) := by
  obtain ⟨es, c, hb, he, hbn, hlt, hnd⟩ := h.ex
  have hbl := h.lt
  obtain ⟨es', c', hb', hf⟩ := h.find L a
  rw [hb] at hb'
  injection hb' with hb'
  injection hb' with e1 e2
  subst e1; subst e2
  rcases hf with ⟨hg, hf⟩ | ⟨i, u, hg, hi, hne, hf⟩
  · have hmiss : ∀ p ∈ m, p.1 ≠ a := by
      intro p hp e
      unfold getM at hg
      have hg' := hg
      simp only [Option.map_eq_none_iff, List.find?_eq_none, decide_eq_true_eq] at hg'
      exact hg' p hp e
    refine ⟨setBlock w b (.map (es.push { key := ek a, val := ev v, born := c }) (c + 1)), ?_, Evo.setB _ _ _, by simp [setBlock], ⟨_, _, heap_setB hbl _, ?_, ?_, ?_, keys_setM a v m hnd⟩⟩
    · simp only [Instr.mapUpdate, getObj, Sem.run_bind, run_underlying hu, Result.andThen_ok, Sem.run, hb, L.check, hf, setObj, setBlock]
    · rw [setM_miss hmiss]; simp [he]
    · simp only [Array.toList_push, List.map_append, List.map_cons, List.map_nil]
      rw [List.nodup_append]
      refine ⟨hbn, by simp, fun x hx y hy => ?_⟩
      simp at hy
      subst hy
      obtain ⟨e, hem, rfl⟩ := List.mem_map.1 hx
      have := hlt e hem
      omega
    · intro e hem
      simp only [Array.toList_push, List.mem_append, List.mem_singleton] at hem
      rcases hem with hem | rfl
      · have := hlt e hem; omega
      · simp
  · have hent := entry_at he i
    rw [hi] at hent
    cases hes : es.toList[i]? with
    | none => rw [hes] at hent; simp at hent
    | some e =>
      rw [hes] at hent
      simp only [Option.map_some, Option.some.injEq, Prod.mk.injEq] at hent
      have hes' : es[i]? = some e := by simpa using hes
      have hstay : (Instr.keyThatStays (((es[i]?).map (·.key)).getD (ek a)) (ek a)).run P w = .ok (ek a) w := by
        rw [hes']
        simp only [Option.map_some, Option.getD_some, hent.1, Instr.keyThatStays, L.same, if_true, Sem.run_pure]
      refine ⟨setBlock w b (.map (es.modify i fun e => { e with key := ek a, val := ev v }) c), ?_, Evo.setB _ _ _, by simp [setBlock], ⟨_, _, heap_setB hbl _, ?_, ?_, ?_, keys_setM a v m hnd⟩⟩
      · simp only [Instr.mapUpdate, getObj, Sem.run_bind, run_underlying hu, Result.andThen_ok, Sem.run, hb, L.check, hf, hstay, setObj, setBlock]
      · rw [setM_hit hi hnd]
        apply List.ext_getElem?
        intro j
        have hj := entry_at he j
        simp only [List.getElem?_map, Array.getElem?_toList, Array.getElem?_modify] at hj ⊢
        rw [List.getElem?_set]
        by_cases hij : i = j
        · subst hij
          have hil : i < m.length := by
            rcases Nat.lt_or_ge i m.length with h2 | h2
            · exact h2
            · rw [List.getElem?_eq_none h2] at hi; cases hi
          simp [hes', hil]
        · simp [hij, hj]
      · have : (es.modify i fun e => { e with key := ek a, val := ev v }).toList.map (·.born) = es.toList.map (·.born) := by
          apply List.ext_getElem?
          intro j
          simp only [List.getElem?_map, Array.getElem?_toList, Array.getElem?_modify]
          by_cases hij : i = j
          · subst hij; simp [hes']
          · simp [hij]
        rw [this]; exact hbn
      · intro x hx
        obtain ⟨j, hj⟩ := List.getElem?_of_mem hx
        simp only [Array.getElem?_toList, Array.getElem?_modify] at hj
        by_cases hij : i = j
        · subst hij
          simp [hes'] at hj
          rw [← hj]
          exact hlt e (by rw [← Array.getElem?_toList] at hes'; exact List.mem_of_getElem? hes')
        · simp only [hij, if_false] at hj
          exact hlt x (by rw [← Array.getElem?_toList] at hj; exact List.mem_of_getElem? hj)
theorem r_mapset [DecidableEq α] (L : KeyLaw P K ek) {T : TypeId} {t : TypeId} {pos : String} {aft : Array Edge} {x y z : Operand} {a : α} {v : β} (hu : P.underlying T = some (.map K E)) (hx : opv f x = .map (some b)) (hy : opv f y = ek a) (hz : opv f z = ev v)
    (h : MapIs w b ek ev m) (h2 : ∀ w', Evo w w' [b] → w'.heap.size = w.heap.size → MapIs w' b ek ev (setM m a v) → KL P B n ops k rest f w') :
    KL P B n ops k (⟨none, .mapUpdate T x y z, t, pos, aft, none⟩ :: rest) f w := by
  obtain ⟨w', hr, he, hs, hm⟩ := run_mapset L hu a v h
  refine r_op0 (w' := w') rfl rfl ?_ (h2 w' he hs hm)
  simp [execOp, hx, hy, hz, hr]
structure IterIs (w : World) (r b : Nat) (ek : α → Value) (ev : β → Value) (m left : List (α × β)) (last : Option (α × β)) : Prop where
  ex : ∃ (es : Array MapEntry) (clock : Nat) (seen : Array Nat), w.heap[b]? = some (.map es clock) ∧ es.toList.map (fun e => (e.key, e.val)) = m.map (fun p => (ek p.1, ev p.2)) ∧ (es.toList.map (·.born)).Nodup ∧ (∀ e ∈ es.toList, e.born < clock) ∧ (m.map (·.1)).Nodup ∧
    w.heap[r]? = some (.mapIter (some b) clock seen clock) ∧ (es.toList.filter (fun e => !seen.contains e.born)).map (fun e => (e.key, e.val)) = left.map (fun p => (ek p.1, ev p.2)) ∧
    (∀ p, last = some p → ∃ e ∈ es.toList, (∃ s : Array Nat, seen = s.push e.born) ∧ e.key = ek p.1 ∧ e.val = ev p.2)
theorem IterIs.lt {left : List (α × β)} {last : Option (α × β)} {r : Nat} (h : IterIs w r b ek ev m left last) : r < w.heap.size := by
  obtain ⟨es, c, seen, hb, _, _, _, _, hr, _⟩ := h.ex
  rcases Nat.lt_or_ge r w.heap.size with h1 | h1
  · exact h1
  · rw [Array.getElem?_eq_none h1] at hr; cases hr
theorem IterIs.map {left : List (α × β)} {last : Option (α × β)} {r : Nat} (h : IterIs w r b ek ev m left last) : MapIs w b ek ev m := by
  obtain ⟨es, c, seen, hb, h1, h2, h3, h4, _⟩ := h.ex
  exact ⟨es, c, hb, h1, h2, h3, h4⟩
theorem IterIs.evo {w' : World} {X : List Nat} {left : List (α × β)} {last : Option (α × β)} {r : Nat} (h : IterIs w r b ek ev m left last) (he : Evo w w' X) (hr : r ∉ X) (hb : b ∉ X) : IterIs w' r b ek ev m left last := by
  have h1 := h.lt
  have h2 := h.map.lt
  obtain ⟨es, c, seen, h3, h4, h5, h6, h7, h8, h9⟩ := h.ex
  exact ⟨es, c, seen, (he.same b h2 hb).trans h3, h4, h5, h6, h7, (he.same r h1 hr).trans h8, h9⟩
theorem IterIs.evo0 {w' : World} {left : List (α × β)} {last : Option (α × β)} {r : Nat} (h : IterIs w r b ek ev m left last) (he : Evo w w' []) : IterIs w' r b ek ev m left last := h.evo he (by simp) (by simp)
end
end Go.Vc
