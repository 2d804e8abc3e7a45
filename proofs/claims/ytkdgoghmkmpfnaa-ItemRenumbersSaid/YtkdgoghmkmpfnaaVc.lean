/-
  A small logic of our own over the kit's 'Code.wp': frames as functions, a stack of what follows, one rule for each form of code and each pure operation. Generic over the program.
-/
import Derived.WalkKit
namespace Go.Vc
open Go Go.RowKit

abbrev Fr := Nat → Value
@[reducible] def upd (f : Fr) (i : Nat) (v : Value) : Fr := fun j => bif Nat.beq j i then v else f j
@[reducible] def updo (f : Fr) (d : Option Nat) (v : Value) : Fr := match d with | some i => upd f i v | none => f

@[reducible] def opv (f : Fr) : Operand → Value
  | .tmp t => f t
  | .const v => v
  | .global g => .pointer (some ⟨g, 0, none⟩)
  | .func g => .func (.func g) #[] #[]

structure Is (n : Nat) (f : Fr) (a : Act) : Prop where
  size : a.tmps.size = n
  get : ∀ i, a.tmps.getD i undef = f i
  defers : a.defers = []

theorem Is.eval {n : Nat} {f : Fr} {a : Act} (h : Is n f a) : a.eval = opv f := by
  funext x
  cases x with
  | tmp t => exact h.get t
  | const v => rfl
  | global g => rfl
  | func g => rfl

theorem upd_same (f : Fr) (i : Nat) (v : Value) : upd f i v i = v := by simp [upd]
theorem beqF {j i : Nat} (h : j ≠ i) : Nat.beq j i = false := by
  cases e : Nat.beq j i
  · rfl
  · exact absurd (Nat.eq_of_beq_eq_true e) h
theorem upd_ne (f : Fr) (i j : Nat) (v : Value) (h : j ≠ i) : upd f i v j = f j := by simp only [upd, beqF h, cond_false]

theorem Is.put {n : Nat} {f : Fr} {a : Act} (h : Is n f a) {d : Nat} (hd : Nat.blt d n = true) (v : Value) : Is n (upd f d v) (a.put (some d) v) := by
  have hd' : d < n := by simpa using hd
  refine ⟨by simp [Act.put, h.size], fun i => ?_, h.defers⟩
  have hi := h.get i
  simp only [Act.put, Array.getD_eq_getD_getElem?] at *
  by_cases e : i = d
  · subst e
    simp [upd, h.size, hd']
  · rw [upd_ne _ _ _ _ e, Array.getElem?_setIfInBounds_ne (Ne.symm e)]
    exact hi

theorem Is.know {n : Nat} {f : Fr} {a : Act} (h : Is n f a) {i : Nat} {v : Value} (hv : f i = v) : Is n (upd f i v) a := by
  refine ⟨h.size, fun j => ?_, h.defers⟩
  by_cases e : j = i
  · subst e; rw [upd_same, h.get, hv]
  · rw [upd_ne _ _ _ _ e]; exact h.get j

inductive Kont where
  | code (c : Code)
  | blk (id : Nat)
  | stop (I : Act → World → Prop)

section
variable (P : Program) (B : Exit → Act → World → Prop)
def Kx : List Kont → Exit → Act → World → Prop
  | [], e, a, w => B e a w
  | .code c :: k, .normal, a, w => c.wp P (Kx k) a w
  | .code _ :: k, .exit i, a, w => Kx k (.exit i) a w
  | .code _ :: k, .goto i, a, w => Kx k (.goto i) a w
  | .code _ :: k, .ret, a, w => Kx k .ret a w
  | .code _ :: k, .panic c, a, w => Kx k (.panic c) a w
  | .code _ :: k, .outgrown, a, w => Kx k .outgrown a w
  | .blk _ :: k, .normal, a, w => Kx k .normal a w
  | .blk id :: k, .exit i, a, w => if i = id then Kx k .normal a w else Kx k (.exit i) a w
  | .blk _ :: k, .goto i, a, w => Kx k (.goto i) a w
  | .blk _ :: k, .ret, a, w => Kx k .ret a w
  | .blk _ :: k, .panic c, a, w => Kx k (.panic c) a w
  | .blk _ :: k, .outgrown, a, w => Kx k .outgrown a w
  | .stop I :: _, .normal, a, w => I a w
  | .stop _ :: k, .exit i, a, w => Kx k (.exit i) a w
  | .stop _ :: k, .goto i, a, w => Kx k (.goto i) a w
  | .stop _ :: k, .ret, a, w => Kx k .ret a w
  | .stop _ :: k, .panic c, a, w => Kx k (.panic c) a w
  | .stop _ :: k, .outgrown, a, w => Kx k .outgrown a w

variable (n : Nat)
def KF (k : List Kont) (f : Fr) (w : World) : Prop := ∀ a, Is n f a → Kx P B k .normal a w
def KL (ops : Array Oper) (k : List Kont) (l : List Oper) (f : Fr) (w : World) : Prop := ∀ a, Is n f a → wpList P ops (Kx P B k) l a w
end

@[reducible] def exitK (id : Nat) : List Kont → Option (List Kont)
  | [] => none
  | .blk i :: k => bif Nat.beq i id then some k else exitK id k
  | .code _ :: k => exitK id k
  | .stop _ :: k => exitK id k

section rules
variable {P : Program} {B : Exit → Act → World → Prop} {n : Nat} {k : List Kont} {f : Fr} {w : World}

theorem r_seq {x y : Code} (h : KF P B n (.code x :: .code y :: k) f w) : KF P B n (.code (.seq x y) :: k) f w := by
  intro a ha
  show (Code.seq x y).wp P (Kx P B k) a w
  exact wp_seq (wp_mono (h a ha) (by intro e a w hq; cases e <;> exact hq))

theorem r_skip (h : KF P B n k f w) : KF P B n (.code .skip :: k) f w := fun a ha => wp_skip (h a ha)
theorem r_block {id : Nat} {c : Code} (h : KF P B n (.code c :: .blk id :: k) f w) : KF P B n (.code (.block id c) :: k) f w := by
  intro a ha
  show (Code.block id c).wp P (Kx P B k) a w
  exact wp_block (wp_mono (h a ha) (by intro e a w hq; cases e <;> exact hq))
theorem r_blk {id : Nat} (h : KF P B n k f w) : KF P B n (.blk id :: k) f w := h
theorem r_stop {I : Act → World → Prop} (h : ∀ a, Is n f a → I a w) : KF P B n (.stop I :: k) f w := h

theorem Kx_exit {id : Nat} {k' : List Kont} {a : Act} : ∀ {k : List Kont}, exitK id k = some k' → Kx P B k' .normal a w → Kx P B k (.exit id) a w
  | [], h, _ => by cases h
  | .blk i :: k, h, hq => by
    by_cases e : id = i
    · subst e
      simp only [exitK, Nat.beq_refl, cond_true, Option.some.injEq] at h
      subst h
      simp only [Kx, if_true]
      exact hq
    · have e' : Nat.beq i id = false := beqF (Ne.symm e)
      simp only [exitK, e', cond_false] at h
      simp only [Kx, if_neg e]
      exact Kx_exit h hq
  | .code _ :: k, h, hq => by
    simp only [Kx]
    exact Kx_exit (k := k) h hq
  | .stop _ :: k, h, hq => by
    simp only [Kx]
    exact Kx_exit (k := k) h hq

theorem r_exit {id : Nat} {k' : List Kont} (hk : exitK id k = some k') (h : KF P B n k' f w) : KF P B n (.code (.exit id) :: k) f w := fun a ha => wp_exit (Kx_exit hk (h a ha))

theorem Kx_ret {a : Act} (h : B .ret a w) : ∀ (k : List Kont), Kx P B k .ret a w
  | [] => h
  | .blk _ :: k => by simp only [Kx]; exact Kx_ret h k
  | .code _ :: k => by simp only [Kx]; exact Kx_ret h k
  | .stop _ :: k => by simp only [Kx]; exact Kx_ret h k

theorem r_cond {c : Operand} {x y : Code} {p : Prop} [Decidable p] (hc : opv f c = .bool (decide p)) (ht : p → KF P B n (.code x :: k) f w) (hf : ¬ p → KF P B n (.code y :: k) f w) :
    KF P B n (.code (.cond c x y) :: k) f w := by
  intro a ha
  have he : a.eval c = .bool (decide p) := by rw [ha.eval]; exact hc
  by_cases hp : p
  · exact wp_cond_true (by rw [he]; simp [hp]) (ht hp a ha)
  · exact wp_cond_false (by rw [he]; simp [hp]) (hf hp a ha)
theorem r_condb {c : Operand} {x y : Code} {b : Bool} (hc : opv f c = .bool b) (ht : b = true → KF P B n (.code x :: k) f w) (hf : b = false → KF P B n (.code y :: k) f w) :
    KF P B n (.code (.cond c x y) :: k) f w := by
  intro a ha
  have he : a.eval c = .bool b := by rw [ha.eval]; exact hc
  cases b
  · exact wp_cond_false he (hf rfl a ha)
  · exact wp_cond_true he (ht rfl a ha)
theorem r_cond_yes {c : Operand} {x y : Code} (hc : opv f c = .bool true) (h : KF P B n (.code x :: k) f w) : KF P B n (.code (.cond c x y) :: k) f w :=
  fun a ha => wp_cond_true (by rw [ha.eval]; exact hc) (h a ha)
theorem r_cond_no {c : Operand} {x y : Code} (hc : opv f c = .bool false) (h : KF P B n (.code y :: k) f w) : KF P B n (.code (.cond c x y) :: k) f w :=
  fun a ha => wp_cond_false (by rw [ha.eval]; exact hc) (h a ha)

/-- What is known of a slot may be written into the frame. -/
theorem r_know {i : Nat} {v : Value} (hv : f i = v) (h : KF P B n k (upd f i v) w) : KF P B n k f w := fun a ha => h a (ha.know hv)

/-- A loop, its relation over a ghost; the frame of the round is any that agrees with the frame of the entry outside the slots 'M'. -/
theorem r_loop_raw {c : Code} {α : Type} (J : α → Act → World → Prop) (μ : α → Nat) (x0 : α) {a0 : Act} {w0 : World} (h0 : J x0 a0 w0)
    (round : ∀ x a w, J x a w → Kx P B (.code c :: .stop (fun a' w' => ∃ x', μ x' < μ x ∧ J x' a' w') :: k) .normal a w) : Kx P B (.code (.loop c) :: k) .normal a0 w0 := by
  show (Code.loop c).wp P (Kx P B k) a0 w0
  have hmin : ∀ a w, (∃ x, J x a w) → ∃ x, J x a w ∧ ∀ y, J y a w → μ x ≤ μ y := by
    intro a w ⟨x, hx⟩
    have key : ∀ m x, μ x = m → J x a w → ∃ x, J x a w ∧ ∀ y, J y a w → μ x ≤ μ y := by
      intro m
      induction m using Nat.strongRecOn with
      | _ m ih =>
        intro x hm hx
        by_cases hex : ∃ y, J y a w ∧ μ y < μ x
        · obtain ⟨y, hy, hlt⟩ := hex
          exact ih (μ y) (hm ▸ hlt) y rfl hy
        · exact ⟨x, hx, fun y hy => Nat.le_of_not_lt fun hlt => hex ⟨y, hy, hlt⟩⟩
    exact key _ x rfl hx
  let ν : Act → World → Nat := fun a w => open Classical in if h : ∃ x, J x a w then μ (hmin a w h).choose else 0
  refine wp_loop (fun a w => ∃ x, J x a w) ν ⟨x0, h0⟩ ?_
  intro a w hI
  have hx := (hmin a w hI).choose_spec
  have hν : ν a w = μ (hmin a w hI).choose := by simp only [ν, dif_pos hI]
  refine wp_mono (round _ a w hx.1) ?_
  intro e a' w' hq
  cases e with
  | normal =>
    obtain ⟨x', hlt, hJ⟩ := hq
    refine ⟨⟨x', hJ⟩, ?_⟩
    have hI' : ∃ x, J x a' w' := ⟨x', hJ⟩
    have hν' : ν a' w' = μ (hmin a' w' hI').choose := by simp only [ν, dif_pos hI']
    rw [hν, hν']
    exact Nat.lt_of_le_of_lt ((hmin a' w' hI').choose_spec.2 x' hJ) hlt
  | exit i => exact hq
  | goto i => exact hq
  | ret => exact hq
  | panic c => exact hq
  | outgrown => exact hq

@[reducible] def elemN (i : Nat) : List Nat → Bool
  | [] => false
  | j :: r => bif Nat.beq i j then true else elemN i r
def Agree (M : List Nat) (f g : Fr) : Prop := ∀ i, elemN i M = false → g i = f i
theorem Agree.refl (M : List Nat) (f : Fr) : Agree M f f := fun _ _ => rfl
theorem Agree.at {M : List Nat} {f g : Fr} (h : Agree M f g) (i : Nat) (hi : elemN i M = false) : g i = f i := h i hi
theorem Agree.upd {M : List Nat} {f g : Fr} (h : Agree M f g) (i : Nat) (v : Value) (hi : elemN i M = true) : Agree M f (upd g i v) := by
  intro j hj
  rw [upd_ne]
  · exact h j hj
  · intro e; subst e; rw [hi] at hj; cases hj
theorem Agree.know {M : List Nat} {f g : Fr} (h : Agree M f g) (i : Nat) (v : Value) (hi : f i = v) : Agree M f (Vc.upd g i v) := by
  intro j hj
  by_cases e : j = i
  · subst e; rw [upd_same, hi]
  · rw [upd_ne _ _ _ _ e]; exact h j hj

/-- the frame of a round: the slots of 'M' as they stand now, the others as they stood at the entry -/
@[reducible] def merge (M : List Nat) (f g : Fr) : Fr := fun i => bif elemN i M then g i else f i
theorem merge_of {M : List Nat} {f g : Fr} (h : Agree M f g) : merge M f g = g := by
  funext i
  simp only [merge]
  cases e : elemN i M
  · exact (h i e).symm
  · rfl
theorem Agree.merge (M : List Nat) (f g : Fr) : Agree M f (Vc.merge M f g) := by
  intro i hi
  simp only [Vc.merge, hi, cond_false]

@[reducible] def subN : List Nat → List Nat → Bool
  | [], _ => true
  | i :: r, M => bif elemN i M then subN r M else false
theorem subN_spec {M : List Nat} : ∀ {M2 : List Nat}, subN M2 M = true → ∀ i, elemN i M2 = true → elemN i M = true
  | [], _, i, hi => by simp [elemN] at hi
  | j :: r, h, i, hi => by
    cases hj : elemN j M
    · simp [subN, hj] at h
    · simp only [subN, hj, cond_true] at h
      by_cases e : i = j
      · subst e; exact hj
      · simp only [elemN, beqF e, cond_false] at hi
        exact subN_spec h i hi
theorem Agree.inner {M M2 : List Nat} {f f2 g : Fr} (hs : subN M2 M = true) (h : Agree M f f2) : Agree M f (Vc.merge M2 f2 g) := by
  intro i hi
  simp only [Vc.merge]
  cases e : elemN i M2
  · exact h i hi
  · rw [subN_spec hs i e] at hi; cases hi

/-- The loop's rule, over frames. -/
theorem r_loop {c : Code} {α : Type} (M : List Nat) (J : α → Fr → World → Prop) (μ : α → Nat) (x0 : α) (h0 : J x0 f w)
    (round : ∀ x g w', J x g w' →
      KF P B n (.code c :: .stop (fun a' w'' => ∃ x' g', μ x' < μ x ∧ Is n g' a' ∧ J x' g' w'' ∧ Agree M f g') :: k) (merge M f g) w') : KF P B n (.code (.loop c) :: k) f w := by
  intro a ha
  refine r_loop_raw (J := fun x a w => ∃ g, Is n g a ∧ J x g w ∧ Agree M f g) μ x0 ⟨f, ha, h0, Agree.refl _ _⟩ ?_
  rintro x a w ⟨g, hg, hJ, hA⟩
  have := round x g w hJ a (by rw [merge_of hA]; exact hg)
  show c.wp P _ a w
  refine wp_mono this ?_
  intro e a w hq
  cases e with
  | normal => obtain ⟨x', g', h1, h2, h3, h4⟩ := hq; exact ⟨x', h1, g', h2, h3, h4⟩
  | exit i => exact hq
  | goto i => exact hq
  | ret => exact hq
  | panic c => exact hq
  | outgrown => exact hq
/-- The round's end. -/
theorem r_again {α : Type} {M : List Nat} {J : α → Fr → World → Prop} {μ : α → Nat} {x : α} {f0 : Fr} (x' : α) (hμ : μ x' < μ x) (hJ : J x' f w) (hA : Agree M f0 f) :
    KF P B n (.stop (fun a' w'' => ∃ x' g', μ x' < μ x ∧ Is n g' a' ∧ J x' g' w'' ∧ Agree M f0 g') :: k) f w := fun _ ha => ⟨x', f, hμ, ha, hJ, hA⟩

/-- Ways meet again: what holds behind 'c' is said once. -/
theorem r_cut {c : Code} (M : List Nat) (J : Fr → World → Prop) (h1 : KF P B n (.code c :: .stop (fun a' w' => ∃ g', Is n g' a' ∧ J g' w' ∧ Agree M f g') :: k) f w)
    (h2 : ∀ g w', J g w' → KF P B n k (merge M f g) w') : KF P B n (.code c :: k) f w := by
  intro a ha
  show c.wp P _ a w
  refine wp_mono (h1 a ha) ?_
  intro e a w hq
  cases e with
  | normal => obtain ⟨g', h3, h4, h5⟩ := hq; exact h2 g' w h4 a (by rw [merge_of h5]; exact h3)
  | exit i => exact hq
  | goto i => exact hq
  | ret => exact hq
  | panic c => exact hq
  | outgrown => exact hq
theorem r_cut_end {M : List Nat} {J : Fr → World → Prop} {f0 : Fr} (hJ : J f w) (hA : Agree M f0 f) : KF P B n (.stop (fun a' w' => ∃ g', Is n g' a' ∧ J g' w' ∧ Agree M f0 g') :: k) f w := fun _ ha => ⟨f, ha, hJ, hA⟩

theorem r_region {id : Nat} {l : List Oper} (h : KL P B n l.toArray k l f w) : KF P B n (.code (.region id l.toArray false) :: k) f w := by
  intro a ha
  show (Code.region id l.toArray false).wp P (Kx P B k) a w
  exact wp_region_lit (h a ha)
theorem r_nil {ops : Array Oper} (h : KF P B n k f w) : KL P B n ops k [] f w := fun a ha => h a ha
end rules

/-! The function. -/
section fn
variable {P : Program} {fn : Func} {R : Ending → World → Prop} {n : Nat} {k : List Kont} {f : Fr} {w : World}
theorem r_ret {v : Value} (hv : ∀ a, Is n f a → (results fn a.tmps).run P w = .ok v w) (hR : R (.returned v) w) : KF P (bodyPost P fn R) n (.code .ret :: k) f w :=
  fun a ha => wp_ret (Kx_ret ⟨ha.defers, v, hv a ha, hR⟩ k)
theorem r_end {v : Value} (hv : ∀ a, Is n f a → (results fn a.tmps).run P w = .ok v w) (hR : R (.returned v) w) : KF P (bodyPost P fn R) n [] f w :=
  fun a ha => ⟨ha.defers, v, hv a ha, hR⟩
theorem res0 (h : fn.results = #[]) : ∀ a, Is n f a → (results fn a.tmps).run P w = .ok (.tuple #[]) w := fun _ _ => results_none h _ _ _
theorem res1 {s : Nat} {v : Value} (h : fn.results = #[.tmp s]) (hs : f s = v) : ∀ a, Is n f a → (results fn a.tmps).run P w = .ok v w := fun a ha => by
  rw [results_tmp h, ha.get, hs]
theorem res2 {s t : Nat} {v u : Value} (h : fn.results = #[.tmp s, .tmp t]) (hs : f s = v) (ht : f t = u) : ∀ a, Is n f a → (results fn a.tmps).run P w = .ok (.tuple #[v, u]) w := fun a ha => by
  rw [results_tmp2 h, ha.get, ha.get, hs, ht]
theorem res3 {s t r : Nat} {v u x : Value} (h : fn.results = #[.tmp s, .tmp t, .tmp r]) (hs : f s = v) (ht : f t = u) (hr : f r = x) :
    ∀ a, Is n f a → (results fn a.tmps).run P w = .ok (.tuple #[v, u, x]) w := fun a ha => by
  simp [results, h, ha.get, hs, ht, hr]
theorem res4 {s t r q : Nat} {v u x y : Value} (h : fn.results = #[.tmp s, .tmp t, .tmp r, .tmp q]) (hs : f s = v) (ht : f t = u) (hr : f r = x) (hq : f q = y) :
    ∀ a, Is n f a → (results fn a.tmps).run P w = .ok (.tuple #[v, u, x, y]) w := fun a ha => by
  simp [results, h, ha.get, hs, ht, hr, hq]

@[reducible] def start : List Value → Nat → Fr
  | [], _ => fun _ => undef
  | v :: vs, i => upd (start vs (i + 1)) i v
theorem start_get : ∀ (l : List Value) (i j : Nat), start l i (i + j) = l.getD j undef ∧ (∀ m, m < i → start l i m = undef)
  | [], i, j => ⟨by simp [start], fun _ _ => rfl⟩
  | v :: vs, i, j => by
    refine ⟨?_, fun m hm => ?_⟩
    · cases j with
      | zero => simp [start, upd]
      | succ j =>
        have := (start_get vs (i + 1) j).1
        simp only [start]
        rw [upd_ne _ _ _ _ (by omega), show i + (j + 1) = i + 1 + j from by omega, this]
        simp
    · simp only [start]
      rw [upd_ne _ _ _ _ (by omega)]
      exact (start_get vs (i + 1) 0).2 m (by omega)
theorem calls_enter {g : FuncId} {c : Code} {args : List Value} (hf : P.funcs[g]? = some fn) (hb : fn.body = some c) (hn : fn.ntmps = n) (hl : Nat.ble args.length n = true)
    (h : KF P (bodyPost P fn R) n [.code c] (start args 0) w) : Calls P g args.toArray w R := by
  have hl' : args.length ≤ n := by simpa using hl
  refine calls_of_wp hf hb (wp_mono (h _ ⟨by simp [hn]; omega, fun i => ?_, rfl⟩) (by intro e a w hq; cases e <;> exact hq))
  have := (start_get args 0 i).1
  rw [Nat.zero_add] at this
  rw [this]
  simp only [Array.getD_eq_getD_getElem?, List.getD_eq_getElem?_getD]
  rw [Array.getElem?_append]
  split
  · simp
  · rename_i hi
    have hi' : args.length ≤ i := by simpa using hi
    rw [List.getElem?_eq_none hi']
    by_cases h2 : i - args.length < fn.ntmps - args.length
    · simp [h2]
    · simp [h2]
end fn

/-! Operations. -/
section ops
variable {P : Program} {B : Exit → Act → World → Prop} {n : Nat} {k : List Kont} {f : Fr} {w : World} {ops : Array Oper} {rest : List Oper}

theorem r_op {o : Oper} {d : Nat} {v : Value} {w' : World} (hg : o.guard = none) (hdst : o.dst = some d) (hd : Nat.blt d n = true) (hrun : (execOp (opv f) o).run P w = .ok (.value v) w')
    (h : KL P B n ops k rest (upd f d v) w') : KL P B n ops k (o :: rest) f w := by
  intro a ha
  refine wpList_plain hg fun K hK => ?_
  unfold Oper.wp
  rw [ha.eval, hrun]
  simp only [Oper.upon]
  refine hK _ _ (h _ ?_)
  rw [hdst]
  exact ha.put hd v
theorem r_op0 {o : Oper} {w' : World} (hg : o.guard = none) (hdst : o.dst = none) (hrun : (execOp (opv f) o).run P w = .ok .skip w')
    (h : KL P B n ops k rest f w') : KL P B n ops k (o :: rest) f w := by
  intro a ha
  refine wpList_plain hg fun K hK => ?_
  unfold Oper.wp
  rw [ha.eval, hrun]
  simp only [Oper.upon]
  refine hK _ _ (h _ ?_)
  rw [hdst]
  exact ha
/-- A value that no slot keeps. -/
theorem r_opv0 {o : Oper} {v : Value} {w' : World} (hg : o.guard = none) (hdst : o.dst = none) (hrun : (execOp (opv f) o).run P w = .ok (.value v) w')
    (h : KL P B n ops k rest f w') : KL P B n ops k (o :: rest) f w := by
  intro a ha
  refine wpList_plain hg fun K hK => ?_
  unfold Oper.wp
  rw [ha.eval, hrun]
  simp only [Oper.upon]
  refine hK _ _ (h _ ?_)
  rw [hdst]
  exact ha
theorem r_opcall {o : Oper} {d : Nat} {g : FuncId} {args : Array Value} {w1 : World} {S : Ending → World → Prop} (hg : o.guard = none) (hdst : o.dst = some d) (hd : Nat.blt d n = true)
    (hrun : (execOp (opv f) o).run P w = .ok (.enter g args) w1) (hc : Calls P g args w1 S)
    (h : ∀ e w', S e w' → ∃ v, e = .returned v ∧ KL P B n ops k rest (upd f d v) w') : KL P B n ops k (o :: rest) f w := by
  intro a ha
  refine wpList_plain hg fun K hK => ?_
  unfold Oper.wp
  rw [ha.eval, hrun]
  simp only [Oper.upon]
  refine hc.mono fun e w' hS => ?_
  obtain ⟨v, rfl, hk⟩ := h e w' hS
  refine hK _ _ (hk _ ?_)
  rw [hdst]
  exact ha.put hd v
theorem r_opcall0 {o : Oper} {g : FuncId} {args : Array Value} {w1 : World} {S : Ending → World → Prop} (hg : o.guard = none) (hdst : o.dst = none)
    (hrun : (execOp (opv f) o).run P w = .ok (.enter g args) w1) (hc : Calls P g args w1 S)
    (h : ∀ e w', S e w' → ∃ v, e = .returned v ∧ KL P B n ops k rest f w') : KL P B n ops k (o :: rest) f w := by
  intro a ha
  refine wpList_plain hg fun K hK => ?_
  unfold Oper.wp
  rw [ha.eval, hrun]
  simp only [Oper.upon]
  refine hc.mono fun e w' hS => ?_
  obtain ⟨v, rfl, hk⟩ := h e w' hS
  refine hK _ _ (hk _ ?_)
  rw [hdst]
  exact ha

/-- A known guard. -/
theorem yielded_is {a : Act} (ha : Is n f a) {j d : Nat} {b : Bool} (hj : (ops[j]?).bind (·.dst) = some d) (hv : f d = .bool b) : yielded ops a.tmps j = some b := by
  have h1 := ha.get d
  rw [hv, Array.getD_eq_getD_getElem?] at h1
  unfold yielded
  rw [hj]
  simp only [Option.bind_some]
  cases h2 : a.tmps[d]? with
  | none => rw [h2] at h1; simp [undef] at h1
  | some v => rw [h2] at h1; simp at h1; subst h1; rfl
theorem r_guard_yes {dst : Option Nat} {op : Op} {t : TypeId} {pos : String} {aft : Array Edge} {j d : Nat} {b : Bool} (hj : (ops[j]?).bind (·.dst) = some d) (hv : f d = .bool b)
    (h : KL P B n ops k (⟨dst, op, t, pos, aft, none⟩ :: rest) f w) : KL P B n ops k (⟨dst, op, t, pos, aft, some (j, b)⟩ :: rest) f w := by
  intro a ha
  have hy := yielded_is ha hj hv
  have := h a ha
  unfold wpList at this ⊢
  simp only [Region.wanted, hy, beq_self_eq_true, if_true] at this ⊢
  exact this
theorem r_guard_no {dst : Option Nat} {op : Op} {t : TypeId} {pos : String} {aft : Array Edge} {j d : Nat} {b c : Bool} (hj : (ops[j]?).bind (·.dst) = some d) (hv : f d = .bool b) (hne : c = !b)
    (hd : (match dst with | some i => Nat.blt i n | none => true) = true)
    (h : KL P B n ops k rest (updo f dst undef) w) : KL P B n ops k (⟨dst, op, t, pos, aft, some (j, c)⟩ :: rest) f w := by
  intro a ha
  have hy := yielded_is ha hj hv
  unfold wpList
  subst hne
  have hw : (some b == some !b) = false := by cases b <;> rfl
  simp only [Region.wanted, hy, hw, Bool.false_eq_true, if_false]
  cases dst with
  | none => exact h a ha
  | some i => exact h _ (ha.put hd _)
theorem r_knowL {i : Nat} {v : Value} {l : List Oper} (hv : f i = v) (h : KL P B n ops k l (upd f i v) w) : KL P B n ops k l f w := fun a ha => h a (ha.know hv)
theorem r_splitL {p : Prop} [Decidable p] {i : Nat} {l : List Oper} (hv : f i = .bool (decide p)) (ht : p → KL P B n ops k l (upd f i (.bool true)) w) (hf : ¬ p → KL P B n ops k l (upd f i (.bool false)) w) :
    KL P B n ops k l f w := by
  by_cases hp : p
  · exact r_knowL (by rw [hv]; simp [hp]) (ht hp)
  · exact r_knowL (by rw [hv]; simp [hp]) (hf hp)
theorem r_splitbL {b : Bool} {i : Nat} {l : List Oper} (hv : f i = .bool b) (ht : b = true → KL P B n ops k l (upd f i (.bool true)) w) (hf : b = false → KL P B n ops k l (upd f i (.bool false)) w) :
    KL P B n ops k l f w := by
  cases hb : b
  · exact r_knowL (by rw [hv, hb]) (hf hb)
  · exact r_knowL (by rw [hv, hb]) (ht hb)
end ops
end Go.Vc
