/-
  Library, plain laws and walks that the statements reach (joined by a program out of smaller texts).
-/
import Derived.WalkKit
import Derived.WalkLawsBesides
import Derived.OneCell
import Derived.Lib.Strings
import Derived.Maps.AppendAt
import Derived.Deep.Quiet
import Derived.Maps.RangeWalk
import Derived.Maps.OwnSet
import Derived.Lib.Bytealg
import Derived.OrdersHeld
import Derived.Deep.RegionHeld3
import Derived.Laws.MakeOwn
import Derived.Laws.Externs
import Derived.Deep.Slices
import Derived.SizedLaws
import Derived.ProofKit
import Derived.Lib.AppendStr
import Derived.Lib.AppendZeros
import Derived.Laws.IdiomStrings
import Derived.Laws.Bits64
import Derived.Sort.OwnSorted
import Derived.Sort.OwnSortedInts
import Derived.Test.YthbcklajlmcifaaGreatRows
import Derived.Sort.KeysCollected
import Derived.Sort.Walk0
import Derived.Lib.ConvBytes
import Derived.ArgAppend
import Derived.Laws.IdiomCopy
set_option linter.unusedVariables false
set_option linter.unusedSimpArgs false
namespace Go.Vc
theorem η {p : Prop} (h : p := by exact rfl) : p := h
theorem ζ {p : Prop} (h : p := by kernel_rfl) : p := h
theorem ω {p : Prop} (h : p := by omega) : p := h
theorem θ {p : Prop} (h : p := by simp; omega) : p := h
theorem δ {p : Prop} (h : p := by first | assumption | omega | (dsimp only; omega) | (simp; done)) : p := h
theorem ε {p q : Prop} (h : p ∨ q := by first | exact .inl (by omega) | exact .inr (by simp)) : p ∨ q := h
end Go.Vc
namespace Go.Vc
open Go Go.RowKit
abbrev Fr := Nat → Value
@[reducible] def upd (f : Fr) (i : Nat) (v : Value) : Fr := fun j => bif Nat.beq j i then v else f j
@[reducible] def opv (f : Fr) : Operand → Value
  | .tmp t => f t
  | .const v => v
  | .global g => .pointer (some ⟨g, 0, none⟩)
  | .func g => .func (.func g) #[] #[]
structure Is (n : Nat) (f : Fr) (a : Act) : Prop where
  size : a.tmps.size = n
  get : ∀ i, a.tmps.getD i undef = f i
  defers : a.defers = []
theorem Is.eval {n : Nat} {f : Fr} {a : Act} (h : Is n f a) : a.eval = opv f := by
  funext x
  cases x with
  | tmp t => exact h.get t
  | const v => rfl
  | global g => rfl
  | func g => rfl
theorem upd_same (f : Fr) (i : Nat) (v : Value) : upd f i v i = v := by simp [upd]
theorem beqF {j i : Nat} (h : j ≠ i) : Nat.beq j i = false := by
  cases e : Nat.beq j i
  · rfl
  · exact absurd (Nat.eq_of_beq_eq_true e) h
theorem upd_ne (f : Fr) (i j : Nat) (v : Value) (h : j ≠ i) : upd f i v j = f j := by simp only [upd, beqF h, cond_false]
theorem Is.put {n : Nat} {f : Fr} {a : Act} (h : Is n f a) {d : Nat} (hd : Nat.blt d n = true) (v : Value) : Is n (upd f d v) (a.put (some d) v) := by
  have hd' : d < n := by simpa using hd
  refine ⟨by simp [Act.put, h.size], fun i => ?_, h.defers⟩
  have hi := h.get i
  simp only [Act.put, Array.getD_eq_getD_getElem?] at *
  by_cases e : i = d
  · subst e
    simp [upd, h.size, hd']
  · rw [upd_ne _ _ _ _ e, Array.getElem?_setIfInBounds_ne (Ne.symm e)]
    exact hi
theorem Is.know {n : Nat} {f : Fr} {a : Act} (h : Is n f a) {i : Nat} {v : Value} (hv : f i = v) : Is n (upd f i v) a := by
  refine ⟨h.size, fun j => ?_, h.defers⟩
  by_cases e : j = i
  · subst e; rw [upd_same, h.get, hv]
  · rw [upd_ne _ _ _ _ e]; exact h.get j
inductive Kont where
  | code (c : Code)
  | blk (id : Nat)
  | stop (I : Act → World → Prop)
section
variable (P : Program) (B : Exit → Act → World → Prop)
def Kx : List Kont → Exit → Act → World → Prop
  | [], e, a, w => B e a w
  | .code c :: k, .normal, a, w => c.wp P (Kx k) a w
  | .code _ :: k, .exit i, a, w => Kx k (.exit i) a w
  | .code _ :: k, .goto i, a, w => Kx k (.goto i) a w
  | .code _ :: k, .ret, a, w => Kx k .ret a w
  | .code _ :: k, .panic c, a, w => Kx k (.panic c) a w
  | .code _ :: k, .outgrown, a, w => Kx k .outgrown a w
  | .blk _ :: k, .normal, a, w => Kx k .normal a w
  | .blk id :: k, .exit i, a, w => if i = id then Kx k .normal a w else Kx k (.exit i) a w
  | .blk _ :: k, .goto i, a, w => Kx k (.goto i) a w
  | .blk _ :: k, .ret, a, w => Kx k .ret a w
  | .blk _ :: k, .panic c, a, w => Kx k (.panic c) a w
  | .blk _ :: k, .outgrown, a, w => Kx k .outgrown a w
  | .stop I :: _, .normal, a, w => I a w
  | .stop _ :: k, .exit i, a, w => Kx k (.exit i) a w
  | .stop _ :: k, .goto i, a, w => Kx k (.goto i) a w
  | .stop _ :: k, .ret, a, w => Kx k .ret a w
  | .stop _ :: k, .panic c, a, w => Kx k (.panic c) a w
  | .stop _ :: k, .outgrown, a, w => Kx k .outgrown a w
variable (n : Nat)
def KF (k : List Kont) (f : Fr) (w : World) : Prop := ∀ a, Is n f a → Kx P B k .normal a w
def KL (ops : Array Oper) (k : List Kont) (l : List Oper) (f : Fr) (w : World) : Prop := ∀ a, Is n f a → wpList P ops (Kx P B k) l a w
end
@[reducible] def exitK (id : Nat) : List Kont → Option (List Kont)
  | [] => none
  | .blk i :: k => bif Nat.beq i id then some k else exitK id k
  | .code _ :: k => exitK id k
  | .stop _ :: k => exitK id k
section rules
variable {P : Program} {B : Exit → Act → World → Prop} {n : Nat} {k : List Kont} {f : Fr} {w : World}
theorem r_seq {x y : Code} (h : KF P B n (.code x :: .code y :: k) f w) : KF P B n (.code (.seq x y) :: k) f w := by
  intro a ha
  show (Code.seq x y).wp P (Kx P B k) a w
  exact wp_seq (wp_mono (h a ha) (by intro e a w hq; cases e <;> exact hq))
theorem r_skip (h : KF P B n k f w) : KF P B n (.code .skip :: k) f w := fun a ha => wp_skip (h a ha)
theorem r_block {id : Nat} {c : Code} (h : KF P B n (.code c :: .blk id :: k) f w) : KF P B n (.code (.block id c) :: k) f w := by
  intro a ha
  show (Code.block id c).wp P (Kx P B k) a w
  exact wp_block (wp_mono (h a ha) (by intro e a w hq; cases e <;> exact hq))
theorem r_blk {id : Nat} (h : KF P B n k f w) : KF P B n (.blk id :: k) f w := h
theorem Kx_exit {id : Nat} {k' : List Kont} {a : Act} : ∀ {k : List Kont}, exitK id k = some k' → Kx P B k' .normal a w → Kx P B k (.exit id) a w
  | [], h, _ => by cases h
  | .blk i :: k, h, hq => by
    by_cases e : id = i
    · subst e
      simp only [exitK, Nat.beq_refl, cond_true, Option.some.injEq] at h
      subst h
      simp only [Kx, if_true]
      exact hq
    · have e' : Nat.beq i id = false := beqF (Ne.symm e)
      simp only [exitK, e', cond_false] at h
      simp only [Kx, if_neg e]
      exact Kx_exit h hq
  | .code _ :: k, h, hq => by
    simp only [Kx]
    exact Kx_exit (k := k) h hq
  | .stop _ :: k, h, hq => by
    simp only [Kx]
    exact Kx_exit (k := k) h hq
theorem r_exit {id : Nat} {k' : List Kont} (hk : exitK id k = some k') (h : KF P B n k' f w) : KF P B n (.code (.exit id) :: k) f w := fun a ha => wp_exit (Kx_exit hk (h a ha))
theorem Kx_ret {a : Act} (h : B .ret a w) : ∀ (k : List Kont), Kx P B k .ret a w
  | [] => h
  | .blk _ :: k => by simp only [Kx]; exact Kx_ret h k
  | .code _ :: k => by simp only [Kx]; exact Kx_ret h k
  | .stop _ :: k => by simp only [Kx]; exact Kx_ret h k
theorem r_cond {c : Operand} {x y : Code} {p : Prop} [Decidable p] (hc : opv f c = .bool (decide p)) (ht : p → KF P B n (.code x :: k) f w) (hf : ¬ p → KF P B n (.code y :: k) f w) :
    KF P B n (.code (.cond c x y) :: k) f w := by
  intro a ha
  have he : a.eval c = .bool (decide p) := by rw [ha.eval]; exact hc
  by_cases hp : p
  · exact wp_cond_true (by rw [he]; simp [hp]) (ht hp a ha)
  · exact wp_cond_false (by rw [he]; simp [hp]) (hf hp a ha)
theorem r_cond_yes {c : Operand} {x y : Code} (hc : opv f c = .bool true) (h : KF P B n (.code x :: k) f w) : KF P B n (.code (.cond c x y) :: k) f w :=
  fun a ha => wp_cond_true (by rw [ha.eval]; exact hc) (h a ha)
theorem r_cond_no {c : Operand} {x y : Code} (hc : opv f c = .bool false) (h : KF P B n (.code y :: k) f w) : KF P B n (.code (.cond c x y) :: k) f w :=
  fun a ha => wp_cond_false (by rw [ha.eval]; exact hc) (h a ha)
theorem r_know {i : Nat} {v : Value} (hv : f i = v) (h : KF P B n k (upd f i v) w) : KF P B n k f w := fun a ha => h a (ha.know hv)
theorem r_loop_raw {c : Code} {α : Type} (J : α → Act → World → Prop) (μ : α → Nat) (x0 : α) {a0 : Act} {w0 : World} (h0 : J x0 a0 w0)
    (round : ∀ x a w, J x a w → Kx P B (.code c :: .stop (fun a' w' => ∃ x', μ x' < μ x ∧ J x' a' w') :: k) .normal a w) : Kx P B (.code (.loop c) :: k) .normal a0 w0 := by
  show (Code.loop c).wp P (Kx P B k) a0 w0
  have hmin : ∀ a w, (∃ x, J x a w) → ∃ x, J x a w ∧ ∀ y, J y a w → μ x ≤ μ y := by
    intro a w ⟨x, hx⟩
    have key : ∀ m x, μ x = m → J x a w → ∃ x, J x a w ∧ ∀ y, J y a w → μ x ≤ μ y := by
      intro m
      induction m using Nat.strongRecOn with
      | _ m ih =>
        intro x hm hx
        by_cases hex : ∃ y, J y a w ∧ μ y < μ x
        · obtain ⟨y, hy, hlt⟩ := hex
          exact ih (μ y) (hm ▸ hlt) y rfl hy
        · exact ⟨x, hx, fun y hy => Nat.le_of_not_lt fun hlt => hex ⟨y, hy, hlt⟩⟩
    exact key _ x rfl hx
  let ν : Act → World → Nat := fun a w => open Classical in if h : ∃ x, J x a w then μ (hmin a w h).choose else 0
  refine wp_loop (fun a w => ∃ x, J x a w) ν ⟨x0, h0⟩ ?_
  intro a w hI
  have hx := (hmin a w hI).choose_spec
  have hν : ν a w = μ (hmin a w hI).choose := by simp only [ν, dif_pos hI]
  refine wp_mono (round _ a w hx.1) ?_
  intro e a' w' hq
  cases e with
  | normal =>
    obtain ⟨x', hlt, hJ⟩ := hq
    refine ⟨⟨x', hJ⟩, ?_⟩
    have hI' : ∃ x, J x a' w' := ⟨x', hJ⟩
    have hν' : ν a' w' = μ (hmin a' w' hI').choose := by simp only [ν, dif_pos hI']
    rw [hν, hν']
    exact Nat.lt_of_le_of_lt ((hmin a' w' hI').choose_spec.2 x' hJ) hlt
  | exit i => exact hq
  | goto i => exact hq
  | ret => exact hq
  | panic c => exact hq
  | outgrown => exact hq
@[reducible] def elemN (i : Nat) : List Nat → Bool
  | [] => false
  | j :: r => bif Nat.beq i j then true else elemN i r
def Agree (M : List Nat) (f g : Fr) : Prop := ∀ i, elemN i M = false → g i = f i
theorem Agree.refl (M : List Nat) (f : Fr) : Agree M f f := fun _ _ => rfl
theorem Agree.at {M : List Nat} {f g : Fr} (h : Agree M f g) (i : Nat) (hi : elemN i M = false) : g i = f i := h i hi
theorem Agree.upd {M : List Nat} {f g : Fr} (h : Agree M f g) (i : Nat) (v : Value) (hi : elemN i M = true) : Agree M f (upd g i v) := by
  intro j hj
  rw [upd_ne]
  · exact h j hj
  · intro e; subst e; rw [hi] at hj; cases hj
theorem Agree.know {M : List Nat} {f g : Fr} (h : Agree M f g) (i : Nat) (v : Value) (hi : f i = v) : Agree M f (Vc.upd g i v) := by
  intro j hj
  by_cases e : j = i
  · subst e; rw [upd_same, hi]
  · rw [upd_ne _ _ _ _ e]; exact h j hj
@[reducible] def merge (M : List Nat) (f g : Fr) : Fr := fun i => bif elemN i M then g i else f i
theorem merge_of {M : List Nat} {f g : Fr} (h : Agree M f g) : merge M f g = g := by
  funext i
  simp only [merge]
  cases e : elemN i M
  · exact (h i e).symm
  · rfl
theorem Agree.merge (M : List Nat) (f g : Fr) : Agree M f (Vc.merge M f g) := by
  intro i hi
  simp only [Vc.merge, hi, cond_false]
@[reducible] def subN : List Nat → List Nat → Bool
  | [], _ => true
  | i :: r, M => bif elemN i M then subN r M else false
theorem subN_spec {M : List Nat} : ∀ {M2 : List Nat}, subN M2 M = true → ∀ i, elemN i M2 = true → elemN i M = true
  | [], _, i, hi => by simp [elemN] at hi
  | j :: r, h, i, hi => by
    cases hj : elemN j M
    · simp [subN, hj] at h
    · simp only [subN, hj, cond_true] at h
      by_cases e : i = j
      · subst e; exact hj
      · simp only [elemN, beqF e, cond_false] at hi
        exact subN_spec h i hi
theorem Agree.inner {M M2 : List Nat} {f f2 g : Fr} (hs : subN M2 M = true) (h : Agree M f f2) : Agree M f (Vc.merge M2 f2 g) := by
  intro i hi
  simp only [Vc.merge]
  cases e : elemN i M2
  · exact h i hi
  · rw [subN_spec hs i e] at hi; cases hi
theorem r_loop {c : Code} {α : Type} (M : List Nat) (J : α → Fr → World → Prop) (μ : α → Nat) (x0 : α) (h0 : J x0 f w)
    (round : ∀ x g w', J x g w' →
      KF P B n (.code c :: .stop (fun a' w'' => ∃ x' g', μ x' < μ x ∧ Is n g' a' ∧ J x' g' w'' ∧ Agree M f g') :: k) (merge M f g) w') : KF P B n (.code (.loop c) :: k) f w := by
  intro a ha
  refine r_loop_raw (J := fun x a w => ∃ g, Is n g a ∧ J x g w ∧ Agree M f g) μ x0 ⟨f, ha, h0, Agree.refl _ _⟩ ?_
  rintro x a w ⟨g, hg, hJ, hA⟩
  have := round x g w hJ a (by rw [merge_of hA]; exact hg)
  show c.wp P _ a w
  refine wp_mono this ?_
  intro e a w hq
  cases e with
  | normal => obtain ⟨x', g', h1, h2, h3, h4⟩ := hq; exact ⟨x', h1, g', h2, h3, h4⟩
  | exit i => exact hq
  | goto i => exact hq
  | ret => exact hq
  | panic c => exact hq
  | outgrown => exact hq
theorem r_again {α : Type} {M : List Nat} {J : α → Fr → World → Prop} {μ : α → Nat} {x : α} {f0 : Fr} (x' : α) (hμ : μ x' < μ x) (hJ : J x' f w) (hA : Agree M f0 f) :
    KF P B n (.stop (fun a' w'' => ∃ x' g', μ x' < μ x ∧ Is n g' a' ∧ J x' g' w'' ∧ Agree M f0 g') :: k) f w := fun _ ha => ⟨x', f, hμ, ha, hJ, hA⟩
theorem r_cut {c : Code} (M : List Nat) (J : Fr → World → Prop) (h1 : KF P B n (.code c :: .stop (fun a' w' => ∃ g', Is n g' a' ∧ J g' w' ∧ Agree M f g') :: k) f w)
    (h2 : ∀ g w', J g w' → KF P B n k (merge M f g) w') : KF P B n (.code c :: k) f w := by
  intro a ha
  show c.wp P _ a w
  refine wp_mono (h1 a ha) ?_
  intro e a w hq
  cases e with
  | normal => obtain ⟨g', h3, h4, h5⟩ := hq; exact h2 g' w h4 a (by rw [merge_of h5]; exact h3)
  | exit i => exact hq
  | goto i => exact hq
  | ret => exact hq
  | panic c => exact hq
  | outgrown => exact hq
theorem r_cut_end {M : List Nat} {J : Fr → World → Prop} {f0 : Fr} (hJ : J f w) (hA : Agree M f0 f) : KF P B n (.stop (fun a' w' => ∃ g', Is n g' a' ∧ J g' w' ∧ Agree M f0 g') :: k) f w := fun _ ha => ⟨f, ha, hJ, hA⟩
theorem r_region {id : Nat} {l : List Oper} (h : KL P B n l.toArray k l f w) : KF P B n (.code (.region id l.toArray false) :: k) f w := by
  intro a ha
  show (Code.region id l.toArray false).wp P (Kx P B k) a w
  exact wp_region_lit (h a ha)
theorem r_nil {ops : Array Oper} (h : KF P B n k f w) : KL P B n ops k [] f w := fun a ha => h a ha
end rules
section fn
variable {P : Program} {fn : Func} {R : Ending → World → Prop} {n : Nat} {k : List Kont} {f : Fr} {w : World}
theorem r_ret {v : Value} (hv : ∀ a, Is n f a → (results fn a.tmps).run P w = .ok v w) (hR : R (.returned v) w) : KF P (bodyPost P fn R) n (.code .ret :: k) f w :=
  fun a ha => wp_ret (Kx_ret ⟨ha.defers, v, hv a ha, hR⟩ k)
theorem res1 {s : Nat} {v : Value} (h : fn.results = #[.tmp s]) (hs : f s = v) : ∀ a, Is n f a → (results fn a.tmps).run P w = .ok v w := fun a ha => by
  rw [results_tmp h, ha.get, hs]
theorem res2 {s t : Nat} {v u : Value} (h : fn.results = #[.tmp s, .tmp t]) (hs : f s = v) (ht : f t = u) : ∀ a, Is n f a → (results fn a.tmps).run P w = .ok (.tuple #[v, u]) w := fun a ha => by
  rw [results_tmp2 h, ha.get, ha.get, hs, ht]
@[reducible] def start : List Value → Nat → Fr
  | [], _ => fun _ => undef
  | v :: vs, i => upd (start vs (i + 1)) i v
theorem start_get : ∀ (l : List Value) (i j : Nat), start l i (i + j) = l.getD j undef ∧ (∀ m, m < i → start l i m = undef)
  | [], i, j => ⟨by simp [start], fun _ _ => rfl⟩
  | v :: vs, i, j => by
    refine ⟨?_, fun m hm => ?_⟩
    · cases j with
      | zero => simp [start, upd]
      | succ j =>
        have := (start_get vs (i + 1) j).1
        simp only [start]
        rw [upd_ne _ _ _ _ (by omega), show i + (j + 1) = i + 1 + j from by omega, this]
        simp
    · simp only [start]
      rw [upd_ne _ _ _ _ (by omega)]
      exact (start_get vs (i + 1) 0).2 m (by omega)
theorem calls_enter {g : FuncId} {c : Code} {args : List Value} (hf : P.funcs[g]? = some fn) (hb : fn.body = some c) (hn : fn.ntmps = n) (hl : Nat.ble args.length n = true)
    (h : KF P (bodyPost P fn R) n [.code c] (start args 0) w) : Calls P g args.toArray w R := by
  have hl' : args.length ≤ n := by simpa using hl
  refine calls_of_wp hf hb (wp_mono (h _ ⟨by simp [hn]; omega, fun i => ?_, rfl⟩) (by intro e a w hq; cases e <;> exact hq))
  have := (start_get args 0 i).1
  rw [Nat.zero_add] at this
  rw [this]
  simp only [Array.getD_eq_getD_getElem?, List.getD_eq_getElem?_getD]
  rw [Array.getElem?_append]
  split
  · simp
  · rename_i hi
    have hi' : args.length ≤ i := by simpa using hi
    rw [List.getElem?_eq_none hi']
    by_cases h2 : i - args.length < fn.ntmps - args.length
    · simp [h2]
    · simp [h2]
end fn
section ops
variable {P : Program} {B : Exit → Act → World → Prop} {n : Nat} {k : List Kont} {f : Fr} {w : World} {ops : Array Oper} {rest : List Oper}
theorem r_op {o : Oper} {d : Nat} {v : Value} {w' : World} (hg : o.guard = none) (hdst : o.dst = some d) (hd : Nat.blt d n = true) (hrun : (execOp (opv f) o).run P w = .ok (.value v) w')
    (h : KL P B n ops k rest (upd f d v) w') : KL P B n ops k (o :: rest) f w := by
  intro a ha
  refine wpList_plain hg fun K hK => ?_
  unfold Oper.wp
  rw [ha.eval, hrun]
  simp only [Oper.upon]
  refine hK _ _ (h _ ?_)
  rw [hdst]
  exact ha.put hd v
theorem r_op0 {o : Oper} {w' : World} (hg : o.guard = none) (hdst : o.dst = none) (hrun : (execOp (opv f) o).run P w = .ok .skip w')
    (h : KL P B n ops k rest f w') : KL P B n ops k (o :: rest) f w := by
  intro a ha
  refine wpList_plain hg fun K hK => ?_
  unfold Oper.wp
  rw [ha.eval, hrun]
  simp only [Oper.upon]
  refine hK _ _ (h _ ?_)
  rw [hdst]
  exact ha
theorem r_opv0 {o : Oper} {v : Value} {w' : World} (hg : o.guard = none) (hdst : o.dst = none) (hrun : (execOp (opv f) o).run P w = .ok (.value v) w')
    (h : KL P B n ops k rest f w') : KL P B n ops k (o :: rest) f w := by
  intro a ha
  refine wpList_plain hg fun K hK => ?_
  unfold Oper.wp
  rw [ha.eval, hrun]
  simp only [Oper.upon]
  refine hK _ _ (h _ ?_)
  rw [hdst]
  exact ha
theorem r_opcall {o : Oper} {d : Nat} {g : FuncId} {args : Array Value} {w1 : World} {S : Ending → World → Prop} (hg : o.guard = none) (hdst : o.dst = some d) (hd : Nat.blt d n = true)
    (hrun : (execOp (opv f) o).run P w = .ok (.enter g args) w1) (hc : Calls P g args w1 S)
    (h : ∀ e w', S e w' → ∃ v, e = .returned v ∧ KL P B n ops k rest (upd f d v) w') : KL P B n ops k (o :: rest) f w := by
  intro a ha
  refine wpList_plain hg fun K hK => ?_
  unfold Oper.wp
  rw [ha.eval, hrun]
  simp only [Oper.upon]
  refine hc.mono fun e w' hS => ?_
  obtain ⟨v, rfl, hk⟩ := h e w' hS
  refine hK _ _ (hk _ ?_)
  rw [hdst]
  exact ha.put hd v
theorem yielded_is {a : Act} (ha : Is n f a) {j d : Nat} {b : Bool} (hj : (ops[j]?).bind (·.dst) = some d) (hv : f d = .bool b) : yielded ops a.tmps j = some b := by
  have h1 := ha.get d
  rw [hv, Array.getD_eq_getD_getElem?] at h1
  unfold yielded
  rw [hj]
  simp only [Option.bind_some]
  cases h2 : a.tmps[d]? with
  | none => rw [h2] at h1; simp [undef] at h1
  | some v => rw [h2] at h1; simp at h1; subst h1; rfl
theorem r_guard_yes {dst : Option Nat} {op : Op} {t : TypeId} {pos : String} {aft : Array Edge} {j d : Nat} {b : Bool} (hj : (ops[j]?).bind (·.dst) = some d) (hv : f d = .bool b)
    (h : KL P B n ops k (⟨dst, op, t, pos, aft, none⟩ :: rest) f w) : KL P B n ops k (⟨dst, op, t, pos, aft, some (j, b)⟩ :: rest) f w := by
  intro a ha
  have hy := yielded_is ha hj hv
  have := h a ha
  unfold wpList at this ⊢
  simp only [Region.wanted, hy, beq_self_eq_true, if_true] at this ⊢
  exact this
theorem r_knowL {i : Nat} {v : Value} {l : List Oper} (hv : f i = v) (h : KL P B n ops k l (upd f i v) w) : KL P B n ops k l f w := fun a ha => h a (ha.know hv)
end ops
end Go.Vc
namespace Go.Vc
open Go Go.RowKit Go.IntWalk
def S (l : List UInt8) : Value := .string ⟨l.toArray⟩
theorem S_inj {a b : List UInt8} (h : S a = S b) : a = b := by
  unfold S at h
  injection h with h
  have := congrArg (fun x : ByteArray => x.data.toList) h
  simpa using this
theorem toList_S (l : List UInt8) : (ByteArray.mk l.toArray).toList = l := by
  exact ByteArray.toList_mk l
theorem size_S (l : List UInt8) : (ByteArray.mk l.toArray).size = l.length := by simp [ByteArray.size]
def gv (g : Prop) [Decidable g] (v : Value) : Value := if g then v else undef
theorem gv_yes {g : Prop} [Decidable g] {v : Value} (h : g) : gv g v = v := if_pos h
theorem gv_no {g : Prop} [Decidable g] {v : Value} (h : ¬ g) : gv g v = undef := if_neg h
section
variable {P : Program} {f : Fr} {w : World} {o : Oper}
theorem gl {g : Prop} {x : Operand} {v : Value} (h : opv f x = v) : g → opv f x = v := fun _ => h
theorem glv {g g' : Prop} [Decidable g'] {x : Operand} {v : Value} (h : opv f x = gv g' v) (hi : g → g') : g → opv f x = v := fun hg => by rw [h, gv_yes (hi hg)]
structure Wanted (f : Fr) (s : Nat) (want : Bool) (g : Prop) : Prop where
  yes : g → f s = .bool want
  no : ¬ g → f s ≠ .bool want
theorem wantT {s : Nat} {q : Prop} [Decidable q] (h : f s = .bool (decide q)) : Wanted f s true q := ⟨fun hq => by simp [h, hq], fun hq => by simp [h, hq]⟩
theorem wantF {s : Nat} {q : Prop} [Decidable q] (h : f s = .bool (decide q)) : Wanted f s false (¬ q) := ⟨fun hq => by simp [h, hq], fun hq => by simp at hq; simp [h, hq]⟩
theorem wantTg {s : Nat} {g q : Prop} [Decidable g] [Decidable q] (h : f s = gv g (.bool (decide q))) : Wanted f s true (g ∧ q) :=
  ⟨fun hq => by rw [h, gv_yes hq.1]; simp [hq.2], fun hq => by
    by_cases hg : g
    · have : ¬ q := fun h => hq ⟨hg, h⟩
      rw [h, gv_yes hg]; simp [this]
    · rw [h, gv_no hg]; simp [undef]⟩
theorem wantFg {s : Nat} {g q : Prop} [Decidable g] [Decidable q] (h : f s = gv g (.bool (decide q))) : Wanted f s false (g ∧ ¬ q) :=
  ⟨fun hq => by rw [h, gv_yes hq.1]; simp [hq.2], fun hq => by
    by_cases hg : g
    · have : q := Classical.byContradiction fun h => hq ⟨hg, h⟩
      rw [h, gv_yes hg]; simp [this]
    · rw [h, gv_no hg]; simp [undef]⟩
theorem run_mv {x : Operand} {v : Value} (ho : o.op = .move x) (hx : opv f x = v) : (execOp (opv f) o).run P w = .ok (.value v) w := by
  unfold execOp; rw [ho]; simp only []; rw [hx]; rfl
theorem run_asg {x : Operand} {v : Value} (ho : o.op = .assign x) (hx : opv f x = v) : (execOp (opv f) o).run P w = .ok (.value v) w := by
  unfold execOp; rw [ho]; simp only []; rw [hx]; rfl
theorem guard_int {op : BinOp} {t : TypeId} {x y : Operand} {k : IntKind} {a b : Int} : (eqGuard op t x y (.int k a) (.int k b)).run P w = .ok () w := by
  cases op <;> rfl
theorem run_bin {op : BinOp} {t t2 : TypeId} {x y : Operand} {k : IntKind} {a b : Int} {v : Value} (ho : o.op = .binOp op t x y t2) (hx : opv f x = .int k a) (hy : opv f y = .int k b)
    (h : (binOp op t (.int k a) (.int k b)).run P w = .ok v w) : (execOp (opv f) o).run P w = .ok (.value v) w := by
  unfold execOp
  rw [ho]
  simp only []
  rw [hx, hy]
  simp [guard_int, h]
theorem run_add {t t2 : TypeId} {x y : Operand} {a b : Int} (ho : o.op = .binOp .add t x y t2) (hx : opv f x = .int .i64 a) (hy : opv f y = .int .i64 b)
    (h1 : -9223372036854775808 ≤ a + b) (h2 : a + b ≤ 9223372036854775807) : (execOp (opv f) o).run P w = .ok (.value (.int .i64 (a + b))) w := by
  refine run_bin ho hx hy ?_
  simp [binOp, Op.intArith, i64_in _ ⟨h1, h2⟩]
theorem run_sub {t t2 : TypeId} {x y : Operand} {a b : Int} (ho : o.op = .binOp .sub t x y t2) (hx : opv f x = .int .i64 a) (hy : opv f y = .int .i64 b)
    (h1 : -9223372036854775808 ≤ a - b) (h2 : a - b ≤ 9223372036854775807) : (execOp (opv f) o).run P w = .ok (.value (.int .i64 (a - b))) w := by
  refine run_bin ho hx hy ?_
  simp [binOp, Op.intArith, i64_in _ ⟨h1, h2⟩]
theorem run_mul {t t2 : TypeId} {x y : Operand} {a b : Int} (ho : o.op = .binOp .mul t x y t2) (hx : opv f x = .int .i64 a) (hy : opv f y = .int .i64 b)
    (h1 : -9223372036854775808 ≤ a * b) (h2 : a * b ≤ 9223372036854775807) : (execOp (opv f) o).run P w = .ok (.value (.int .i64 (a * b))) w := by
  refine run_bin ho hx hy ?_
  simp [binOp, Op.intArith, i64_in _ ⟨h1, h2⟩]
theorem run_addw {t t2 : TypeId} {x y : Operand} {k : IntKind} {a b : Int} (ho : o.op = .binOp .add t x y t2) (hx : opv f x = .int k a) (hy : opv f y = .int k b) :
    (execOp (opv f) o).run P w = .ok (.value (.int k (k.wrap (a + b)))) w := by
  refine run_bin ho hx hy ?_
  simp [binOp, Op.intArith]
theorem run_subw {t t2 : TypeId} {x y : Operand} {k : IntKind} {a b : Int} (ho : o.op = .binOp .sub t x y t2) (hx : opv f x = .int k a) (hy : opv f y = .int k b) :
    (execOp (opv f) o).run P w = .ok (.value (.int k (k.wrap (a - b)))) w := by
  refine run_bin ho hx hy ?_
  simp [binOp, Op.intArith]
theorem run_rem {t t2 : TypeId} {x y : Operand} {k : IntKind} {a b : Int} (ho : o.op = .binOp .rem t x y t2) (hx : opv f x = .int k a) (hy : opv f y = .int k b) (h0 : b ≠ 0) :
    (execOp (opv f) o).run P w = .ok (.value (.int k (a.tmod b))) w := by
  refine run_bin ho hx hy ?_
  simp [binOp, Op.intDiv, h0]
theorem run_quo {t t2 : TypeId} {x y : Operand} {a b : Int} (ho : o.op = .binOp .quo t x y t2) (hx : opv f x = .int .i64 a) (hy : opv f y = .int .i64 b) (h0 : b ≠ 0)
    (h1 : -9223372036854775808 ≤ a.tdiv b) (h2 : a.tdiv b ≤ 9223372036854775807) : (execOp (opv f) o).run P w = .ok (.value (.int .i64 (a.tdiv b))) w := by
  refine run_bin ho hx hy ?_
  simp [binOp, Op.intDiv, h0, i64_in _ ⟨h1, h2⟩]
theorem run_lss {t t2 : TypeId} {x y : Operand} {k : IntKind} {a b : Int} (ho : o.op = .binOp .lss t x y t2) (hx : opv f x = .int k a) (hy : opv f y = .int k b) :
    (execOp (opv f) o).run P w = .ok (.value (.bool (decide (a < b)))) w := run_bin ho hx hy (by simp [binOp, Op.intCmp])
theorem run_leq {t t2 : TypeId} {x y : Operand} {k : IntKind} {a b : Int} (ho : o.op = .binOp .leq t x y t2) (hx : opv f x = .int k a) (hy : opv f y = .int k b) :
    (execOp (opv f) o).run P w = .ok (.value (.bool (decide (a ≤ b)))) w := run_bin ho hx hy (by simp [binOp, Op.intCmp])
theorem run_gtr {t t2 : TypeId} {x y : Operand} {k : IntKind} {a b : Int} (ho : o.op = .binOp .gtr t x y t2) (hx : opv f x = .int k a) (hy : opv f y = .int k b) :
    (execOp (opv f) o).run P w = .ok (.value (.bool (decide (b < a)))) w := run_bin ho hx hy (by simp [binOp, Op.intCmp])
theorem run_geq {t t2 : TypeId} {x y : Operand} {k : IntKind} {a b : Int} (ho : o.op = .binOp .geq t x y t2) (hx : opv f x = .int k a) (hy : opv f y = .int k b) :
    (execOp (opv f) o).run P w = .ok (.value (.bool (decide (b ≤ a)))) w := run_bin ho hx hy (by simp [binOp, Op.intCmp])
theorem run_eql {t t2 : TypeId} {x y : Operand} {k : IntKind} {a b : Int} (ho : o.op = .binOp .eql t x y t2) (hx : opv f x = .int k a) (hy : opv f y = .int k b) :
    (execOp (opv f) o).run P w = .ok (.value (.bool (decide (a = b)))) w := run_bin ho hx hy (by
      simp only [binOp, Op.intCmp, ne_eq, not_true_eq_false, if_false]
      exact congrArg (fun x => Result.ok (Value.bool x) w) (by rw [Bool.eq_iff_iff]; simp))
theorem run_neq {t t2 : TypeId} {x y : Operand} {k : IntKind} {a b : Int} (ho : o.op = .binOp .neq t x y t2) (hx : opv f x = .int k a) (hy : opv f y = .int k b) :
    (execOp (opv f) o).run P w = .ok (.value (.bool (decide (¬ a = b)))) w := run_bin ho hx hy (by
      simp only [binOp, Op.intCmp, ne_eq, not_true_eq_false, if_false]
      exact congrArg (fun x => Result.ok (Value.bool x) w) (by rw [Bool.eq_iff_iff]; simp))
theorem run_binS {op : BinOp} {t t2 : TypeId} {x y : Operand} {a b : List UInt8} {v : Value} (ho : o.op = .binOp op t x y t2) (hx : opv f x = S a) (hy : opv f y = S b)
    (h : (Op.stringOp op ⟨a.toArray⟩ ⟨b.toArray⟩).run P w = .ok v w) : (execOp (opv f) o).run P w = .ok (.value v) w := by
  unfold execOp
  rw [ho]
  simp only []
  rw [hx, hy]
  unfold S
  have hg : (eqGuard op t x y (.string ⟨a.toArray⟩) (.string ⟨b.toArray⟩)).run P w = .ok () w := by cases op <;> rfl
  have hb : binOp op t (.string ⟨a.toArray⟩) (.string ⟨b.toArray⟩) = Op.stringOp op ⟨a.toArray⟩ ⟨b.toArray⟩ := by cases op <;> rfl
  simp [hg, hb, h]
theorem run_seql {t t2 : TypeId} {x y : Operand} {a b : List UInt8} (ho : o.op = .binOp .eql t x y t2) (hx : opv f x = S a) (hy : opv f y = S b) :
    (execOp (opv f) o).run P w = .ok (.value (.bool (decide (a = b)))) w := run_binS ho hx hy (by
      simp only [Op.stringOp, toList_S]
      exact congrArg (fun x => Result.ok (Value.bool x) w) (by rw [Bool.eq_iff_iff]; simp))
theorem run_sneq {t t2 : TypeId} {x y : Operand} {a b : List UInt8} (ho : o.op = .binOp .neq t x y t2) (hx : opv f x = S a) (hy : opv f y = S b) :
    (execOp (opv f) o).run P w = .ok (.value (.bool (decide (¬ a = b)))) w := run_binS ho hx hy (by
      simp only [Op.stringOp, toList_S]
      exact congrArg (fun x => Result.ok (Value.bool x) w) (by rw [Bool.eq_iff_iff]; simp))
theorem run_sadd {t t2 : TypeId} {x y : Operand} {a b : List UInt8} (ho : o.op = .binOp .add t x y t2) (hx : opv f x = S a) (hy : opv f y = S b)
    (hb : a.length + b.length ≤ 9223372036854775807) : (execOp (opv f) o).run P w = .ok (.value (S (a ++ b))) w := run_binS ho hx hy (by
      have : ¬ (9223372036854775807 < (a.length : Int) + (b.length : Int)) := by omega
      have hm : IntKind.i64.max = 9223372036854775807 := by decide
      simp only [Op.stringOp, size_S, hm]
      rw [if_neg (by omega)]
      unfold S
      simp only [Sem.run_pure]
      congr 2)
def blt (a b : List UInt8) : Bool := Op.bytesLess a b
theorem run_slss {t t2 : TypeId} {x y : Operand} {a b : List UInt8} (ho : o.op = .binOp .lss t x y t2) (hx : opv f x = S a) (hy : opv f y = S b) :
    (execOp (opv f) o).run P w = .ok (.value (.bool (blt a b))) w := run_binS ho hx hy (by simp [Op.stringOp, blt])
theorem run_not {t : TypeId} {x : Operand} {q : Prop} [Decidable q] (ho : o.op = .unOp .not t x) (hx : opv f x = .bool (decide q)) :
    (execOp (opv f) o).run P w = .ok (.value (.bool (decide (¬ q)))) w := by
  unfold execOp; rw [ho]; simp only []; rw [hx]; simp [Op.unary]
theorem run_neg {t : TypeId} {x : Operand} {a : Int} (ho : o.op = .unOp .neg t x) (hx : opv f x = .int .i64 a) (h1 : -9223372036854775808 < a) (h2 : a ≤ 9223372036854775807) :
    (execOp (opv f) o).run P w = .ok (.value (.int .i64 (-a))) w := by
  unfold execOp; rw [ho]; simp only []; rw [hx]; simp [Op.unary, Op.intArith, i64_in (-a) ⟨by omega, by omega⟩]
theorem run_pick_and {c a b : Operand} {q r : Prop} [Decidable q] [Decidable r] (ho : o.op = .pick c a b) (hc : opv f c = .bool (decide q)) (ha : q → opv f a = .bool (decide r)) (hb : opv f b = .bool false) :
    (execOp (opv f) o).run P w = .ok (.value (.bool (decide (q ∧ r)))) w := by
  unfold execOp; rw [ho]; simp only []; rw [hc, hb]
  by_cases hq : q
  · simp [asBool, ha hq, hq]
  · simp [asBool, hq]
theorem run_pick_or {c a b : Operand} {q r : Prop} [Decidable q] [Decidable r] (ho : o.op = .pick c a b) (hc : opv f c = .bool (decide q)) (ha : opv f a = .bool true) (hb : ¬ q → opv f b = .bool (decide r)) :
    (execOp (opv f) o).run P w = .ok (.value (.bool (decide (q ∨ r)))) w := by
  unfold execOp; rw [ho]; simp only []; rw [hc, ha]
  by_cases hq : q
  · simp [asBool, hq]
  · simp [asBool, hq, hb hq]
theorem run_extract {t : Operand} {i : Nat} {vs : Array Value} {v : Value} (ho : o.op = .extract t i) (ht : opv f t = .tuple vs) (hv : vs[i]? = some v) :
    (execOp (opv f) o).run P w = .ok (.value v) w := by
  unfold execOp; rw [ho]; simp only []; rw [ht]; simp [Instr.extract, hv]
theorem run_builtin {bi : Builtin} {args : Array Operand} {at_ : Array TypeId} {vs : Array Value} {s : Sem Value} {v : Value} (ho : o.op = .call ⟨.builtin bi, args, at_⟩) (hvs : args.map (opv f) = vs)
    (hb : ∀ cs, builtin bi at_ o.type cs vs = (do pure (.value (← s)))) {w' : World} (h : s.run P w = .ok v w') : (execOp (opv f) o).run P w = .ok (.value v) w' := by
  unfold execOp; rw [ho]; simp only [resolve]; rw [hvs]; simp [invoke, hb, h]
theorem run_lenS {t : TypeId} {x : Operand} {l : List UInt8} (ho : o.op = .call ⟨.builtin .len, #[x], #[t]⟩) (hx : opv f x = S l) (ht : P.underlying t = some .string) :
    (execOp (opv f) o).run P w = .ok (.value (.int .i64 (l.length : Int))) w := by
  refine run_builtin (s := Builtin.len_ #[t] o.type #[S l]) ho (by simp [hx]) (fun cs => rfl) ?_
  unfold S
  simp [Builtin.len_, run_underlying ht, goInt, size_S]
theorem run_lenSl {t e : TypeId} {x : Operand} {ao : Option Addr} {len cap : Nat} (ho : o.op = .call ⟨.builtin .len, #[x], #[t]⟩) (hx : opv f x = .slice ao len cap) (ht : P.underlying t = some (.slice e)) :
    (execOp (opv f) o).run P w = .ok (.value (.int .i64 (len : Int))) w := by
  refine run_builtin (s := Builtin.len_ #[t] o.type #[.slice ao len cap]) ho (by simp [hx]) (fun cs => rfl) ?_
  simp [Builtin.len_, run_underlying ht, goInt]
theorem run_max {ts : Array TypeId} {x y : Operand} {k : IntKind} {a b : Int} (ho : o.op = .call ⟨.builtin .max, #[x, y], ts⟩) (hx : opv f x = .int k a) (hy : opv f y = .int k b) :
    (execOp (opv f) o).run P w = .ok (.value (.int k (max a b))) w := by
  refine run_builtin (s := Builtin.max_ ts o.type #[.int k a, .int k b]) ho (by simp [hx, hy]) (fun cs => rfl) ?_
  have : (if b > a then b else a) = max a b := by omega
  simp [Builtin.max_, Builtin.max2, List.foldlM, this]
theorem run_min {ts : Array TypeId} {x y : Operand} {k : IntKind} {a b : Int} (ho : o.op = .call ⟨.builtin .min, #[x, y], ts⟩) (hx : opv f x = .int k a) (hy : opv f y = .int k b) :
    (execOp (opv f) o).run P w = .ok (.value (.int k (min a b))) w := by
  refine run_builtin (s := Builtin.min_ ts o.type #[.int k a, .int k b]) ho (by simp [hx, hy]) (fun cs => rfl) ?_
  have : (if b < a then b else a) = min a b := by omega
  simp [Builtin.min_, Builtin.min2, List.foldlM, this]
theorem argcons {x : Operand} {l : List Operand} {v : Value} {vs : List Value} (h : opv f x = v) (t : l.map (opv f) = vs) : (x :: l).map (opv f) = v :: vs := by simp [h, t]
theorem run_callf {g : FuncId} {args : List Operand} {ts : Array TypeId} {vs : List Value} {fn : Func} {c : Code} (ho : o.op = .call ⟨.value (.func g), args.toArray, ts⟩) (hvs : args.map (opv f) = vs)
    (hf : P.funcs[g]? = some fn) (hb : fn.body = some c) (hn : (fn.name == "runtime.NumGoroutine") = false) : (execOp (opv f) o).run P w = .ok (.enter g vs.toArray) w := by
  unfold execOp; rw [ho]; simp only [resolve]
  rw [show args.toArray.map (opv f) = vs.toArray from by rw [← hvs]; simp]
  have hn' : ¬ fn.name = "runtime.NumGoroutine" := by simpa using hn
  simp [Deferred.ofValue, invoke, callFunc, hf, hb, hn']
end
section
variable {P : Program} {B : Exit → Act → World → Prop} {n : Nat} {k : List Kont} {f : Fr} {w : World} {ops : Array Oper} {rest : List Oper}
theorem r_g {d : Nat} {op : Op} {t : TypeId} {pos : String} {aft : Array Edge} {j s : Nat} {b : Bool} {g : Prop} [Decidable g] {v : Value} (hj : (ops[j]?).bind (·.dst) = some s) (hw : Wanted f s b g)
    (hd : Nat.blt d n = true) (hrun : g → (execOp (opv f) ⟨some d, op, t, pos, aft, none⟩).run P w = .ok (.value v) w)
    (h : KL P B n ops k rest (upd f d (gv g v)) w) : KL P B n ops k (⟨some d, op, t, pos, aft, some (j, b)⟩ :: rest) f w := by
  by_cases hg : g
  · refine r_guard_yes hj (hw.yes hg) (r_op rfl rfl hd (hrun hg) ?_)
    rw [gv_yes hg] at h
    exact h
  · rw [gv_no hg] at h
    intro a ha
    have hy : (yielded ops a.tmps j == some b) = false := by
      have h1 := ha.get s
      have h2 := hw.no hg
      rw [← h1, Array.getD_eq_getD_getElem?] at h2
      unfold yielded
      rw [hj]
      simp only [Option.bind_some]
      cases h3 : a.tmps[s]? with
      | none => rfl
      | some u =>
        rw [h3] at h2
        simp at h2
        cases u <;> simp_all
        rename_i b'
        intro e
        exact h2 (by rw [← h1, e])
    unfold wpList
    simp only [Region.wanted, hy, Bool.false_eq_true, if_false]
    exact h _ (ha.put hd _)
end
end Go.Vc
namespace Go.Vc
open Go Go.RowKit Go.IntWalk
structure Evo (w w' : World) (E : List Nat) : Prop where
  os : w'.os = w.os
  tape : w'.tape = w.tape
  output : w'.output = w.output
  size : w.heap.size ≤ w'.heap.size
  same : ∀ b, b < w.heap.size → b ∉ E → w'.heap[b]? = w.heap[b]?
theorem Evo.refl (w : World) (E : List Nat) : Evo w w E := ⟨rfl, rfl, rfl, Nat.le_refl _, fun _ _ _ => rfl⟩
theorem Evo.trans {a b c : World} {E E' : List Nat} (h : Evo a b E) (k : Evo b c E') (hE : ∀ x ∈ E', x < a.heap.size → x ∈ E) : Evo a c E :=
  ⟨k.os.trans h.os, k.tape.trans h.tape, k.output.trans h.output, Nat.le_trans h.size k.size, fun x hx hn =>
    (k.same x (Nat.lt_of_lt_of_le hx h.size) (fun hm => hn (hE x hm hx))).trans (h.same x hx hn)⟩
theorem Evo.mono {a b : World} {E E' : List Nat} (h : Evo a b E) (hE : ∀ x ∈ E, x ∈ E') : Evo a b E' := ⟨h.os, h.tape, h.output, h.size, fun x hx hn => h.same x hx (fun hm => hn (hE x hm))⟩
theorem Evo.drew (w : World) (E : List Nat) : Evo w w.drew E := ⟨rfl, rfl, rfl, Nat.le_refl _, fun _ _ _ => rfl⟩
theorem Evo.drewN (w : World) (m : Nat) (E : List Nat) : Evo w (w.drewN m) E := by
  refine ⟨?_, ?_, ?_, ?_, fun _ _ _ => ?_⟩ <;> simp [World.drewN]
theorem Evo.alloc (w : World) (o : Obj) (E : List Nat) : Evo w (w.alloc o) E := ⟨rfl, rfl, rfl, by simp, fun b hb _ => Below.heap_alloc w o b hb⟩
theorem Evo.setCell (w : World) (a : Addr) (v : Value) : Evo w (w.setCell a v) [a.block] := ⟨rfl, rfl, rfl, by simp, fun b _ hn => Below.heap_setCell w a v b (by simpa using hn)⟩
theorem Evo.setRow (w : World) (g : Nat) (cs : Array Value) : Evo w (w.setRow g cs) [g] := ⟨rfl, rfl, rfl, by simp, fun b _ hn => setRow_other w g b cs (by simpa using hn)⟩
theorem Evo.below {w w' : World} (h : Evo w w' []) : Below w.heap.size w w' := ⟨h.os, h.tape, h.output, h.size, fun k hk => h.same k hk (by simp)⟩
theorem Evo.grown {w w' : World} {row : Option Nat} (h : w.grownBy w' row) : Evo w w' row.toList := ⟨h.os, h.tape, h.output, h.size, fun b hb hn => h.block b hb (by
  intro e; apply hn; rw [← e]; simp)⟩
theorem evo_step0 {w0 w w' : World} {X : List Nat} (h : Evo w0 w X) (he : Evo w w' []) : Evo w0 w' X := h.trans he (by simp)
theorem evo_step1 {w0 w w' : World} {X : List Nat} {b : Nat} (h : Evo w0 w X) (he : Evo w w' [b]) (hb : w0.heap.size ≤ b ∨ b ∈ X) : Evo w0 w' X := h.trans he (fun x hx hlt => by
  simp at hx
  subst hx
  rcases hb with hb | hb
  · omega
  · exact hb)
theorem evo_stepo {w0 w w' : World} {X : List Nat} {v : Value} (h : Evo w0 w X) (he : Evo w w' v.ownBlock.toList) (hb : ∀ g, v.ownBlock = some g → w0.heap.size ≤ g ∨ g ∈ X) : Evo w0 w' X := h.trans he (fun x hx hlt => by
  have hv : v.ownBlock = some x := by simpa using hx
  rcases hb x hv with hb | hb
  · omega
  · exact hb)
def tyP (P : Program) (T : TypeId) : Option (Nat × Nat × Option Value) := (P.info? T).map (fun i => (i.size, i.bytes, i.zero))
def aggP (P : Program) (T : TypeId) : Option Bool :=
  match P.underlying T with
  | some (.struct _) => some true
  | some (.array _ _) => some true
  | some _ => some false
  | none => none
def fieldP (P : Program) (T : TypeId) (f : Nat) : Option Nat :=
  match P.underlying T with
  | some (.struct fs) => match fs[f]? with
    | some d => match P.info? d.type with
      | some i => if i.size = 0 then none else some d.offset
      | none => none
    | none => none
  | _ => none
section
variable {P : Program} {w : World} {T : TypeId}
theorem run_sizeOf {n b : Nat} {z : Option Value} (h : tyP P T = some (n, b, z)) : (sizeOf T).run P w = .ok n w := by
  unfold tyP at h
  cases hi : P.info? T with
  | none => rw [hi] at h; cases h
  | some i => rw [hi] at h; simp at h; simp [sizeOf, typeInfo, hi, h.1]
theorem run_zero {n b : Nat} {z : Value} (h : tyP P T = some (n, b, some z)) : (zeroValue T).run P w = .ok z w := by
  unfold tyP at h
  cases hi : P.info? T with
  | none => rw [hi] at h; cases h
  | some i => rw [hi] at h; simp at h; simp [zeroValue, typeInfo, hi, h.2.2]
theorem run_isAgg {b : Bool} (h : aggP P T = some b) : (isAgg T).run P w = .ok b w := by
  unfold aggP at h
  unfold isAgg
  cases hu : P.underlying T with
  | none => rw [hu] at h; cases h
  | some d =>
    rw [hu] at h
    cases d <;> simp_all [run_underlying hu]
theorem run_fieldAt {f off b o : Nat} (h : fieldP P T f = some off) : (Instr.fieldAt T (.pointer (some ⟨b, o, none⟩)) f).run P w = .ok (.pointer (some ⟨b, o + off, none⟩)) w := by
  unfold fieldP at h
  unfold Instr.fieldAt
  cases hu : P.underlying T with
  | none => rw [hu] at h; cases h
  | some d =>
    rw [hu] at h
    cases d <;> try (simp at h; done)
    case struct fs =>
      simp only at h
      cases hf : fs[f]? with
      | none => rw [hf] at h; cases h
      | some d =>
        rw [hf] at h
        simp only at h
        cases hi : P.info? d.type with
        | none => rw [hi] at h; cases h
        | some i =>
          rw [hi] at h
          simp only at h
          by_cases hz : i.size = 0
          · rw [if_pos hz] at h; cases h
          · rw [if_neg hz] at h
            injection h with h
            have hadd : (⟨b, o, none⟩ : Addr).add d.offset = ⟨b, o + off, none⟩ := by
              rw [h]; unfold Addr.add; split <;> simp_all
            simp [run_underlying hu, hf, Instr.sureAddr, fieldPlace, sizeOf, typeInfo, hi, hz, hadd]
end
def At (w : World) (b off : Nat) (cs : List Value) : Prop := ∀ j v, cs[j]? = some v → w.cell? ⟨b, off + j, none⟩ = some v
def Blk (w : World) (b : Nat) (T : TypeId) (cs : List Value) : Prop := w.heap[b]? = some (.cells cs.toArray T (0, 0))
theorem At.cell {w : World} {b off : Nat} {cs : List Value} (h : At w b off cs) (j : Nat) {v : Value} (hj : cs[j]? = some v) : w.cell? ⟨b, off + j, none⟩ = some v := h j v hj
theorem At.evo {w w' : World} {b off : Nat} {cs : List Value} {E : List Nat} (h : At w b off cs) (he : Evo w w' E) (hn : b ∉ E) : At w' b off cs := by
  intro j v hj
  have h1 := h j v hj
  rw [World.cell?_of_block (w := w) (he.same b (World.block_lt_of_cell? w _ h1) hn)]
  exact h1
theorem At.evo0 {w w' : World} {b off : Nat} {cs : List Value} (h : At w b off cs) (he : Evo w w' []) : At w' b off cs := h.evo he (by simp)
theorem At.below {w0 w : World} {b off : Nat} {cs : List Value} (h : At w0 b off cs) (hb : Below w0.heap.size w0 w) : At w b off cs := by
  intro j v hj
  have h1 := h j v hj
  rw [hb.cell (World.block_lt_of_cell? w0 _ h1)]
  exact h1
theorem At.sub {w : World} {b off : Nat} {cs : List Value} (h : At w b off cs) (i : Nat) (ds : List Value) (hd : ∀ j v, ds[j]? = some v → cs[i + j]? = some v) : At w b (off + i) ds := by
  intro j v hj
  have := h (i + j) v (hd j v hj)
  rwa [← Nat.add_assoc] at this
theorem At.part {w : World} {b off : Nat} {cs ds : List Value} (h : At w b off cs) (i m : Nat) (hd : (cs.drop i).take m = ds) : At w b (off + i) ds := by
  refine h.sub i ds (fun j v hj => ?_)
  subst hd
  rw [List.getElem?_take] at hj
  split at hj
  · simpa using hj
  · cases hj
theorem Blk.lt {w : World} {b : Nat} {T : TypeId} {cs : List Value} (h : Blk w b T cs) : b < w.heap.size := by
  unfold Blk at h
  rcases Nat.lt_or_ge b w.heap.size with h1 | h1
  · exact h1
  · rw [Array.getElem?_eq_none h1] at h; cases h
theorem Blk.at {w : World} {b : Nat} {T : TypeId} {cs : List Value} (h : Blk w b T cs) : At w b 0 cs := by
  intro j v hj
  unfold Blk at h
  simp only [World.cell?, h, Nat.zero_add, Option.isSome_none, Bool.false_eq_true, if_false]
  simpa using hj
theorem Blk.evo {w w' : World} {b : Nat} {T : TypeId} {cs : List Value} {E : List Nat} (h : Blk w b T cs) (he : Evo w w' E) (hn : b ∉ E) : Blk w' b T cs := (he.same b h.lt hn).trans h
theorem Blk.evo0 {w w' : World} {b : Nat} {T : TypeId} {cs : List Value} (h : Blk w b T cs) (he : Evo w w' []) : Blk w' b T cs := h.evo he (by simp)
theorem Blk.below {w0 w : World} {b : Nat} {T : TypeId} {cs : List Value} (h : Blk w0 b T cs) (hb : Below w0.heap.size w0 w) : Blk w b T cs := (hb.block b h.lt).trans h
theorem run_load1 {P : Program} {w : World} {T : TypeId} {b off : Nat} {v : Value} (ha : aggP P T = some false) (hc : w.cell? ⟨b, off, none⟩ = some v) :
    (Instr.loadAt T (.pointer (some ⟨b, off, none⟩))).run P w = .ok v w := by
  simp [Instr.loadAt, Instr.sureAddr, loadVar, run_isAgg ha, run_load, hc]
theorem add_lit (b o j : Nat) : (⟨b, o, none⟩ : Addr).add j = ⟨b, o + j, none⟩ := by unfold Addr.add; split <;> simp_all
theorem run_loadN {P : Program} {w : World} {T : TypeId} {b off n bb : Nat} {z : Option Value} {cs : List Value} (ha : aggP P T = some true) (ht : tyP P T = some (n, bb, z)) (hn : cs.length = n) (hc : At w b off cs) :
    (Instr.loadAt T (.pointer (some ⟨b, off, none⟩))).run P w = .ok (.agg cs.toArray) w := by
  have h1 := run_loadCells_list (P := P) w ⟨b, off, none⟩ cs (fun j v hj => by rw [add_lit]; exact hc j v hj)
  rw [hn] at h1
  simp [Instr.loadAt, Instr.sureAddr, loadVar, run_isAgg ha, run_sizeOf ht, h1]
section
variable {P : Program} {B : Exit → Act → World → Prop} {n : Nat} {k : List Kont} {f : Fr} {w : World} {ops : Array Oper} {rest : List Oper} {o : Oper}
theorem run_ld1 {T : TypeId} {x : Operand} {b off : Nat} {v : Value} (ho : o.op = .load T x) (ha : aggP P T = some false) (hx : opv f x = .pointer (some ⟨b, off, none⟩)) (hc : w.cell? ⟨b, off, none⟩ = some v) :
    (execOp (opv f) o).run P w = .ok (.value v) w := by
  unfold execOp; rw [ho]; simp only []; rw [hx]; simp [run_load1 ha hc]
theorem run_ldN {T : TypeId} {x : Operand} {b off m bb : Nat} {z : Option Value} {cs : List Value} (ho : o.op = .load T x) (ha : aggP P T = some true) (ht : tyP P T = some (m, bb, z))
    (hx : opv f x = .pointer (some ⟨b, off, none⟩)) (hn : cs.length = m) (hc : At w b off cs) :
    (execOp (opv f) o).run P w = .ok (.value (.agg cs.toArray)) w := by
  unfold execOp; rw [ho]; simp only []; rw [hx]; simp [run_loadN ha ht hn hc]
theorem run_fa {T : TypeId} {x : Operand} {i b off fo : Nat} (ho : o.op = .fieldAddr T x i) (hx : opv f x = .pointer (some ⟨b, off, none⟩)) (hf : fieldP P T i = some fo) :
    (execOp (opv f) o).run P w = .ok (.value (.pointer (some ⟨b, off + fo, none⟩))) w := by
  unfold execOp; rw [ho]; simp only []; rw [hx]; simp [run_fieldAt hf]
theorem run_nc {x : Operand} {a : Addr} (ho : o.op = .nilCheck x) (hx : opv f x = .pointer (some a)) :
    (execOp (opv f) o).run P w = .ok (.value (.pointer (some a))) w := by
  unfold execOp; rw [ho]; simp only []; rw [hx]; rfl
theorem r_alloc {T d m bb : Nat} {t : TypeId} {pos : String} {aft : Array Edge} {z : Value} {zs : List Value} (ht : tyP P T = some (m, bb, some z)) (hz : z.cells = zs.toArray) (hd : Nat.blt d n = true)
    (h : ∀ b w', b = w.heap.size → Evo w w' [] → Blk w' b T zs → w'.heap.size = b + 1 → KL P B n ops k rest (upd f d (.pointer (some ⟨b, 0, none⟩))) w') :
    KL P B n ops k (⟨some d, .alloc T, t, pos, aft, none⟩ :: rest) f w := by
  refine r_op (v := .pointer (some ⟨w.heap.size, 0, none⟩)) (w' := w.alloc (.cells zs.toArray T)) rfl rfl hd ?_ (h _ _ rfl (Evo.alloc _ _ _) (heap_alloc_new w _) (by simp))
  simp [execOp, Instr.alloc, run_zero ht, newVar, newRow, hz]
theorem r_box {T d : Nat} {t : TypeId} {pos : String} {aft : Array Edge} {x : Operand} {v : Value} {vs : List Value} (hx : opv f x = v) (hv : v.cells = vs.toArray) (hd : Nat.blt d n = true)
    (h : ∀ b w', b = w.heap.size → Evo w w' [] → Blk w' b T vs → w'.heap.size = b + 1 → KL P B n ops k rest (upd f d (.pointer (some ⟨b, 0, none⟩))) w') :
    KL P B n ops k (⟨some d, .box T x, t, pos, aft, none⟩ :: rest) f w := by
  refine r_op (v := .pointer (some ⟨w.heap.size, 0, none⟩)) (w' := w.alloc (.cells vs.toArray T)) rfl rfl hd ?_ (h _ _ rfl (Evo.alloc _ _ _) (heap_alloc_new w _) (by simp))
  simp [execOp, hx, Instr.box, newVar, newRow, hv]
def oneCells (vs : List Value) : Bool := vs.all (·.oneCell')
theorem run_storeB {T T' : TypeId} {b off m bb : Nat} {z : Option Value} {v : Value} {cs vs : List Value} (hb : Blk w b T' cs) (ht : tyP P T = some (m, bb, z)) (hv : v.cells = vs.toArray) (hm : vs.length = m)
    (h1 : oneCells vs = true) (hfit : off + vs.length ≤ cs.length) :
    (Instr.storeAt T (.pointer (some ⟨b, off, none⟩)) v).run P w = .ok () (w.setRow b (cs.take off ++ vs ++ cs.drop (off + vs.length)).toArray) := by
  have h2 := run_storeCells_at P b off T' vs 0 cs.toArray w hb (by simpa using hfit) (fun u hu => by
    have := List.all_eq_true.1 h1 u hu; exact this)
  have h3 : v.cells.size = m := by rw [hv]; simpa using hm
  simp only [Nat.add_zero] at h2
  rw [hv] at h3
  simp only [Instr.storeAt, Instr.sureAddr, storeVar, Sem.run_bind, run_sizeOf ht, hv, Sem.run_pure, Result.andThen_ok]
  simp only [h3, ne_eq, not_true_eq_false, if_false]
  simpa using h2
theorem r_store {T T' : TypeId} {t : TypeId} {pos : String} {aft : Array Edge} {x y : Operand} {b off m bb : Nat} {z : Option Value} {v : Value} {cs vs cs' : List Value}
    (hx : opv f x = .pointer (some ⟨b, off, none⟩)) (hy : opv f y = v) (hb : Blk w b T' cs) (ht : tyP P T = some (m, bb, z)) (hv : v.cells = vs.toArray) (hm : vs.length = m)
    (h1 : oneCells vs = true) (hfit : Nat.ble (off + vs.length) cs.length = true) (hcs : cs.take off ++ vs ++ cs.drop (off + vs.length) = cs')
    (h : ∀ w', Evo w w' [b] → w'.heap.size = w.heap.size → Blk w' b T' cs' → KL P B n ops k rest f w') :
    KL P B n ops k (⟨none, .store T x y, t, pos, aft, none⟩ :: rest) f w := by
  refine r_op0 (w' := w.setRow b cs'.toArray) rfl rfl ?_ (h _ (Evo.setRow _ _ _) (by simp) (setRow_heap w b _ _ _ _ hb))
  have := run_storeB (P := P) hb ht hv hm h1 (by simpa using hfit)
  simp [execOp, hx, hy, this, ← hcs]
theorem r_var {T d : Nat} {t t2 : TypeId} {pos pos2 : String} {aft aft2 : Array Edge} {y : Operand} {m bb : Nat} {z v : Value} {zs vs : List Value}
    (ht : tyP P T = some (m, bb, some z)) (hz : z.cells = zs.toArray) (hd : Nat.blt d n = true) (hy : opv (upd f d undef) y = v) (hyd : ∀ u, opv (upd f d u) y = opv (upd f d undef) y) (hv : v.cells = vs.toArray) (hm : vs.length = m) (hzm : zs.length = m) (h1 : oneCells vs = true)
    (h : ∀ b w', b = w.heap.size → Evo w w' [] → Blk w' b T vs → w'.heap.size = b + 1 → KL P B n ops k rest (upd f d (.pointer (some ⟨b, 0, none⟩))) w') :
    KL P B n ops k (⟨some d, .alloc T, t, pos, aft, none⟩ :: ⟨none, .store T (.tmp d) y, t2, pos2, aft2, none⟩ :: rest) f w := by
  refine r_alloc ht hz hd ?_
  intro b w' hb he hB hs
  refine r_store (b := b) (off := 0) (cs := zs) (vs := vs) (cs' := vs) (by simp only [opv, upd_same]) ((hyd _).trans hy) hB ht hv hm h1 (by simp [hm, hzm]) (by simp [hm, hzm]) ?_
  intro w'' he' hs' hB'
  refine h b w'' hb (he.trans he' (by simp; omega)) hB' (by omega)
theorem map_parts (f : Fr) (ps : List (Nat × Operand)) : (ps.toArray.map fun (i, x) => (i, opv f x)) = (ps.map fun p => (p.1, opv f p.2)).toArray := by simp
def fillL (place : Nat → Option (Nat × Nat)) (cells : List Value) : List (Nat × Value) → Option (List Value)
  | [] => some cells
  | (i, v) :: rest =>
    match place i with
    | none => none
    | some (off, size) => bif Nat.beq v.cells.toList.length size && Nat.ble (off + size) cells.length then fillL place (cells.take off ++ v.cells.toList ++ cells.drop (off + size)) rest else none
theorem fold_set : ∀ (l : List Value) (i off : Nat) (A : Array Value), off + i + l.length ≤ A.size → (l.zipIdx i).foldl (fun cs x => cs.setIfInBounds (off + x.2) x.1) A = (A.toList.take (off + i) ++ l ++ A.toList.drop (off + i + l.length)).toArray
  | [], i, off, A, h => by simp
  | c :: l, i, off, A, h => by
    have h2 := fold_set l (i + 1) off (A.setIfInBounds (off + i) c) (by simp at h ⊢; omega)
    simp only [List.zipIdx_cons, List.foldl_cons]
    rw [h2]
    apply Array.ext'
    simp only [Array.toList_setIfInBounds]
    have hi : off + i < A.toList.length := by simp at h ⊢; omega
    have e1 : off + (i + 1) = off + i + 1 := by omega
    rw [e1, List.take_set, List.take_succ_eq_append_getElem hi, List.set_append_right _ _ (by rw [List.length_take]; omega)]
    have e2 : off + i - (A.toList.take (off + i)).length = 0 := by rw [List.length_take]; omega
    rw [e2, List.drop_set_of_lt (by omega)]
    simp only [List.set_cons_zero, List.length_cons, List.append_assoc, List.cons_append, List.nil_append]
    congr 3
    congr 1
    omega
theorem fill_of {place : Nat → Option (Nat × Nat)} : ∀ (parts : List (Nat × Value)) (cells cells' : List Value), fillL place cells parts = some cells' → Instr.fill place cells.toArray parts = some cells'.toArray
  | [], cells, cells', h => by simp [fillL] at h; subst h; rfl
  | (i, v) :: rest, cells, cells', h => by
    simp only [fillL] at h
    simp only [Instr.fill]
    cases hp : place i with
    | none => rw [hp] at h; cases h
    | some q =>
      obtain ⟨off, size⟩ := q
      rw [hp] at h
      simp only at h ⊢
      cases hb : (Nat.beq v.cells.toList.length size && Nat.ble (off + size) cells.length)
      · rw [hb] at h; cases h
      · rw [hb] at h
        simp only [Bool.and_eq_true, Nat.ble_eq] at hb
        have hsz : v.cells.size = size := by have := Nat.eq_of_beq_eq_true hb.1; simpa using this
        rw [if_neg (by simp [hsz]; omega)]
        have hf := fold_set v.cells.toList 0 off cells.toArray (by simp [hsz]; omega)
        have : v.cells.zipIdx.foldl (fun cs (x : Value × Nat) => cs.setIfInBounds (off + x.2) x.1) cells.toArray = (cells.take off ++ v.cells.toList ++ cells.drop (off + size)).toArray := by
          rw [← Array.foldl_toList, Array.toList_zipIdx, hf]
          simp [hsz]
        have e : (v.cells.zipIdx.foldl (fun cs (c, j) => cs.setIfInBounds (off + j) c) cells.toArray) = (cells.take off ++ v.cells.toList ++ cells.drop (off + size)).toArray := this
        rw [e]
        exact fill_of rest _ _ h
def placesP (P : Program) (T : TypeId) : Option (List (Nat × Nat)) :=
  match P.underlying T with
  | some (.struct fs) => fs.toList.mapM (fun f => (P.info? f.type).map fun i => (f.offset, i.size))
  | some (.array n e) => (P.info? e).map fun i => (List.range n).map (fun j => (j * i.size, i.size))
  | _ => none
theorem fillL_mono {p q : Nat → Option (Nat × Nat)} (h : ∀ i x, p i = some x → q i = some x) : ∀ (parts : List (Nat × Value)) (cells cells' : List Value), fillL p cells parts = some cells' → fillL q cells parts = some cells'
  | [], _, _, hh => hh
  | (i, v) :: rest, cells, cells', hh => by
    simp only [fillL] at hh ⊢
    cases hp : p i with
    | none => rw [hp] at hh; cases hh
    | some x =>
      rw [hp] at hh
      rw [h i x hp]
      obtain ⟨off, size⟩ := x
      simp only at hh ⊢
      cases hb : (Nat.beq v.cells.toList.length size && Nat.ble (off + size) cells.length)
      · rw [hb] at hh; cases hh
      · rw [hb] at hh
        exact fillL_mono h rest _ _ hh
theorem run_bld {T : TypeId} {ps : List (Nat × Operand)} {pv : List (Nat × Value)} {pl : List (Nat × Nat)} {m bb : Nat} {z : Value} {zs cells : List Value} (ho : o.op = .build T ps.toArray) (ht : tyP P T = some (m, bb, some z)) (hz : z.cells = zs.toArray) (hpl : placesP P T = some pl)
    (hps : (ps.map fun p => (p.1, opv f p.2)) = pv) (h : fillL (fun i => pl[i]?) zs pv = some cells) :
    (execOp (opv f) o).run P w = .ok (.value (.agg cells.toArray)) w := by
  unfold execOp; rw [ho]; simp only []
  rw [map_parts, hps]
  have hb : P.built T pv = some cells.toArray := by
    unfold Program.built
    unfold tyP at ht
    unfold placesP at hpl
    cases hi : P.info? T with
    | none => rw [hi] at ht; cases ht
    | some it =>
      rw [hi] at ht
      simp at ht
      cases hu : P.underlying T with
      | none => rw [hu] at hpl; cases hpl
      | some d =>
        rw [hu] at hpl
        cases d <;> try (simp at hpl; done)
        case array n e =>
          simp only at hpl
          cases hie : P.info? e with
          | none => rw [hie] at hpl; cases hpl
          | some ie =>
            rw [hie] at hpl
            simp only [Option.map_some, Option.some.injEq] at hpl
            subst hpl
            simp only [ht.2.2, hie, hz]
            refine fill_of _ _ _ (fillL_mono (fun i x hx => ?_) _ _ _ h)
            simp only [List.getElem?_map] at hx
            cases hr : (List.range n)[i]? with
            | none => rw [hr] at hx; cases hx
            | some j =>
              rw [hr] at hx
              have : j = i := by
                have := List.getElem?_range (n := n) (i := i) (by
                  rcases Nat.lt_or_ge i n with h1 | h1
                  · exact h1
                  · rw [List.getElem?_eq_none (by simpa using h1)] at hr; cases hr)
                rw [this] at hr
                injection hr with hr
                exact hr.symm
              subst this
              simpa using hx
        case struct fs =>
          simp only at hpl
          simp only [ht.2.2, hpl, hz]
          exact fill_of _ _ _ (fillL_mono (fun i x hx => by simpa using hx) _ _ _ h)
  simp [run_build w T pv.toArray cells.toArray (by simpa using hb)]
theorem zeros_cells {z : Value} {zs : List Value} {m : Nat} (hz : z.cells = zs.toArray) (hm : zs.length = m) (hm0 : 0 < m) : ∀ len, (Array.range (len * m)).map (z.cells[· % z.cells.size]!) = ((List.replicate len zs).flatten).toArray
  | 0 => by simp
  | len + 1 => by
    have ih := zeros_cells hz hm hm0 len
    apply Array.ext'
    have hl := congrArg Array.toList ih
    rw [List.replicate_succ', List.flatten_append]
    simp only [Array.toList_map, Array.toList_range, List.flatten_cons, List.flatten_nil, List.append_nil] at hl ⊢
    rw [← hl, Nat.add_mul, Nat.one_mul, List.range_add, List.map_append]
    congr 1
    apply List.ext_getElem?
    intro j
    rw [List.map_map, List.getElem?_map]
    by_cases hj : j < m
    · rw [List.getElem?_range hj]
      have hs : z.cells.size = m := by rw [hz]; simpa using hm
      have e : (len * m + j) % m = j := by rw [Nat.add_comm, Nat.add_mul_mod_self_right, Nat.mod_eq_of_lt hj]
      simp only [Option.map_some, Function.comp, hs, e]
      have hj2 : j < zs.length := by omega
      rw [hz]
      simp [hj2]
    · rw [List.getElem?_eq_none (by simp; omega), List.getElem?_eq_none (by omega)]
      rfl
theorem r_bslice {T E d len m bb : Nat} {t : TypeId} {pos : String} {aft : Array Edge} {ps : List (Nat × Operand)} {pv : List (Nat × Value)} {z : Value} {zs cs : List Value}
    (hu : P.underlying T = some (.slice E)) (ht : tyP P E = some (m, bb, some z)) (hz : z.cells = zs.toArray) (hd : Nat.blt d n = true) (hps : (ps.map fun p => (p.1, opv f p.2)) = pv) (hlen : (Nat.beq zs.length m && Nat.ble 1 m && Nat.ble (len * m) 10000) = true)
    (hf : fillL (fun i => some (i * m, m)) (List.replicate len zs).flatten pv = some cs)
    (h : ∀ b w', b = w.heap.size → Evo w w' [] → Blk w' b E cs → w'.heap.size = b + 1 → KL P B n ops k rest (upd f d (.slice (some ⟨b, 0, none⟩) len len)) w') :
    KL P B n ops k (⟨some d, .buildSlice T len ps.toArray, t, pos, aft, none⟩ :: rest) f w := by
  refine r_op (v := .slice (some ⟨w.heap.size, 0, none⟩) len len) (w' := w.alloc (.cells cs.toArray E)) rfl rfl hd ?_ (h _ _ rfl (Evo.alloc _ _ _) (heap_alloc_new w _) (by simp))
  unfold execOp
  simp only []
  rw [map_parts, hps]
  simp only [Bool.and_eq_true, Nat.ble_eq] at hlen
  have hzl := Nat.eq_of_beq_eq_true hlen.1.1
  have h24 : ¬ (2 ^ 24 < len * m) := by have : (2:Nat) ^ 24 = 16777216 := by decide
                                        omega
  have hfill := fill_of _ _ _ hf
  rw [← zeros_cells hz hzl (by omega) len] at hfill
  by_cases h0 : len * m = 0
  · have hl0 : len = 0 := by
      rcases Nat.mul_eq_zero.1 h0 with h1 | h1
      · exact h1
      · omega
    subst hl0
    have e0 : ∀ g : Nat → Value, (Array.range 0).map g = #[] := fun g => Array.eq_empty_of_size_eq_zero (by simp)
    have hfill' : Instr.fill (fun i => some (i * m, m)) #[] pv = some cs.toArray := by
      rw [show 0 * m = 0 by omega, e0] at hfill
      exact hfill
    simp [Instr.buildSlice, run_underlying hu, run_sizeOf ht, newRow, e0, hfill']
  · simp [Instr.buildSlice, run_underlying hu, run_sizeOf ht, run_zero ht, h24, h0, newRow]
    rw [hfill]
    simp
end
def Row (w : World) (n : Nat) (ao : Option Addr) (b off cap : Nat) (css : List (List Value)) : Prop :=
  (css.length ≤ cap ∧ css.length ≤ 140737488355328) ∧ (css ≠ [] → ao = some ⟨b, off, none⟩) ∧ ∀ (i : Nat) cs, css[i]? = some cs → cs.length = n ∧ At w b (off + i * n) cs
section
variable {w0 w w' : World} {n : Nat} {ao : Option Addr} {b off cap : Nat} {css : List (List Value)} {E : List Nat}
theorem Row.evo (h : Row w n ao b off cap css) (he : Evo w w' E) (hn : b ∉ E) : Row w' n ao b off cap css :=
  ⟨h.1, h.2.1, fun i cs hi => ⟨(h.2.2 i cs hi).1, (h.2.2 i cs hi).2.evo he hn⟩⟩
theorem Row.evo0 (h : Row w n ao b off cap css) (he : Evo w w' []) : Row w' n ao b off cap css := h.evo he (by simp)
theorem Row.bd (h : Row w n ao b off cap css) : css.length ≤ 140737488355328 := h.1.2
theorem Row.addr (h : Row w n ao b off cap css) {i : Nat} (hi : i < css.length) : ao = some ⟨b, off, none⟩ := h.2.1 (by intro e; rw [e] at hi; simp at hi)
theorem Row.take (h : Row w n ao b off cap css) (k : Nat) : Row w n ao b off cap (css.take k) :=
  ⟨by have := h.1; simp; omega, fun hne => h.2.1 (fun e => hne (by simp [e])), fun i cs hi => h.2.2 i cs (by
    rw [List.getElem?_take] at hi
    split at hi
    · exact hi
    · cases hi)⟩
theorem Row.drop (h : Row w n ao b off cap css) (k : Nat) : Row w n (if cap = k then ao else ao.map (·.add (k * n))) b (off + k * n) (cap - k) (css.drop k) := by
  refine ⟨by have := h.1; simp; omega, fun hne => ?_, fun i cs hi => ?_⟩
  · have hlt : k < css.length := by
      rcases Nat.lt_or_ge k css.length with h1 | h1
      · exact h1
      · exact absurd (List.drop_eq_nil_of_le h1) hne
    have := h.1
    rw [if_neg (by omega), h.addr hlt]
    simp [add_lit]
  · have := h.2.2 (k + i) cs (by simpa using hi)
    refine ⟨this.1, ?_⟩
    have h2 := this.2
    rw [Nat.add_mul] at h2
    rwa [Nat.add_assoc]
end
class Enc (α : Type) where
  n : Nat
  enc : α → List Value
  len : ∀ x, (enc x).length = n
  one : ∀ x, oneCells (enc x) = true
  pos : 0 < n
def RowE {α : Type} [Enc α] (w : World) (ao : Option Addr) (b off cap : Nat) (l : List α) : Prop := Row w (Enc.n α) ao b off cap (l.map Enc.enc)
section
variable {α : Type} [Enc α] {w w' : World} {ao : Option Addr} {b off cap : Nat} {l : List α} {E : List Nat}
theorem RowE.evo (h : RowE w ao b off cap l) (he : Evo w w' E) (hn : b ∉ E) : RowE w' ao b off cap l := Row.evo h he hn
theorem RowE.evo0 (h : RowE w ao b off cap l) (he : Evo w w' []) : RowE w' ao b off cap l := Row.evo0 h he
theorem RowE.at (h : RowE w ao b off cap l) (i : Nat) (hi : i < l.length) : At w b (off + i * Enc.n α) (Enc.enc l[i]) :=
  (h.2.2 i _ (by simp [hi])).2
theorem RowE.atD [Inhabited α] (h : RowE w ao b off cap l) (i : Nat) (hi : i < l.length) : At w b (off + i * Enc.n α) (Enc.enc (l.getD i default)) := by
  have := h.at i hi
  rwa [show l.getD i default = l[i] from by simp [List.getD, hi]]
theorem RowE.addr (h : RowE w ao b off cap l) {i : Nat} (hi : i < l.length) : ao = some ⟨b, off, none⟩ := Row.addr h (i := i) (by simpa using hi)
theorem RowE.le (h : RowE w ao b off cap l) : l.length ≤ cap := by have := h.1.1; simpa using this
theorem RowE.bd (h : RowE w ao b off cap l) : l.length ≤ 140737488355328 := by have := h.1.2; simpa using this
theorem RowE.take (h : RowE w ao b off cap l) (k : Nat) : RowE w ao b off cap (l.take k) := by
  have := Row.take h k
  unfold RowE
  rwa [List.map_take]
theorem RowE.drop (h : RowE w ao b off cap l) (k : Nat) : RowE w (if cap = k then ao else ao.map (·.add (k * Enc.n α))) b (off + k * Enc.n α) (cap - k) (l.drop k) := by
  have := Row.drop h k
  unfold RowE
  rwa [List.map_drop]
theorem RowE.nil (w : World) (ao : Option Addr) (b off cap : Nat) : RowE (α := α) w ao b off cap [] := ⟨by simp, by simp, by simp⟩
end
class Rep (α : Type) where
  n : Nat
  rep : World → List Value → α → Prop
  len : ∀ {w cs x}, rep w cs x → cs.length = n
  evo0 : ∀ {w w' cs x}, rep w cs x → Evo w w' [] → rep w' cs x
  pos : 0 < n
def RepL {α : Type} [Rep α] (w : World) (css : List (List Value)) (l : List α) : Prop := css.length = l.length ∧ ∀ (i : Nat) cs x, css[i]? = some cs → l[i]? = some x → Rep.rep w cs x
def RowR {α : Type} [Rep α] (w : World) (ao : Option Addr) (b off cap : Nat) (l : List α) : Prop := ∃ css, Row w (Rep.n α) ao b off cap css ∧ RepL w css l
section
variable {α : Type} [Rep α] {w w' : World} {ao : Option Addr} {b off cap : Nat} {l : List α} {css : List (List Value)}
theorem RepL.evo0 (h : RepL w css l) (he : Evo w w' []) : RepL w' css l := ⟨h.1, fun i cs x h1 h2 => Rep.evo0 (h.2 i cs x h1 h2) he⟩
theorem RepL.nil (w : World) : RepL (α := α) w [] [] := ⟨rfl, by simp⟩
theorem RepL.take (h : RepL w css l) (k : Nat) : RepL w (css.take k) (l.take k) := ⟨by simp [h.1], fun i cs x h1 h2 => by
  rw [List.getElem?_take] at h1 h2
  split at h1
  · rename_i hi
    rw [if_pos hi] at h2
    exact h.2 i cs x h1 h2
  · cases h1⟩
theorem RepL.drop (h : RepL w css l) (k : Nat) : RepL w (css.drop k) (l.drop k) := ⟨by simp [h.1], fun i cs x h1 h2 => h.2 (k + i) cs x (by simpa using h1) (by simpa using h2)⟩
theorem RepL.append {css' : List (List Value)} {l' : List α} (h : RepL w css l) (h' : RepL w css' l') : RepL w (css ++ css') (l ++ l') := ⟨by simp [h.1, h'.1], fun i cs x h1 h2 => by
  by_cases hi : i < css.length
  · rw [List.getElem?_append_left hi] at h1
    rw [List.getElem?_append_left (by rw [← h.1]; exact hi)] at h2
    exact h.2 i cs x h1 h2
  · rw [List.getElem?_append_right (by omega)] at h1
    rw [List.getElem?_append_right (by rw [← h.1]; omega), ← h.1] at h2
    exact h'.2 _ cs x h1 h2⟩
theorem RepL.one {cs : List Value} {x : α} (h : Rep.rep w cs x) : RepL w [cs] [x] := ⟨rfl, fun i cs' x' h1 h2 => by
  cases i with
  | zero => simp at h1 h2; subst h1; subst h2; exact h
  | succ i => simp at h1⟩
theorem RowR.evo0 (h : RowR w ao b off cap l) (he : Evo w w' []) : RowR w' ao b off cap l := let ⟨css, h1, h2⟩ := h; ⟨css, h1.evo0 he, h2.evo0 he⟩
theorem RowR.addr (h : RowR w ao b off cap l) {i : Nat} (hi : i < l.length) : ao = some ⟨b, off, none⟩ := let ⟨_, h1, h2⟩ := h; h1.addr (i := i) (by rw [h2.1]; exact hi)
theorem RowR.le (h : RowR w ao b off cap l) : l.length ≤ cap := let ⟨_, h1, h2⟩ := h; by rw [← h2.1]; exact h1.1.1
theorem RowR.bd (h : RowR w ao b off cap l) : l.length ≤ 140737488355328 := let ⟨_, h1, h2⟩ := h; by rw [← h2.1]; exact h1.1.2
theorem RowR.atD [Inhabited α] (h : RowR w ao b off cap l) (i : Nat) (hi : i < l.length) : ∃ cs, At w b (off + i * Rep.n α) cs ∧ Rep.rep w cs (l.getD i default) := by
  obtain ⟨css, h1, h2⟩ := h
  have hi' : i < css.length := by rw [h2.1]; exact hi
  refine ⟨css[i], (h1.2.2 i _ (by simp [hi'])).2, h2.2 i _ _ (by simp [hi']) (by simp [List.getD, hi])⟩
theorem RowR.take (h : RowR w ao b off cap l) (k : Nat) : RowR w ao b off cap (l.take k) := let ⟨css, h1, h2⟩ := h; ⟨css.take k, h1.take k, h2.take k⟩
theorem RowR.drop (h : RowR w ao b off cap l) (k : Nat) : RowR w (if cap = k then ao else ao.map (·.add (k * Rep.n α))) b (off + k * Rep.n α) (cap - k) (l.drop k) := let ⟨css, h1, h2⟩ := h; ⟨css.drop k, h1.drop k, h2.drop k⟩
theorem RowR.nil (w : World) (ao : Option Addr) (b off cap : Nat) : RowR (α := α) w ao b off cap [] := ⟨[], ⟨by simp, by simp, by simp⟩, RepL.nil w⟩
end
def RowRK {α : Type} [Rep α] (w : World) (E : List Nat) (ao : Option Addr) (b off cap : Nat) (l : List α) : Prop :=
  ∃ css, ∀ w', Evo w w' E → Row w' (Rep.n α) ao b off cap css ∧ RepL w' css l
section
variable {α : Type} [Rep α] {w w' : World} {ao : Option Addr} {b off cap : Nat} {l : List α} {E : List Nat}
theorem RowRK.now (h : RowRK w E ao b off cap l) (he : Evo w w' E) : RowR w' ao b off cap l := let ⟨css, h1⟩ := h; ⟨css, h1 w' he⟩
theorem RowR.keep (h : RowR w ao b off cap l) : RowRK w [] ao b off cap l := let ⟨css, h1, h2⟩ := h; ⟨css, fun _ he => ⟨h1.evo0 he, h2.evo0 he⟩⟩
theorem RowRK.addr (h : RowRK w E ao b off cap l) {i : Nat} (hi : i < l.length) : ao = some ⟨b, off, none⟩ := (h.now (Evo.refl _ _)).addr hi
theorem RowRK.bd (h : RowRK w E ao b off cap l) : l.length ≤ 140737488355328 := (h.now (Evo.refl _ _)).bd
theorem RowRK.take (h : RowRK w E ao b off cap l) (k : Nat) : RowRK w E ao b off cap (l.take k) := let ⟨css, h1⟩ := h; ⟨css.take k, fun w' he => ⟨(h1 w' he).1.take k, (h1 w' he).2.take k⟩⟩
theorem RowRK.drop (h : RowRK w E ao b off cap l) (k : Nat) : RowRK w E (if cap = k then ao else ao.map (·.add (k * Rep.n α))) b (off + k * Rep.n α) (cap - k) (l.drop k) := let ⟨css, h1⟩ := h; ⟨css.drop k, fun w' he => ⟨(h1 w' he).1.drop k, (h1 w' he).2.drop k⟩⟩
theorem RowRK.atD [Inhabited α] (h : RowRK w E ao b off cap l) (i : Nat) (hi : i < l.length) : ∃ cs, ∀ w', Evo w w' E → At w' b (off + i * Rep.n α) cs ∧ Rep.rep w' cs (l.getD i default) := by
  obtain ⟨css, h1⟩ := h
  have hl := (h1 w (Evo.refl _ _)).2.1
  have hi' : i < css.length := by rw [hl]; exact hi
  exact ⟨css[i], fun w' he => ⟨((h1 w' he).1.2.2 i _ (by simp [hi'])).2, (h1 w' he).2.2 i _ _ (by simp [hi']) (by simp [List.getD, hi])⟩⟩
end
theorem keepE {α : Type} [Enc α] {w : World} {ao : Option Addr} {b off cap : Nat} {l : List α} (h : RowE w ao b off cap l) : ∀ w', Evo w w' [] → RowE w' ao b off cap l := fun _ he => h.evo0 he
section
variable {P : Program} {f : Fr} {w : World} {o : Oper}
theorem run_ix {T E : TypeId} {x y : Operand} {ao : Option Addr} {b off len cap m bb : Nat} {z : Option Value} {κ : IntKind} {i : Int} (j : Nat) (ho : o.op = .indexAddr T x y) (hu : P.underlying T = some (.slice E))
    (ht : tyP P E = some (m, bb, z)) (hx : opv f x = .slice ao len cap) (hy : opv f y = .int κ i) (hij : i = (j : Int)) (hlt : j < len) (hao : ao = some ⟨b, off, none⟩) :
    (execOp (opv f) o).run P w = .ok (.value (.pointer (some ⟨b, off + j * m, none⟩))) w := by
  subst hij
  subst hao
  unfold execOp; rw [ho]; simp only []; rw [hx, hy]
  have h1 : (0 : Int) ≤ (j : Int) ∧ (j : Int) < (len : Int) := by omega
  simp [Instr.indexAt, run_underlying hu, asIntOf, run_sizeOf ht, h1, add_lit]
  intro h2
  omega
theorem run_bounds {isS : Bool} {len cap l h : Nat} {lo hi : Option Value} (hlo : (lo = none ∧ l = 0) ∨ ∃ κ, lo = some (.int κ (l : Int))) (hhi : (hi = none ∧ h = len) ∨ ∃ κ, hi = some (.int κ (h : Int)))
    (h1 : l ≤ h) (h2 : h ≤ cap) : (Instr.sliceBounds isS len cap lo hi none).run P w = .ok (l, h, cap) w := by
  have e1 : ∀ κ code, (Instr.sliceBound (.int κ (l : Int)) h code).run P w = .ok l w := fun κ code => by
    rw [run_sliceBound w κ l h code (by omega) (by omega)]; simp
  have e2 : ∀ κ code, (Instr.sliceBound (.int κ (h : Int)) cap code).run P w = .ok h w := fun κ code => by
    rw [run_sliceBound w κ h cap code (by omega) (by omega)]; simp
  rcases hlo with ⟨rfl, rfl⟩ | ⟨κ, rfl⟩ <;> rcases hhi with ⟨rfl, rfl⟩ | ⟨κ2, rfl⟩ <;> simp [Instr.sliceBounds, e1, e2]
theorem run_sl {T E : TypeId} {x : Operand} {ao : Option Addr} {len cap m bb : Nat} {z : Option Value} {lo hi : Option Operand} (l h : Nat) (ho : o.op = .slice T x lo hi none) (hu : P.underlying T = some (.slice E))
    (ht : tyP P E = some (m, bb, z)) (hx : opv f x = .slice ao len cap)
    (hlo : (lo.map (opv f) = none ∧ l = 0) ∨ ∃ κ, lo.map (opv f) = some (.int κ (l : Int))) (hhi : (hi.map (opv f) = none ∧ h = len) ∨ ∃ κ, hi.map (opv f) = some (.int κ (h : Int))) (h1 : l ≤ h) (h2 : h ≤ cap) :
    (execOp (opv f) o).run P w = .ok (.value (.slice (if cap = l then ao else ao.map (·.add (l * m))) (h - l) (cap - l))) w := by
  unfold execOp; rw [ho]; simp only []; rw [hx, Option.map_none]
  have e1 : (Instr.sliceAt T (.slice ao len cap) (lo.map (opv f)) (hi.map (opv f)) none).run P w = .ok (.slice (if cap = l then ao else ao.map (·.add (l * m))) (h - l) (cap - l)) w := by
    have hb := run_bounds (P := P) (w := w) (isS := true) hlo hhi h1 h2
    simp only [Instr.sliceAt, Instr.slice, Sem.run_bind, run_underlying hu, Result.andThen_ok, hb, run_sizeOf ht, Sem.run_pure]
  simp [e1]
theorem run_slS {T : TypeId} {x : Operand} {s : List UInt8} {lo hi : Option Operand} (l h : Nat) (ho : o.op = .slice T x lo hi none) (hu : P.underlying T = some .string) (hx : opv f x = S s)
    (hlo : (lo.map (opv f) = none ∧ l = 0) ∨ ∃ κ, lo.map (opv f) = some (.int κ (l : Int))) (hhi : (hi.map (opv f) = none ∧ h = s.length) ∨ ∃ κ, hi.map (opv f) = some (.int κ (h : Int))) (h1 : l ≤ h) (h2 : h ≤ s.length) :
    (execOp (opv f) o).run P w = .ok (.value (S ((s.drop l).take (h - l)))) w := by
  unfold execOp; rw [ho]; simp only []; rw [hx, Option.map_none]
  have e0 : (ByteArray.mk s.toArray).extract l h = ⟨((s.drop l).take (h - l)).toArray⟩ := by
    have := Lib.extract_eq (ByteArray.mk s.toArray) l h
    simpa using this
  have hsz : (ByteArray.mk s.toArray).size = s.length := size_S s
  have e1 : (Instr.sliceAt T (S s) (lo.map (opv f)) (hi.map (opv f)) none).run P w = .ok (S ((s.drop l).take (h - l))) w := by
    unfold S
    have hb := run_bounds (P := P) (w := w) (isS := false) (len := s.length) (cap := s.length) hlo hhi h1 h2
    simp only [Instr.sliceAt, Instr.slice, Sem.run_bind, run_underlying hu, Result.andThen_ok, hsz, Option.isSome_none, Bool.false_eq_true, if_false, hb, Sem.run_pure, e0]
  simp [e1]
theorem lo0 {f : Fr} : ((none : Option Operand).map (opv f) = none ∧ (0 : Nat) = 0) ∨ ∃ κ, (none : Option Operand).map (opv f) = some (.int κ ((0 : Nat) : Int)) := .inl ⟨rfl, rfl⟩
theorem hi0 {f : Fr} {n : Nat} : ((none : Option Operand).map (opv f) = none ∧ n = n) ∨ ∃ κ, (none : Option Operand).map (opv f) = some (.int κ (n : Int)) := .inl ⟨rfl, rfl⟩
theorem at1 {f : Fr} {l n : Nat} {y : Operand} {κ : IntKind} {i : Int} (h : opv f y = .int κ i) (hi : i = (l : Int)) : ((some y).map (opv f) = none ∧ l = n) ∨ ∃ κ, (some y).map (opv f) = some (.int κ (l : Int)) := .inr ⟨κ, by simp [h, hi]⟩
theorem run_ixS {T : TypeId} {x y : Operand} {s : List UInt8} {κ : IntKind} {i : Int} (j : Nat) (ho : o.op = .index T x y) (hu : P.underlying T = some .string) (hx : opv f x = S s) (hy : opv f y = .int κ i) (hij : i = (j : Int)) (hlt : j < s.length) :
    (execOp (opv f) o).run P w = .ok (.value (.int .u8 ((s.getD j 0).toNat : Int))) w := by
  subst hij
  unfold execOp; rw [ho]; simp only []; rw [hx, hy]
  unfold S
  have hb : (ByteArray.mk s.toArray)[j]? = some (s.getD j 0) := by
    have hsz : j < (ByteArray.mk s.toArray).size := by rw [size_S]; exact hlt
    rw [getElem?_pos (ByteArray.mk s.toArray) j hsz]
    congr 1
    simp [List.getD, hlt]
    rfl
  simp [Instr.index, run_underlying hu, asIntOf, hb]
end
end Go.Vc
namespace Go.Vc
open Go Go.RowKit Go.IntWalk
structure Own (w : World) (base : Nat) (E : TypeId) (m : Nat) (v : Value) (css : List (List Value)) : Prop where
  row : w.ownsRow base E m v css.length css.flatten
  each : ∀ cs ∈ css, cs.length = m
  bd : css.length ≤ 140737488355328
theorem flatten_at : ∀ (css : List (List Value)) (m i j : Nat) (cs : List Value), (∀ cs ∈ css, cs.length = m) → css[i]? = some cs → j < m → css.flatten[i * m + j]? = cs[j]?
  | [], _, _, _, _, _, h, _ => by simp at h
  | c :: css, m, 0, j, cs, hm, h, hj => by
    simp at h
    subst h
    have hc : c.length = m := hm c (by simp)
    simp only [List.flatten_cons, Nat.zero_mul, Nat.zero_add]
    rw [List.getElem?_append_left (by omega)]
  | c :: css, m, i + 1, j, cs, hm, h, hj => by
    have hc : c.length = m := hm c (by simp)
    have ih := flatten_at css m i j cs (fun x hx => hm x (by simp [hx])) (by simpa using h) hj
    simp only [List.flatten_cons]
    have e : (i + 1) * m + j = c.length + (i * m + j) := by rw [hc, Nat.add_mul]; omega
    rw [e, List.getElem?_append_right (by omega)]
    simpa using ih
theorem flatten_length : ∀ (css : List (List Value)) (m : Nat), (∀ cs ∈ css, cs.length = m) → css.flatten.length = css.length * m
  | [], _, _ => by simp
  | c :: css, m, hm => by
    have := flatten_length css m (fun x hx => hm x (by simp [hx]))
    simp only [List.flatten_cons, List.length_append, List.length_cons, this, hm c (by simp), Nat.add_mul]
    omega
section
variable {w w' : World} {base : Nat} {E : TypeId} {m : Nat} {v : Value} {css : List (List Value)}
theorem Own.nil (w : World) (base : Nat) (E : TypeId) (m : Nat) : Own w base E m (.slice none 0 0) [] := ⟨World.ownsRow_nil w base E m, by simp, by simp⟩
theorem Own.form (h : Own w base E m v css) : (v = .slice none 0 0 ∧ css = []) ∨ ∃ g cap, v = .slice (some ⟨g, 0, none⟩) css.length cap ∧ base ≤ g ∧ g < w.heap.size ∧ css.length ≤ cap ∧ cap ≤ maxLen := by
  rcases h.row.2 with ⟨hv, hn⟩ | ⟨g, cap, cur, hv, hb, hg, hn, hc, _⟩
  · exact .inl ⟨hv, List.eq_nil_of_length_eq_zero hn⟩
  · refine .inr ⟨g, cap, hv, hb, ?_, hn, hc⟩
    rcases Nat.lt_or_ge g w.heap.size with h1 | h1
    · exact h1
    · rw [Array.getElem?_eq_none h1] at hg; cases hg
theorem Own.shape (h : Own w base E m v css) : ∃ ao cap, v = .slice ao css.length cap := by
  rcases h.form with ⟨hv, hc⟩ | ⟨g, cap, hv, _⟩
  · exact ⟨none, 0, by rw [hv, hc]; rfl⟩
  · exact ⟨_, cap, hv⟩
theorem Own.block (h : Own w base E m v css) {g : Nat} (hg : v.ownBlock = some g) : base ≤ g ∧ g < w.heap.size := h.row.lt g hg
theorem Own.evo {X : List Nat} (h : Own w base E m v css) (he : Evo w w' X) (hn : ∀ g, v.ownBlock = some g → g ∉ X) : Own w' base E m v css := by
  refine ⟨⟨h.row.1, ?_⟩, h.each, h.bd⟩
  rcases h.row.2 with hv | ⟨g, cap, cur, hv, hb, hg, r⟩
  · exact .inl hv
  · refine .inr ⟨g, cap, cur, hv, hb, ?_, r⟩
    have hlt : g < w.heap.size := (h.row.lt g (by rw [hv]; rfl)).2
    exact (he.same g hlt (hn g (by rw [hv]; rfl))).trans hg
theorem Own.evo0 (h : Own w base E m v css) (he : Evo w w' []) : Own w' base E m v css := h.evo he (by simp)
theorem Own.base_le {base' : Nat} (h : Own w base E m v css) (hb : base' ≤ base) : Own w base' E m v css := by
  refine ⟨⟨h.row.1, ?_⟩, h.each, h.bd⟩
  rcases h.row.2 with hv | ⟨g, cap, cur, hv, hbg, r⟩
  · exact .inl hv
  · exact .inr ⟨g, cap, cur, hv, Nat.le_trans hb hbg, r⟩
theorem Own.rowOf (h : Own w base E m v css) : ∃ ao g cap, v = .slice ao css.length cap ∧ Row w m ao g 0 cap css ∧ (css ≠ [] → v.ownBlock = some g ∧ base ≤ g ∧ g < w.heap.size) := by
  rcases h.row.2 with ⟨hv, hn⟩ | ⟨g, cap, cur, hv, hb, hg, hn, hc, hs, ht⟩
  · have hc : css = [] := List.eq_nil_of_length_eq_zero hn
    subst hc
    exact ⟨none, 0, 0, hv, ⟨by simp, by simp, by simp⟩, by simp⟩
  · refine ⟨some ⟨g, 0, none⟩, g, cap, hv, ⟨⟨hn, h.bd⟩, fun _ => rfl, fun i cs hi => ⟨h.each cs (List.mem_of_getElem? hi), ?_⟩⟩, fun _ => ⟨by rw [hv]; rfl, h.block (by rw [hv]; rfl)⟩⟩
    intro j u hj
    have hjm : j < m := by
      have h1 := h.each cs (List.mem_of_getElem? hi)
      have h2 : j < cs.length := by
        rcases Nat.lt_or_ge j cs.length with h2 | h2
        · exact h2
        · rw [List.getElem?_eq_none h2] at hj; cases hj
      omega
    have hil : i < css.length := by
      rcases Nat.lt_or_ge i css.length with h2 | h2
      · exact h2
      · rw [List.getElem?_eq_none h2] at hi; cases hi
    have h3 := flatten_at css m i j cs h.each hi hjm
    have h4 : i * m + j < css.length * m := by
      have : (i + 1) * m ≤ css.length * m := Nat.mul_le_mul_right _ hil
      rw [Nat.add_mul] at this
      omega
    rw [cell_of_row w g _ cur E (0, 0) hg, Nat.zero_add]
    rw [← ht, List.getElem?_take_of_lt h4] at h3
    rw [← Array.getElem?_toList, h3]
    exact hj
theorem Own.row_of (h : Own w base E m v css) {ao : Option Addr} {len cap : Nat} (hv : v = .slice ao len cap) : len = css.length ∧ ∃ g, Row w m ao g 0 cap css ∧ (css ≠ [] → v.ownBlock = some g ∧ base ≤ g ∧ g < w.heap.size) := by
  obtain ⟨ao', g, cap', hv', hr, hg⟩ := h.rowOf
  rw [hv] at hv'
  injection hv' with h1 h2 h3
  subst h1
  subst h3
  exact ⟨h2, g, hr, hg⟩
end
theorem news_flat {w : World} {m b off : Nat} {news : List (List Value)} (h : ∀ (i : Nat) cs, news[i]? = some cs → cs.length = m ∧ At w b (off + i * m) cs) (hm : 0 < m) :
    ∀ j u, news.flatten[j]? = some u → w.cell? ⟨b, off + j, none⟩ = some u := by
  intro j u hj
  have hall : ∀ cs ∈ news, cs.length = m := fun cs hcs => by
    obtain ⟨i, hi⟩ := List.getElem?_of_mem hcs
    exact (h i cs hi).1
  have hlen := flatten_length news m hall
  have hjl : j < news.flatten.length := by
    rcases Nat.lt_or_ge j news.flatten.length with h1 | h1
    · exact h1
    · rw [List.getElem?_eq_none h1] at hj; cases hj
  have hdm := Nat.div_add_mod j m
  have hmod : j % m < m := Nat.mod_lt _ hm
  have hi : j / m < news.length := by
    rw [hlen] at hjl
    exact (Nat.div_lt_iff_lt_mul hm).2 hjl
  have hc := flatten_at news m (j / m) (j % m) news[j / m] hall (by simp [hi]) hmod
  have e : j / m * m + j % m = j := by rw [Nat.mul_comm]; exact hdm
  rw [e] at hc
  rw [hj] at hc
  have := (h (j / m) news[j / m] (by simp [hi])).2 (j % m) u hc.symm
  rw [Nat.add_assoc, e] at this
  exact this
section
variable {P : Program} {B : Exit → Act → World → Prop} {n : Nat} {k : List Kont} {f : Fr} {w : World} {ops : Array Oper} {rest : List Oper}
theorem info_of {E m bb : Nat} {z : Value} (h : tyP P E = some (m, bb, some z)) : ∃ i, P.info? E = some i ∧ i.size = m ∧ i.bytes = bb ∧ i.zero = some z := by
  unfold tyP at h
  cases hi : P.info? E with
  | none => rw [hi] at h; cases h
  | some i => rw [hi] at h; simp at h; exact ⟨i, rfl, h.1, h.2.1, h.2.2⟩
theorem run_append_0 {T E ty : TypeId} {m bb : Nat} {z : Value} (hu : P.underlying T = some (.slice E)) (ht : tyP P E = some (m, bb, some z)) (base : Nat) {v : Value} {css : List (List Value)}
    (hown : Own w base E m v css) (ao : Option Addr) (cap : Nat) : (Builtin.append_ #[T, T] ty #[v, .slice ao 0 cap]).run P w = .ok v w := by
  obtain ⟨i, hi, hs, hb, hz⟩ := info_of ht
  rcases hown.form with ⟨rfl, _⟩ | ⟨g, c, rfl, _, _, hn, _⟩
  · cases ao <;> simp [Builtin.append_, run_underlying hu, sizeOf, typeInfo, hi, Builtin.lenOf, Builtin.firstCells, loadCells, loadCellsFrom]
  · cases ao <;> simp [Builtin.append_, run_underlying hu, sizeOf, typeInfo, hi, Builtin.lenOf, Builtin.firstCells, loadCells, loadCellsFrom, hn, storeCells]
theorem run_append_row {T E ty : TypeId} {m bb : Nat} {z : Value} (hu : P.underlying T = some (.slice E)) (ht : tyP P E = some (m, bb, some z)) (hzs : z.cells.size = m) (hm : 0 < m) (base : Nat) {v : Value} {css news : List (List Value)}
    (hown : Own w base E m v css) {ao : Option Addr} {b off cap : Nat} (hr : Row w m ao b off cap news) (h1 : ∀ cs ∈ news, oneCells cs = true)
    (hbytes : (css.length + news.length) * bb ≤ 140737488355328) (hlen : css.length + news.length ≤ 140737488355328) (hbase : base ≤ w.heap.size) :
    ∃ v' w', (Builtin.append_ #[T, T] ty #[v, .slice ao news.length cap]).run P w = .ok v' w' ∧ Own w' base E m v' (css ++ news) ∧ Evo w w' v.ownBlock.toList ∧
      (v'.ownBlock = v.ownBlock ∨ v'.ownBlock = some w.heap.size) := by
  cases news with
  | nil => exact ⟨v, w, run_append_0 hu ht base hown ao cap, by simpa using hown, Evo.refl _ _, .inl rfl⟩
  | cons c cs =>
    obtain ⟨i, hi, hs, hb, hz⟩ := info_of ht
    obtain rfl : ao = some ⟨b, off, none⟩ := hr.2.1 (by simp)
    have hall : ∀ x ∈ (c :: cs), x.length = m := fun x hx => by
      obtain ⟨j, hj⟩ := List.getElem?_of_mem hx
      exact (hr.2.2 j x hj).1
    obtain ⟨v', w', hrun, hown', hg, _, hloc⟩ := run_append_own_at (P := P) (w := w) base T ty E i z m bb hu hi hz hs hb hzs hm v css.length css.flatten hown.row ⟨b, off, none⟩ (c :: cs).length cap (c :: cs).flatten
      (flatten_length _ _ hall) (fun j u hj => by rw [add_lit]; exact news_flat hr.2.2 hm j u hj) (fun u hu => by
        obtain ⟨x, hx, hux⟩ := List.mem_flatten.1 hu
        exact List.all_eq_true.1 (h1 x hx) u hux) (by unfold maxLen; omega) hbytes hbase
    refine ⟨v', w', hrun, ⟨by simpa [List.flatten_append] using hown', fun x hx => ?_, by simpa using hlen⟩, Evo.grown hg, hloc⟩
    rcases List.mem_append.1 hx with hx | hx
    · exact hown.each x hx
    · exact hall x hx
theorem r_append {T E d m bb : Nat} {t : TypeId} {pos : String} {aft : Array Edge} {x y : Operand} {z : Value} {base : Nat} {v : Value} {css news : List (List Value)} {ao : Option Addr} {b off len cap : Nat}
    (hd : Nat.blt d n = true) (hu : P.underlying T = some (.slice E)) (ht : tyP P E = some (m, bb, some z)) (hzs : z.cells.size = m) (hm : 0 < m)
    (hown : Own w base E m v css) (hx : opv f x = v) (hy : opv f y = .slice ao len cap) (hr : Row w m ao b off cap news) (hl : len = news.length) (h1 : ∀ cs ∈ news, oneCells cs = true)
    (hbytes : (css.length + news.length) * bb ≤ 140737488355328) (hlen : css.length + news.length ≤ 140737488355328) (hbase : base ≤ w.heap.size)
    (h : ∀ v' w', Evo w w' v.ownBlock.toList → Own w' base E m v' (css ++ news) → (v'.ownBlock = v.ownBlock ∨ v'.ownBlock = some w.heap.size) → KL P B n ops k rest (upd f d v') w') :
    KL P B n ops k (⟨some d, .call ⟨.builtin .append, #[x, y], #[T, T]⟩, t, pos, aft, none⟩ :: rest) f w := by
  subst hl
  obtain ⟨v', w', hrun, hown', he, hloc⟩ := run_append_row (P := P) (ty := t) hu ht hzs hm base hown (cap := cap) hr h1 hbytes hlen hbase
  refine r_op rfl rfl hd ?_ (h v' w' he hown' hloc)
  exact run_builtin (s := Builtin.append_ #[T, T] t #[v, .slice ao news.length cap]) rfl (by simp [hx, hy]) (fun cs => rfl) hrun
theorem r_append1 {T E d d1 m bb : Nat} {t t1 : TypeId} {pos pos1 : String} {aft aft1 : Array Edge} {x e : Operand} {z : Value} {base : Nat} {v u : Value} {css : List (List Value)} {us : List Value}
    (hd : Nat.blt d n = true) (hd1 : Nat.blt d1 n = true) (hu : P.underlying T = some (.slice E)) (ht : tyP P E = some (m, bb, some z)) (hzs : z.cells.size = m) (hm : (Nat.ble 1 m && Nat.ble m 10000) = true)
    (hown : Own w base E m v css) (hx : ∀ q, opv (upd f d1 q) x = v) (he : opv f e = u) (hus : u.cells = us.toArray) (hml : us.length = m) (h1 : oneCells us = true)
    (hbytes : (css.length + 1) * bb ≤ 140737488355328) (hlen : css.length + 1 ≤ 140737488355328) (hbase : base ≤ w.heap.size)
    (h : ∀ q v' w', Evo w w' v.ownBlock.toList → Own w' base E m v' (css ++ [us]) → (v'.ownBlock = v.ownBlock ∨ ∃ g, v'.ownBlock = some g ∧ w.heap.size ≤ g) → KL P B n ops k rest (upd (upd f d1 q) d v') w') :
    KL P B n ops k (⟨some d1, .buildSlice T 1 #[(0, e)], t1, pos1, aft1, none⟩ :: ⟨some d, .call ⟨.builtin .append, #[x, .tmp d1], #[T, T]⟩, t, pos, aft, none⟩ :: rest) f w := by
  simp only [Bool.and_eq_true, Nat.ble_eq] at hm
  obtain ⟨zs, hz⟩ : ∃ zs : List Value, z.cells = zs.toArray := ⟨z.cells.toList, by simp⟩
  have hzl : zs.length = m := by rw [hz] at hzs; simpa using hzs
  have hsu : u.cells.toList.length = m := by rw [hus]; simpa using hml
  refine r_bslice (cs := us) (zs := zs) (pv := [(0, u)]) hu ht hz hd1 (by simp [he]) (by simp [hzl]; omega) ?_ ?_
  · have h1 : Nat.beq u.cells.toList.length m = true := by rw [hsu]; simp
    have h2 : Nat.ble (0 * m + m) (List.replicate 1 zs).flatten.length = true := by simp [hzl]
    simp only [fillL, h1, h2, Bool.and_self, cond_true]
    congr 1
    rw [hus]
    simp [hzl]
  intro b w1 hb hev hB hs
  have hrow : Row w1 m (some ⟨b, 0, none⟩) b 0 1 [us] := ⟨by simp, fun _ => rfl, fun i cs hi => by
    cases i with
    | zero => simp at hi; subst hi; exact ⟨hml, by simpa using hB.at⟩
    | succ i => simp at hi⟩
  refine r_append (len := 1) (cap := 1) (b := b) (off := 0) (news := [us]) hd hu ht hzs hm.1 (hown.evo0 hev) (hx _) (by simp only [opv, upd_same]) hrow rfl (by simpa using h1) (by simpa using hbytes) (by simpa using hlen) (Nat.le_trans hbase hev.size) ?_
  intro v' w' he' hown' hloc
  refine h _ v' w' ((hev.mono (by simp)).trans he' (fun x hx _ => hx)) hown' ?_
  rcases hloc with hloc | hloc
  · exact .inl hloc
  · exact .inr ⟨_, hloc, hev.size⟩
end
def OwnE {α : Type} [Enc α] (w : World) (base : Nat) (E : TypeId) (v : Value) (l : List α) : Prop := Own w base E (Enc.n α) v (l.map Enc.enc)
section
variable {α : Type} [Enc α] {w w' : World} {base : Nat} {E : TypeId} {v : Value} {l : List α}
theorem OwnE.nil (w : World) (base : Nat) (E : TypeId) : OwnE (α := α) w base E (.slice none 0 0) [] := Own.nil w base E _
theorem OwnE.form (h : OwnE w base E v l) : (v = .slice none 0 0 ∧ l = []) ∨ ∃ g cap, v = .slice (some ⟨g, 0, none⟩) l.length cap ∧ base ≤ g ∧ g < w.heap.size ∧ l.length ≤ cap ∧ cap ≤ maxLen := by
  rcases Own.form h with ⟨h1, h2⟩ | ⟨g, cap, h1, h2⟩
  · exact .inl ⟨h1, by simpa using h2⟩
  · exact .inr ⟨g, cap, by simpa using h1, by simpa using h2⟩
theorem OwnE.shape (h : OwnE w base E v l) : ∃ ao cap, v = .slice ao l.length cap := by
  obtain ⟨ao, cap, h1⟩ := Own.shape h
  exact ⟨ao, cap, by simpa using h1⟩
theorem OwnE.bd (h : OwnE w base E v l) : l.length ≤ 140737488355328 := by have := Own.bd h; simpa using this
theorem OwnE.block (h : OwnE w base E v l) {g : Nat} (hg : v.ownBlock = some g) : base ≤ g ∧ g < w.heap.size := Own.block h hg
theorem OwnE.evo {X : List Nat} (h : OwnE w base E v l) (he : Evo w w' X) (hn : ∀ g, v.ownBlock = some g → g ∉ X) : OwnE w' base E v l := Own.evo h he hn
theorem OwnE.evo0 (h : OwnE w base E v l) (he : Evo w w' []) : OwnE w' base E v l := Own.evo0 h he
theorem OwnE.base_le {base' : Nat} (h : OwnE w base E v l) (hb : base' ≤ base) : OwnE w base' E v l := Own.base_le h hb
theorem run_lenOE {P : Program} {f : Fr} {o : Oper} {t e : TypeId} {x : Operand} (ho : o.op = .call ⟨.builtin .len, #[x], #[t]⟩) (hx : opv f x = v) (ht : P.underlying t = some (.slice e))
    (hown : OwnE w base E v l) : (execOp (opv f) o).run P w = .ok (.value (.int .i64 (l.length : Int))) w := by
  obtain ⟨ao, cap, rfl⟩ := hown.shape
  exact run_lenSl ho hx ht
theorem r_append1E {P : Program} {B : Exit → Act → World → Prop} {n : Nat} {k : List Kont} {f : Fr} {ops : Array Oper} {rest : List Oper} {T d d1 bb m : Nat} {t t1 : TypeId} {pos pos1 : String} {aft aft1 : Array Edge} {x e : Operand} {z u : Value} {y : α}
    (hd : Nat.blt d n = true) (hd1 : Nat.blt d1 n = true) (hu : P.underlying T = some (.slice E)) (ht : tyP P E = some (m, bb, some z)) (hm : (m == Enc.n α && z.cells.size == Enc.n α && Nat.ble m 10000) = true)
    (hown : OwnE w base E v l) (hx : ∀ q, opv (upd f d1 q) x = v) (he : opv f e = u) (hus : u.cells = (Enc.enc y).toArray)
    (hbytes : (l.length + 1) * bb ≤ 140737488355328) (hlen : l.length + 1 ≤ 140737488355328) (hbase : base ≤ w.heap.size)
    (h : ∀ q v' w', Evo w w' v.ownBlock.toList → OwnE w' base E v' (l ++ [y]) → (v'.ownBlock = v.ownBlock ∨ ∃ g, v'.ownBlock = some g ∧ w.heap.size ≤ g) → KL P B n ops k rest (upd (upd f d1 q) d v') w') :
    KL P B n ops k (⟨some d1, .buildSlice T 1 #[(0, e)], t1, pos1, aft1, none⟩ :: ⟨some d, .call ⟨.builtin .append, #[x, .tmp d1], #[T, T]⟩, t, pos, aft, none⟩ :: rest) f w := by
  simp only [Bool.and_eq_true, beq_iff_eq, Nat.ble_eq] at hm
  obtain ⟨⟨rfl, h2⟩, h3⟩ := hm
  have hp := Enc.pos (α := α)
  refine r_append1 (us := Enc.enc y) hd hd1 hu ht h2 (by simp; omega) hown hx he hus (Enc.len y) (Enc.one y) (by simpa using hbytes) (by simpa using hlen) hbase ?_
  intro q v' w' h4 h5 h6
  refine h q v' w' h4 ?_ h6
  unfold OwnE
  simpa using h5
theorem r_appendE {P : Program} {B : Exit → Act → World → Prop} {n : Nat} {k : List Kont} {f : Fr} {ops : Array Oper} {rest : List Oper} {T d bb m : Nat} {t : TypeId} {pos : String} {aft : Array Edge} {x y : Operand} {z : Value} {ao : Option Addr} {b off cap len : Nat} {l' : List α}
    (hd : Nat.blt d n = true) (hu : P.underlying T = some (.slice E)) (ht : tyP P E = some (m, bb, some z)) (hm : (m == Enc.n α && z.cells.size == Enc.n α) = true)
    (hown : OwnE w base E v l) (hx : opv f x = v) (hy : opv f y = .slice ao len cap) (hr : RowE w ao b off cap l') (hl : len = l'.length)
    (hbytes : (l.length + l'.length) * bb ≤ 140737488355328) (hlen : l.length + l'.length ≤ 140737488355328) (hbase : base ≤ w.heap.size)
    (h : ∀ v' w', Evo w w' v.ownBlock.toList → OwnE w' base E v' (l ++ l') → (v'.ownBlock = v.ownBlock ∨ v'.ownBlock = some w.heap.size) → KL P B n ops k rest (upd f d v') w') :
    KL P B n ops k (⟨some d, .call ⟨.builtin .append, #[x, y], #[T, T]⟩, t, pos, aft, none⟩ :: rest) f w := by
  simp only [Bool.and_eq_true, beq_iff_eq] at hm
  obtain ⟨rfl, h2⟩ := hm
  refine r_append (news := l'.map Enc.enc) hd hu ht h2 Enc.pos hown hx hy hr (by simpa using hl) (fun cs hcs => ?_) (by simpa using hbytes) (by simpa using hlen) hbase ?_
  · obtain ⟨a, _, rfl⟩ := List.mem_map.1 hcs
    exact Enc.one a
  intro v' w' h4 h5 h6
  refine h v' w' h4 ?_ h6
  unfold OwnE
  rw [List.map_append]
  exact h5
theorem run_slE {l' : List α} {P : Program} {f : Fr} {o : Oper} {T m bb : Nat} {z : Option Value} {x : Operand} {ao : Option Addr} {b off cap : Nat} {lo hi : Option Operand} (i j : Nat) (ho : o.op = .slice T x lo hi none) (hu : P.underlying T = some (.slice E))
    (ht : tyP P E = some (m, bb, z)) (hx : opv f x = .slice ao l.length cap) (hr : RowE w ao b off cap l)
    (hlo : (lo.map (opv f) = none ∧ i = 0) ∨ ∃ κ, lo.map (opv f) = some (.int κ (i : Int))) (hhi : (hi.map (opv f) = none ∧ j = l.length) ∨ ∃ κ, hi.map (opv f) = some (.int κ (j : Int))) (h1 : i ≤ j) (h2 : j ≤ l.length) (hl' : (l.take j).drop i = l') :
    (execOp (opv f) o).run P w = .ok (.value (.slice (if cap = i then ao else ao.map (·.add (i * m))) l'.length (cap - i))) w := by
  have := hr.le
  subst hl'
  rw [run_sl (w := w) i j ho hu ht hx hlo hhi h1 (by omega)]
  simp
  omega
theorem OwnE.rowOf (h : OwnE w base E v l) : ∃ ao g cap, v = .slice ao l.length cap ∧ RowE w ao g 0 cap l ∧ (l ≠ [] → v.ownBlock = some g ∧ base ≤ g ∧ g < w.heap.size) := by
  obtain ⟨ao, g, cap, h1, h2, h3⟩ := Own.rowOf h
  exact ⟨ao, g, cap, by simpa using h1, h2, fun hl => h3 (by simpa using hl)⟩
end
end Go.Vc
namespace Go.Vc
open Go Go.RowKit Go.IntWalk
section
variable {P : Program} {B : Exit → Act → World → Prop} {n : Nat} {k : List Kont} {f : Fr} {w : World} {ops : Array Oper} {rest : List Oper} {C : World → Prop} {Q : Fr → Prop}
def KQ (P : Program) (n : Nat) (C : World → Prop) (Q : Fr → Prop) (ops : Array Oper) (l : List Oper) (f : Fr) : Prop :=
  ∀ a, Is n f a → wpQuiet P ops C (fun a' => ∃ f', Is n f' a' ∧ Q f') l a
theorem r_qregion {id : Nat} {l : List Oper} (hm : P.follows .mixedOrders = true) (hB : Region.lexB .any l.toArray = true)
    (h : KQ P n (fun w' => Evo w w' []) (fun f' => ∀ w', Evo w w' [] → KF P B n k f' w') l.toArray l f) : KF P B n (.code (.region id l.toArray true) :: k) f w := by
  intro a ha
  show (Code.region id l.toArray true).wp P (Kx P B k) a w
  refine wp_region_quiet (C := fun w' => Evo w w' []) hm hB (Evo.drew w []) ?_
  have := h a ha
  have mono : ∀ (l : List Oper) (a : Act) (Q1 Q2 : Act → Prop), (∀ a, Q1 a → Q2 a) → wpQuiet P l.toArray (fun w' => Evo w w' []) Q1 l a → wpQuiet P l.toArray (fun w' => Evo w w' []) Q2 l a := by
    intro l a Q1 Q2 h12
    have gen : ∀ (m : List Oper) (os : Array Oper) (a : Act), wpQuiet P os (fun w' => Evo w w' []) Q1 m a → wpQuiet P os (fun w' => Evo w w' []) Q2 m a := by
      intro m os
      induction m with
      | nil => exact fun a h => h12 a h
      | cons o m ih =>
        intro a h
        unfold wpQuiet at h ⊢
        split
        · rename_i hw; rw [if_pos hw] at h; exact Oper.quiet_mono ih h
        · rename_i hw; rw [if_neg hw] at h; exact ih _ h
    exact gen l l.toArray a
  simpa using mono l a _ _ (fun a' ⟨f', h1, h2⟩ w' hw' => h2 w' hw' a' h1) this
theorem q_nil (h : Q f) : KQ P n C Q ops [] f := fun _ ha => ⟨f, ha, h⟩
theorem q_op {o : Oper} {d : Nat} {v : Value} (hg : o.guard = none) (hdst : o.dst = some d) (hd : Nat.blt d n = true) (hrun : ∀ w', C w' → (execOp (opv f) o).run P w' = .ok (.value v) w')
    (h : KQ P n C Q ops rest (upd f d v)) : KQ P n C Q ops (o :: rest) f := by
  intro a ha
  refine wpQuiet_step fun K hK => ?_
  rw [if_pos (by simp [Region.wanted, hg])]
  refine ⟨v, fun w' hw' => ?_, hK _ (h _ (by rw [hdst]; exact ha.put hd v))⟩
  unfold Oper.quietAt
  rw [ha.eval, hrun w' hw']
  exact ⟨rfl, rfl⟩
theorem q_call {o : Oper} {d : Nat} {v : Value} {g : FuncId} {args : Array Value} (hg : o.guard = none) (hdst : o.dst = some d) (hd : Nat.blt d n = true) (hrun : ∀ w', C w' → (execOp (opv f) o).run P w' = .ok (.enter g args) w')
    (hc : ∀ w', C w' → Calls P g args w' fun e w'' => e = .returned v ∧ C w'')
    (h : KQ P n C Q ops rest (upd f d v)) : KQ P n C Q ops (o :: rest) f := by
  intro a ha
  refine wpQuiet_step fun K hK => ?_
  rw [if_pos (by simp [Region.wanted, hg])]
  refine ⟨v, fun w' hw' => ?_, hK _ (h _ (by rw [hdst]; exact ha.put hd v))⟩
  unfold Oper.quietAt
  rw [ha.eval, hrun w' hw']
  exact ⟨rfl, hc w' hw'⟩
theorem wanted_of {a : Act} (ha : Is n f a) {j s : Nat} {b : Bool} {g : Prop} (hj : (ops[j]?).bind (·.dst) = some s) (hw : Wanted f s b g) : (g → (yielded ops a.tmps j == some b) = true) ∧ (¬ g → (yielded ops a.tmps j == some b) = false) := by
  refine ⟨fun hg => ?_, fun hg => ?_⟩
  · rw [yielded_is ha hj (hw.yes hg)]; simp
  · have h1 := ha.get s
    have h2 := hw.no hg
    rw [← h1, Array.getD_eq_getD_getElem?] at h2
    unfold yielded
    rw [hj]
    simp only [Option.bind_some]
    cases h3 : a.tmps[s]? with
    | none => rfl
    | some u =>
      rw [h3] at h2
      simp at h2
      cases u <;> simp_all
      rename_i b'
      intro e
      exact h2 (by rw [← h1, e])
theorem q_g {d : Nat} {op : Op} {t : TypeId} {pos : String} {aft : Array Edge} {j s : Nat} {b : Bool} {g : Prop} [Decidable g] {v : Value} (hj : (ops[j]?).bind (·.dst) = some s) (hw : Wanted f s b g)
    (hd : Nat.blt d n = true) (hrun : g → ∀ w', C w' → (execOp (opv f) ⟨some d, op, t, pos, aft, none⟩).run P w' = .ok (.value v) w')
    (h : KQ P n C Q ops rest (upd f d (gv g v))) : KQ P n C Q ops (⟨some d, op, t, pos, aft, some (j, b)⟩ :: rest) f := by
  intro a ha
  refine wpQuiet_step fun K hK => ?_
  have hwa := wanted_of ha hj hw
  by_cases hg : g
  · rw [if_pos (by simp only [Region.wanted]; exact hwa.1 hg)]
    rw [gv_yes hg] at h
    refine ⟨v, fun w' hw' => ?_, hK _ (h _ (ha.put hd v))⟩
    unfold Oper.quietAt
    have := hrun hg w' hw'
    rw [ha.eval]
    have e : execOp (opv f) ⟨some d, op, t, pos, aft, some (j, b)⟩ = execOp (opv f) ⟨some d, op, t, pos, aft, none⟩ := rfl
    rw [e, this]
    exact ⟨rfl, rfl⟩
  · rw [if_neg (by simp only [Region.wanted]; rw [hwa.2 hg]; simp)]
    rw [gv_no hg] at h
    exact hK _ (h _ (ha.put hd _))
theorem q_gcall {d : Nat} {op : Op} {t : TypeId} {pos : String} {aft : Array Edge} {j s : Nat} {b : Bool} {g : Prop} [Decidable g] {v : Value} {F : FuncId} {args : Array Value} (hj : (ops[j]?).bind (·.dst) = some s) (hw : Wanted f s b g)
    (hd : Nat.blt d n = true) (hrun : g → ∀ w', C w' → (execOp (opv f) ⟨some d, op, t, pos, aft, none⟩).run P w' = .ok (.enter F args) w')
    (hc : g → ∀ w', C w' → Calls P F args w' fun e w'' => e = .returned v ∧ C w'')
    (h : KQ P n C Q ops rest (upd f d (gv g v))) : KQ P n C Q ops (⟨some d, op, t, pos, aft, some (j, b)⟩ :: rest) f := by
  intro a ha
  refine wpQuiet_step fun K hK => ?_
  have hwa := wanted_of ha hj hw
  by_cases hg : g
  · rw [if_pos (by simp only [Region.wanted]; exact hwa.1 hg)]
    rw [gv_yes hg] at h
    refine ⟨v, fun w' hw' => ?_, hK _ (h _ (ha.put hd v))⟩
    unfold Oper.quietAt
    have := hrun hg w' hw'
    rw [ha.eval]
    have e : execOp (opv f) ⟨some d, op, t, pos, aft, some (j, b)⟩ = execOp (opv f) ⟨some d, op, t, pos, aft, none⟩ := rfl
    rw [e, this]
    exact ⟨rfl, hc hg w' hw'⟩
  · rw [if_neg (by simp only [Region.wanted]; rw [hwa.2 hg]; simp)]
    rw [gv_no hg] at h
    exact hK _ (h _ (ha.put hd _))
theorem r_gcall {d : Nat} {op : Op} {t : TypeId} {pos : String} {aft : Array Edge} {j s : Nat} {b : Bool} {g : Prop} [Decidable g] {v : Value} {F : FuncId} {args : Array Value} (hj : (ops[j]?).bind (·.dst) = some s) (hw : Wanted f s b g)
    (hd : Nat.blt d n = true) (hrun : g → (execOp (opv f) ⟨some d, op, t, pos, aft, none⟩).run P w = .ok (.enter F args) w)
    (hc : g → Calls P F args w fun e w' => e = .returned v ∧ Evo w w' [])
    (h : ∀ w', Evo w w' [] → KL P B n ops k rest (upd f d (gv g v)) w') : KL P B n ops k (⟨some d, op, t, pos, aft, some (j, b)⟩ :: rest) f w := by
  intro a ha
  have hwa := wanted_of ha hj hw
  by_cases hg : g
  · unfold wpList
    rw [if_pos (by simp only [Region.wanted]; exact hwa.1 hg)]
    refine .inl ?_
    unfold Oper.wp
    have e : execOp (opv f) ⟨some d, op, t, pos, aft, some (j, b)⟩ = execOp (opv f) ⟨some d, op, t, pos, aft, none⟩ := rfl
    rw [ha.eval, e, hrun hg]
    simp only [Oper.upon]
    refine (hc hg).mono fun e w' ⟨h1, h2⟩ => ?_
    subst h1
    have h3 := h w' h2 _ (ha.put hd (gv g v))
    rw [gv_yes hg] at h3
    exact h3
  · unfold wpList
    rw [if_neg (by simp only [Region.wanted]; rw [hwa.2 hg]; simp)]
    have h3 := h w (Evo.refl _ _) _ (ha.put hd (gv g v))
    rw [gv_no hg] at h3
    exact h3
end
end Go.Vc
namespace Go.Vc
open Go Go.RowKit Go.IntWalk
abbrev Str := List UInt8
instance : Enc Int := ⟨1, fun x => [.int .i64 x], fun _ => rfl, fun _ => rfl, by decide⟩
instance : Enc Str := ⟨1, fun x => [S x], fun _ => rfl, fun _ => rfl, by decide⟩
structure Item where
  kind : Int
  text : Str
  id : Int
  deriving Inhabited, DecidableEq
instance : Enc Item := ⟨3, fun x => [.int .i64 x.kind, S x.text, .int .i64 x.id], fun _ => rfl, fun _ => rfl, by decide⟩
structure Range where
  lo : Int
  hi : Int
  deriving Inhabited, DecidableEq
instance : Enc Range := ⟨2, fun x => [.int .i64 x.lo, .int .i64 x.hi], fun _ => rfl, fun _ => rfl, by decide⟩
structure Bead where
  alo : Int
  ahi : Int
  blo : Int
  bhi : Int
  deriving Inhabited, DecidableEq
instance : Enc Bead := ⟨4, fun x => [.int .i64 x.alo, .int .i64 x.ahi, .int .i64 x.blo, .int .i64 x.bhi], fun _ => rfl, fun _ => rfl, by decide⟩
structure Gram where
  fst : Str
  snd : Str
  count : Int
  deriving Inhabited, DecidableEq
instance : Enc Gram := ⟨3, fun x => [S x.fst, S x.snd, .int .i64 x.count], fun _ => rfl, fun _ => rfl, by decide⟩
theorem rowE_same {α : Type} [Enc α] {w w' : World} {ao : Option Addr} {b off cap b' off' : Nat} {l : List α} (h : RowE w' ao b' off' cap l) (h0 : RowE w ao b off cap l) : RowE w' ao b off cap l := by
  by_cases hl : l = []
  · subst hl; exact ⟨h.1, by simp, by simp⟩
  · have hne : l.map Enc.enc ≠ [] := by simpa using hl
    have h1 := h.2.1 hne
    have h2 := h0.2.1 hne
    rw [h1] at h2
    injection h2 with h2
    injection h2 with e1 e2
    subst e1; subst e2
    exact h
structure Side where
  len : Int
  anchors : List Str
  deriving Inhabited
instance : Rep Side where
  n := 2
  rep w cs x := ∃ ao b off cap, cs = [.int .i64 x.len, .slice ao x.anchors.length cap] ∧ RowE w ao b off cap x.anchors
  len := fun ⟨_, _, _, _, h, _⟩ => by rw [h]; rfl
  evo0 := fun ⟨ao, b, off, cap, h, hr⟩ he => ⟨ao, b, off, cap, h, hr.evo0 he⟩
  pos := by decide
theorem ret_int {k : IntKind} {a b : Int} (h : a = b) : Ending.returned (.int k a) = .returned (.int k b) := by rw [h]
theorem ret_bool {a b : Bool} (h : a = b) : Ending.returned (.bool a) = .returned (.bool b) := by rw [h]
theorem tmod_bd (x n : Int) (hn : 1 ≤ n) : -n < x.tmod n ∧ x.tmod n < n := by
  have := Int.tmod_lt_of_pos x (b := n) (by omega)
  have := Int.lt_tmod_of_pos x (b := n) (by omega)
  omega
theorem place_pos (x n : Int) (hn : 1 ≤ n) (h : ¬ x.tmod n < 0) : x % n = x.tmod n := by
  rw [Int.tmod_eq_emod]
  split
  · omega
  · rename_i hh
    rw [Int.tmod_eq_emod, if_neg hh] at h
    have := Int.emod_lt_of_pos x (b := n) (by omega)
    omega
theorem place_neg (x n : Int) (hn : 1 ≤ n) (h : x.tmod n < 0) : x % n = x.tmod n + n := by
  rw [Int.tmod_eq_emod]
  split
  · rename_i hh
    rw [Int.tmod_eq_emod, if_pos hh] at h
    have := Int.emod_nonneg x (b := n) (by omega)
    omega
  · omega
def nextL (l : List Int) (N : Nat) (n : Int) : Int := (l.getD N default) % n
theorem nextL_bd (l : List Int) (N : Nat) (n : Int) (hn : 1 ≤ n) : 0 ≤ nextL l N n ∧ nextL l N n < n := ⟨Int.emod_nonneg _ (by omega), Int.emod_lt_of_pos _ (by omega)⟩
end Go.Vc
namespace Go.Vc
open Go Go.RowKit Go.IntWalk
structure KeyLaw (P : Program) (K : TypeId) {α : Type} (ek : α → Value) : Prop where
  inj : ∀ x y, ek x = ek y → x = y
  check : ∀ w e x, (Instr.checkKey e 10000 K (ek x)).run P w = .ok () w
  same : ∀ x, Instr.sameBits 10000 (ek x) (ek x) = true
  hit : ∀ w x (es : List MapEntry) (i : Nat) (e : MapEntry), (∀ e ∈ es, ∃ y, e.key = ek y) → es[i]? = some e → e.key = ek x → (∀ j e', j < i → es[j]? = some e' → e'.key ≠ ek x) → (Instr.findKey K (ek x) es).run P w = .ok (some (i, e.val)) w
  miss : ∀ w x (es : List MapEntry), (∀ e ∈ es, ∃ y, e.key = ek y) → (∀ e ∈ es, e.key ≠ ek x) → (Instr.findKey K (ek x) es).run P w = .ok none w
theorem findNow_hit {D : TypeDesc} {α : Type} [DecidableEq α] {ek : α → Value} (inj : ∀ x y, ek x = ek y → x = y) (hs : ∀ x y, Instr.sameNow D (ek x) (ek y) = some (decide (x = y))) (x : α) :
    ∀ (es : List MapEntry) (i k : Nat) (e : MapEntry), (∀ e ∈ es, ∃ y, e.key = ek y) → es[i]? = some e → e.key = ek x → (∀ j e', j < i → es[j]? = some e' → e'.key ≠ ek x) → Instr.findNow D (ek x) es k = some (some (k + i, e.val))
  | [], i, k, e, _, h, _, _ => by simp at h
  | a :: es, 0, k, e, _, h, hk, _ => by
    simp at h; subst h
    simp [Instr.findNow, hk, hs]
  | a :: es, i + 1, k, e, hall, h, hk, hne => by
    obtain ⟨y, hy⟩ := hall a (by simp)
    have h0 := hne 0 a (by omega) (by simp)
    have ih := findNow_hit inj hs x es i (k + 1) e (fun e he => hall e (by simp [he])) (by simpa using h) hk (fun j e' hj he' => hne (j + 1) e' (by omega) (by simpa using he'))
    have hd : decide (x = y) = false := by simp; intro h; exact h0 (by rw [hy, h])
    simp only [Instr.findNow, hy, hs, hd]
    rw [ih]
    simp
    omega
theorem findNow_miss {D : TypeDesc} {α : Type} [DecidableEq α] {ek : α → Value} (hs : ∀ x y, Instr.sameNow D (ek x) (ek y) = some (decide (x = y))) (x : α) :
    ∀ (es : List MapEntry) (k : Nat), (∀ e ∈ es, ∃ y, e.key = ek y) → (∀ e ∈ es, e.key ≠ ek x) → Instr.findNow D (ek x) es k = some none
  | [], _, _, _ => rfl
  | a :: es, k, hall, hne => by
    obtain ⟨y, hy⟩ := hall a (by simp)
    have h0 := hne a (by simp)
    have ih := findNow_miss hs x es (k + 1) (fun e he => hall e (by simp [he])) (fun e he => hne e (by simp [he]))
    have hd : decide (x = y) = false := by simp; intro h; exact h0 (by rw [hy, h])
    simp only [Instr.findNow, hy, hs, hd]
    exact ih
theorem KeyLaw.scalar {P : Program} {K : TypeId} {D : TypeDesc} {α : Type} [DecidableEq α] {ek : α → Value} (hu : P.underlying K = some D) (inj : ∀ x y, ek x = ek y → x = y) (hs : ∀ x y, Instr.sameNow D (ek x) (ek y) = some (decide (x = y)))
    (check : ∀ w e x, (Instr.checkKey e 10000 K (ek x)).run P w = .ok () w) (same : ∀ x, Instr.sameBits 10000 (ek x) (ek x) = true) : KeyLaw P K ek where
  inj := inj
  check := check
  same := same
  hit w x es i e hall h hk hne := by
    have := findNow_hit inj hs x es i 0 e hall h hk hne
    simp [Instr.findKey, run_underlying hu, this]
  miss w x es hall hne := by
    have := findNow_miss hs x es 0 hall hne
    simp [Instr.findKey, run_underlying hu, this]
theorem check_scalar {P : Program} {K : TypeId} {D : TypeDesc} (hu : P.underlying K = some D) (w : World) (e : Bool) (n : Nat) (v : Value) (hD : (D = .string ∧ ∃ s, v = .string s) ∨ (∃ k a, D = .int k ∧ v = .int k a)) : (Instr.checkKey e (n + 1) K v).run P w = .ok () w := by
  rcases hD with ⟨rfl, s, rfl⟩ | ⟨k, a, rfl, rfl⟩ <;> simp only [Instr.checkKey, Sem.run_bind, run_underlying hu, Result.andThen_ok, Sem.run_pure]
theorem bits_str (n : Nat) (s : ByteArray) : Instr.sameBits n (.string s) (.string s) = true := by
  cases n <;> simp only [Instr.sameBits, beq_toListBytes, beq_self_eq_true]
theorem bits_int (n : Nat) (k : IntKind) (a : Int) : Instr.sameBits n (.int k a) (.int k a) = true := by
  cases n <;> simp only [Instr.sameBits, beq_self_eq_true, Bool.and_self]
theorem key_int {P : Program} {K : TypeId} {k : IntKind} (hu : P.underlying K = some (.int k)) : KeyLaw P K (Value.int k) := by
  refine KeyLaw.scalar hu (fun x y h => by injection h) (fun x y => ?_) (fun w e x => ?_) (fun x => ?_)
  · simp only [Instr.sameNow, if_true]
    congr 1
  · exact check_scalar hu w e 9999 _ (.inr ⟨_, _, rfl, rfl⟩)
  · exact bits_int _ _ _
section
variable {α β : Type} [DecidableEq α]
def getM (m : List (α × β)) (x : α) : Option β := (m.find? (·.1 = x)).map (·.2)
def setM (m : List (α × β)) (x : α) (v : β) : List (α × β) := if m.any (·.1 = x) then m.map (fun p => if p.1 = x then (x, v) else p) else m ++ [(x, v)]
def delM (m : List (α × β)) (x : α) : List (α × β) := m.filter (fun p => ! decide (p.1 = x))
end
structure MapIs {α β : Type} (w : World) (b : Nat) (ek : α → Value) (ev : β → Value) (m : List (α × β)) : Prop where
  ex : ∃ es clock, w.heap[b]? = some (.map es clock) ∧ es.toList.map (fun e => (e.key, e.val)) = m.map (fun p => (ek p.1, ev p.2)) ∧ (es.toList.map (·.born)).Nodup ∧ (∀ e ∈ es.toList, e.born < clock) ∧ (m.map (·.1)).Nodup
section
variable {α β : Type} {ek : α → Value} {ev : β → Value} {w w' : World} {b : Nat} {m : List (α × β)} {E : List Nat}
theorem MapIs.lt (h : MapIs w b ek ev m) : b < w.heap.size := by
  obtain ⟨es, c, hb, _⟩ := h.ex
  rcases Nat.lt_or_ge b w.heap.size with h1 | h1
  · exact h1
  · rw [Array.getElem?_eq_none h1] at hb; cases hb
theorem MapIs.evo (h : MapIs w b ek ev m) (he : Evo w w' E) (hn : b ∉ E) : MapIs w' b ek ev m := by
  obtain ⟨es, c, hb, r⟩ := h.ex
  exact ⟨es, c, (he.same b h.lt hn).trans hb, r⟩
theorem MapIs.evo0 (h : MapIs w b ek ev m) (he : Evo w w' []) : MapIs w' b ek ev m := h.evo he (by simp)
theorem MapIs.nodup (h : MapIs w b ek ev m) : (m.map (·.1)).Nodup := let ⟨_, _, _, _, _, _, h⟩ := h.ex; h
theorem MapIs.made (w : World) : MapIs (w.alloc (.map #[] 0)) w.heap.size ek ev [] := ⟨#[], 0, heap_alloc_new w _, by simp, by simp, by simp, by simp⟩
theorem keys_of {es : List MapEntry} (h : es.map (fun e => (e.key, e.val)) = m.map (fun p => (ek p.1, ev p.2))) : ∀ e ∈ es, ∃ y, e.key = ek y := by
  intro e he
  have : (e.key, e.val) ∈ es.map (fun e => (e.key, e.val)) := List.mem_map.2 ⟨e, he, rfl⟩
  rw [h] at this
  obtain ⟨p, _, hp⟩ := List.mem_map.1 this
  exact ⟨p.1, (congrArg Prod.fst hp).symm⟩
theorem entry_at {es : List MapEntry} (h : es.map (fun e => (e.key, e.val)) = m.map (fun p => (ek p.1, ev p.2))) (i : Nat) : (es[i]?).map (fun e => (e.key, e.val)) = (m[i]?).map (fun p => (ek p.1, ev p.2)) := by
  have := congrArg (·[i]?) h
  simpa using this
theorem find_idx [DecidableEq α] (x : α) : ∀ (m : List (α × β)), (∀ p ∈ m, p.1 ≠ x) ∨ ∃ i v, m[i]? = some (x, v) ∧ ∀ (j : Nat) (p : α × β), j < i → m[j]? = some p → p.1 ≠ x
  | [] => .inl (by simp)
  | p :: m => by
    by_cases h : p.1 = x
    · exact .inr ⟨0, p.2, by simp [← h], by simp⟩
    · rcases find_idx x m with h1 | ⟨i, v, h1, h2⟩
      · refine .inl (fun q hq => ?_)
        rcases List.mem_cons.1 hq with rfl | hq
        · exact h
        · exact h1 q hq
      · refine .inr ⟨i + 1, v, by simpa using h1, fun j q hj hq => ?_⟩
        cases j with
        | zero => simp at hq; subst hq; exact h
        | succ j => exact h2 j q (by omega) (by simpa using hq)
theorem getM_none [DecidableEq α] {x : α} (h : ∀ p ∈ m, p.1 ≠ x) : getM m x = none := by
  unfold getM
  rw [List.find?_eq_none.2 (by intro p hp; simpa using h p hp)]
  rfl
theorem getM_some [DecidableEq α] {x : α} {v : β} {i : Nat} (h1 : m[i]? = some (x, v)) (h2 : ∀ (j : Nat) (p : α × β), j < i → m[j]? = some p → p.1 ≠ x) : getM m x = some v := by
  have : m.find? (·.1 = x) = some (x, v) := by
    induction m generalizing i with
    | nil => simp at h1
    | cons p m ih =>
      cases i with
      | zero => simp at h1; subst h1; simp
      | succ i =>
        have h0 := h2 0 p (by omega) (by simp)
        simp only [List.find?_cons, decide_eq_false h0]
        exact ih (by simpa using h1) (fun j q hj hq => h2 (j + 1) q (by omega) (by simpa using hq))
  simp [getM, this]
variable {P : Program} {K : TypeId} (L : KeyLaw P K ek)
include L
theorem MapIs.find [DecidableEq α] (h : MapIs w b ek ev m) (x : α) : ∃ es clock, w.heap[b]? = some (.map es clock) ∧
    ((getM m x = none ∧ (Instr.findKey K (ek x) es.toList).run P w = .ok none w) ∨
      ∃ i v, getM m x = some v ∧ m[i]? = some (x, v) ∧ (∀ (j : Nat) (p : α × β), j < i → m[j]? = some p → p.1 ≠ x) ∧ (Instr.findKey K (ek x) es.toList).run P w = .ok (some (i, ev v)) w) := by
  obtain ⟨es, c, hb, he, hbn, hlt, hnd⟩ := h.ex
  refine ⟨es, c, hb, ?_⟩
  rcases find_idx x m with h1 | ⟨i, v, h1, h2⟩
  · refine .inl ⟨getM_none h1, L.miss w x _ (keys_of he) (fun e hm hk => ?_)⟩
    obtain ⟨i, hi⟩ := List.getElem?_of_mem hm
    have := entry_at he i
    rw [hi] at this
    cases hp : m[i]? with
    | none => rw [hp] at this; simp at this
    | some p =>
      rw [hp] at this
      simp at this
      exact h1 p (List.mem_of_getElem? hp) (L.inj _ _ (this.1.symm.trans hk))
  · have hi := entry_at he i
    rw [h1] at hi
    cases hes : es.toList[i]? with
    | none => rw [hes] at hi; simp at hi
    | some e =>
      rw [hes] at hi
      simp only [Option.map_some, Option.some.injEq, Prod.mk.injEq] at hi
      refine .inr ⟨i, v, getM_some h1 h2, h1, h2, ?_⟩
      rw [← hi.2]
      refine L.hit w x _ i e (keys_of he) hes hi.1 (fun j e' hj he' hk => ?_)
      have := entry_at he j
      rw [he'] at this
      cases hp : m[j]? with
      | none => rw [hp] at this; simp at this
      | some p =>
        rw [hp] at this
        simp at this
        exact h2 j p hj hp (L.inj _ _ (this.1.symm.trans hk))
end
section
variable {P : Program} {B : Exit → Act → World → Prop} {n : Nat} {k : List Kont} {f : Fr} {w : World} {ops : Array Oper} {rest : List Oper} {o : Oper}
variable {α β : Type} {ek : α → Value} {ev : β → Value} {b : Nat} {m : List (α × β)} {K E : TypeId}
open Go.ChangeMaps (setBlock)
theorem heap_setB {w : World} {b : Nat} (hb : b < w.heap.size) (ob : Obj) : (setBlock w b ob).heap[b]? = some ob := by simp [setBlock, hb]
theorem heap_setB_ne {w : World} {b i : Nat} (ob : Obj) (h : i ≠ b) : (setBlock w b ob).heap[i]? = w.heap[i]? := by
  simp only [setBlock]
  rw [Array.getElem?_setIfInBounds_ne (Ne.symm h)]
theorem Evo.setB (w : World) (b : Nat) (ob : Obj) : Evo w (setBlock w b ob) [b] := ⟨rfl, rfl, rfl, by simp [setBlock], fun i _ hn => heap_setB_ne ob (by simpa using hn)⟩
theorem r_makeMap {T d : Nat} {t : TypeId} {pos : String} {aft : Array Edge} (ek : α → Value) (ev : β → Value) (hd : Nat.blt d n = true)
    (h : ∀ b w', b = w.heap.size → Evo w w' [] → MapIs w' b ek ev [] → w'.heap.size = b + 1 → KL P B n ops k rest (upd f d (.map (some b))) w') :
    KL P B n ops k (⟨some d, .makeMap T none, t, pos, aft, none⟩ :: rest) f w := by
  refine r_op (v := .map (some w.heap.size)) (w' := w.alloc (.map #[] 0)) rfl rfl hd ?_ (h _ _ rfl (Evo.alloc _ _ _) (MapIs.made w) (by simp))
  simp [execOp, Instr.makeMap]
theorem run_lookupM [DecidableEq α] (L : KeyLaw P K ek) {T : TypeId} {ok : Bool} {z : Value} {s bb : Nat} {y x : Operand} {a : α} (ho : o.op = .lookup T x y ok) (hu : P.underlying T = some (.map K E)) (hz : tyP P E = some (s, bb, some z))
    (hx : opv f x = .map (some b)) (hy : opv f y = ek a) (h : MapIs w b ek ev m) :
    (execOp (opv f) o).run P w = .ok (.value (if ok then .tuple #[((getM m a).map ev).getD z, .bool (getM m a).isSome] else ((getM m a).map ev).getD z)) w := by
  obtain ⟨es, c, hb, hf⟩ := h.find L a
  unfold execOp; rw [ho]; simp only []; rw [hx, hy]
  rcases hf with ⟨hg, hf⟩ | ⟨i, v, hg, _, _, hf⟩
  · cases ok <;> simp [Instr.lookup, getObj, run_underlying hu, Sem.run, hb, L.check, hf, run_zero hz, hg]
  · cases ok <;> simp [Instr.lookup, getObj, run_underlying hu, Sem.run, hb, L.check, hf, hg]
theorem run_lookup1 [DecidableEq α] (L : KeyLaw P K ek) {T : TypeId} {z : β} {s bb : Nat} {y x : Operand} {a : α} (ho : o.op = .lookup T x y false) (hu : P.underlying T = some (.map K E)) (hz : tyP P E = some (s, bb, some (ev z)))
    (hx : opv f x = .map (some b)) (hy : opv f y = ek a) (h : MapIs w b ek ev m) {v : Value} (hv : ev ((getM m a).getD z) = v) :
    (execOp (opv f) o).run P w = .ok (.value v) w := by
  rw [run_lookupM L ho hu hz hx hy h, ← hv]
  cases getM m a <;> rfl
theorem run_lookup2 [DecidableEq α] (L : KeyLaw P K ek) {T : TypeId} {z : β} {s bb : Nat} {y x : Operand} {a : α} (ho : o.op = .lookup T x y true) (hu : P.underlying T = some (.map K E)) (hz : tyP P E = some (s, bb, some (ev z)))
    (hx : opv f x = .map (some b)) (hy : opv f y = ek a) (h : MapIs w b ek ev m) {v : Value} (hv : ev ((getM m a).getD z) = v) :
    (execOp (opv f) o).run P w = .ok (.value (.tuple #[v, .bool (getM m a).isSome])) w := by
  rw [run_lookupM L ho hu hz hx hy h, ← hv]
  cases getM m a <;> rfl
theorem run_lenM {T : TypeId} {x : Operand} (ho : o.op = .call ⟨.builtin .len, #[x], #[T]⟩) (hu : P.underlying T = some (.map K E)) (hx : opv f x = .map (some b)) (h : MapIs w b ek ev m) :
    (execOp (opv f) o).run P w = .ok (.value (.int .i64 (m.length : Int))) w := by
  obtain ⟨es, c, hb, he, _⟩ := h.ex
  have hl : es.size = m.length := by have := congrArg List.length he; simpa using this
  refine run_builtin (s := Builtin.len_ #[T] o.type #[.map (some b)]) ho (by simp [hx]) (fun cs => rfl) ?_
  simp [Builtin.len_, run_underlying hu, goInt, getObj, Sem.run, hb, hl]
theorem setM_miss [DecidableEq α] {x : α} {v : β} (h : ∀ p ∈ m, p.1 ≠ x) : setM m x v = m ++ [(x, v)] := by
  unfold setM
  rw [if_neg]
  intro hh
  obtain ⟨p, hp, he⟩ := List.any_eq_true.1 hh
  exact h p hp (by simpa using he)
theorem setM_hit [DecidableEq α] {x : α} {v u : β} {i : Nat} (h1 : m[i]? = some (x, u)) (hn : (m.map (·.1)).Nodup) : setM m x v = m.set i (x, v) := by
  unfold setM
  rw [if_pos (by simp; exact ⟨_, List.mem_of_getElem? h1⟩)]
  apply List.ext_getElem?
  intro j
  rw [List.getElem?_map, List.getElem?_set]
  by_cases hj : i = j
  · subst hj
    have hi : i < m.length := by
      rcases Nat.lt_or_ge i m.length with h2 | h2
      · exact h2
      · rw [List.getElem?_eq_none h2] at h1; cases h1
    have hm : m[i] = (x, u) := by rw [List.getElem?_eq_getElem hi] at h1; injection h1
    simp [hi, hm]
  · simp only [hj, if_false]
    cases hm : m[j]? with
    | none => rfl
    | some p =>
      have : p.1 ≠ x := by
        intro e
        have hi : i < (m.map (·.1)).length := by
          rcases Nat.lt_or_ge i (m.map (·.1)).length with h2 | h2
          · exact h2
          · rw [List.getElem?_eq_none (by simpa using h2)] at h1; cases h1
        have := (List.getElem?_inj hi hn (j := j)).1 (by simp [h1, hm, e])
        exact hj this
      simp [this]
theorem keys_setM [DecidableEq α] (x : α) (v : β) (m : List (α × β)) (hn : (m.map (·.1)).Nodup) : ((setM m x v).map (·.1)).Nodup := by
  rcases find_idx x m with h | ⟨i, u, h, _⟩
  · rw [setM_miss h]
    simp only [List.map_append, List.map_cons, List.map_nil]
    rw [List.nodup_append]
    refine ⟨hn, by simp, fun a ha c hc => ?_⟩
    simp at hc
    subst hc
    obtain ⟨p, hp, rfl⟩ := List.mem_map.1 ha
    exact h p hp
  · rw [setM_hit h hn, List.map_set]
    have : (m.map (·.1)).set i x = m.map (·.1) := by
      apply List.ext_getElem?
      intro j
      rw [List.getElem?_set]
      by_cases hj : i = j
      · subst hj
        have hi : i < m.length := by
          rcases Nat.lt_or_ge i m.length with h2 | h2
          · exact h2
          · rw [List.getElem?_eq_none h2] at h; cases h
        have hm : m[i] = (x, u) := by rw [List.getElem?_eq_getElem hi] at h; injection h
        simp [hi, hm]
      · simp [hj]
    rw [this]
    exact hn
theorem run_mapset [DecidableEq α] (L : KeyLaw P K ek) {T : TypeId} (hu : P.underlying T = some (.map K E)) (a : α) (v : β) (h : MapIs w b ek ev m) :
    ∃ w', (Instr.mapUpdate T (.map (some b)) (ek a) (ev v)).run P w = .ok () w' ∧ Evo w w' [b] ∧ w'.heap.size = w.heap.size ∧ MapIs w' b ek ev (setM m a v) := by
  obtain ⟨es, c, hb, he, hbn, hlt, hnd⟩ := h.ex
  have hbl := h.lt
  obtain ⟨es', c', hb', hf⟩ := h.find L a
  rw [hb] at hb'
  injection hb' with hb'
  injection hb' with e1 e2
  subst e1; subst e2
  rcases hf with ⟨hg, hf⟩ | ⟨i, u, hg, hi, hne, hf⟩
  · have hmiss : ∀ p ∈ m, p.1 ≠ a := by
      intro p hp e
      unfold getM at hg
      have hg' := hg
      simp only [Option.map_eq_none_iff, List.find?_eq_none, decide_eq_true_eq] at hg'
      exact hg' p hp e
    refine ⟨setBlock w b (.map (es.push { key := ek a, val := ev v, born := c }) (c + 1)), ?_, Evo.setB _ _ _, by simp [setBlock], ⟨_, _, heap_setB hbl _, ?_, ?_, ?_, keys_setM a v m hnd⟩⟩
    · simp only [Instr.mapUpdate, getObj, Sem.run_bind, run_underlying hu, Result.andThen_ok, Sem.run, hb, L.check, hf, setObj, setBlock]
    · rw [setM_miss hmiss]; simp [he]
    · simp only [Array.toList_push, List.map_append, List.map_cons, List.map_nil]
      rw [List.nodup_append]
      refine ⟨hbn, by simp, fun x hx y hy => ?_⟩
      simp at hy
      subst hy
      obtain ⟨e, hem, rfl⟩ := List.mem_map.1 hx
      have := hlt e hem
      omega
    · intro e hem
      simp only [Array.toList_push, List.mem_append, List.mem_singleton] at hem
      rcases hem with hem | rfl
      · have := hlt e hem; omega
      · simp
  · have hent := entry_at he i
    rw [hi] at hent
    cases hes : es.toList[i]? with
    | none => rw [hes] at hent; simp at hent
    | some e =>
      rw [hes] at hent
      simp only [Option.map_some, Option.some.injEq, Prod.mk.injEq] at hent
      have hes' : es[i]? = some e := by simpa using hes
      have hstay : (Instr.keyThatStays (((es[i]?).map (·.key)).getD (ek a)) (ek a)).run P w = .ok (ek a) w := by
        rw [hes']
        simp only [Option.map_some, Option.getD_some, hent.1, Instr.keyThatStays, L.same, if_true, Sem.run_pure]
      refine ⟨setBlock w b (.map (es.modify i fun e => { e with key := ek a, val := ev v }) c), ?_, Evo.setB _ _ _, by simp [setBlock], ⟨_, _, heap_setB hbl _, ?_, ?_, ?_, keys_setM a v m hnd⟩⟩
      · simp only [Instr.mapUpdate, getObj, Sem.run_bind, run_underlying hu, Result.andThen_ok, Sem.run, hb, L.check, hf, hstay, setObj, setBlock]
      · rw [setM_hit hi hnd]
        apply List.ext_getElem?
        intro j
        have hj := entry_at he j
        simp only [List.getElem?_map, Array.getElem?_toList, Array.getElem?_modify] at hj ⊢
        rw [List.getElem?_set]
        by_cases hij : i = j
        · subst hij
          have hil : i < m.length := by
            rcases Nat.lt_or_ge i m.length with h2 | h2
            · exact h2
            · rw [List.getElem?_eq_none h2] at hi; cases hi
          simp [hes', hil]
        · simp [hij, hj]
      · have : (es.modify i fun e => { e with key := ek a, val := ev v }).toList.map (·.born) = es.toList.map (·.born) := by
          apply List.ext_getElem?
          intro j
          simp only [List.getElem?_map, Array.getElem?_toList, Array.getElem?_modify]
          by_cases hij : i = j
          · subst hij; simp [hes']
          · simp [hij]
        rw [this]; exact hbn
      · intro x hx
        obtain ⟨j, hj⟩ := List.getElem?_of_mem hx
        simp only [Array.getElem?_toList, Array.getElem?_modify] at hj
        by_cases hij : i = j
        · subst hij
          simp [hes'] at hj
          rw [← hj]
          exact hlt e (by rw [← Array.getElem?_toList] at hes'; exact List.mem_of_getElem? hes')
        · simp only [hij, if_false] at hj
          exact hlt x (by rw [← Array.getElem?_toList] at hj; exact List.mem_of_getElem? hj)
theorem r_mapset [DecidableEq α] (L : KeyLaw P K ek) {T : TypeId} {t : TypeId} {pos : String} {aft : Array Edge} {x y z : Operand} {a : α} {v : β} (hu : P.underlying T = some (.map K E)) (hx : opv f x = .map (some b)) (hy : opv f y = ek a) (hz : opv f z = ev v)
    (h : MapIs w b ek ev m) (h2 : ∀ w', Evo w w' [b] → w'.heap.size = w.heap.size → MapIs w' b ek ev (setM m a v) → KL P B n ops k rest f w') :
    KL P B n ops k (⟨none, .mapUpdate T x y z, t, pos, aft, none⟩ :: rest) f w := by
  obtain ⟨w', hr, he, hs, hm⟩ := run_mapset L hu a v h
  refine r_op0 (w' := w') rfl rfl ?_ (h2 w' he hs hm)
  simp [execOp, hx, hy, hz, hr]
structure IterIs (w : World) (r b : Nat) (ek : α → Value) (ev : β → Value) (m left : List (α × β)) (last : Option (α × β)) : Prop where
  ex : ∃ (es : Array MapEntry) (clock : Nat) (seen : Array Nat), w.heap[b]? = some (.map es clock) ∧ es.toList.map (fun e => (e.key, e.val)) = m.map (fun p => (ek p.1, ev p.2)) ∧ (es.toList.map (·.born)).Nodup ∧ (∀ e ∈ es.toList, e.born < clock) ∧ (m.map (·.1)).Nodup ∧
    w.heap[r]? = some (.mapIter (some b) clock seen clock) ∧ (es.toList.filter (fun e => !seen.contains e.born)).map (fun e => (e.key, e.val)) = left.map (fun p => (ek p.1, ev p.2)) ∧
    (∀ p, last = some p → ∃ e ∈ es.toList, (∃ s : Array Nat, seen = s.push e.born) ∧ e.key = ek p.1 ∧ e.val = ev p.2)
theorem IterIs.lt {left : List (α × β)} {last : Option (α × β)} {r : Nat} (h : IterIs w r b ek ev m left last) : r < w.heap.size := by
  obtain ⟨es, c, seen, hb, _, _, _, _, hr, _⟩ := h.ex
  rcases Nat.lt_or_ge r w.heap.size with h1 | h1
  · exact h1
  · rw [Array.getElem?_eq_none h1] at hr; cases hr
theorem IterIs.map {left : List (α × β)} {last : Option (α × β)} {r : Nat} (h : IterIs w r b ek ev m left last) : MapIs w b ek ev m := by
  obtain ⟨es, c, seen, hb, h1, h2, h3, h4, _⟩ := h.ex
  exact ⟨es, c, hb, h1, h2, h3, h4⟩
theorem IterIs.ne {left : List (α × β)} {last : Option (α × β)} {r : Nat} (h : IterIs w r b ek ev m left last) : r ≠ b := by
  obtain ⟨es, c, seen, hb, _, _, _, _, hr, _⟩ := h.ex
  intro e
  rw [e, hb] at hr
  cases hr
theorem IterIs.evo {w' : World} {X : List Nat} {left : List (α × β)} {last : Option (α × β)} {r : Nat} (h : IterIs w r b ek ev m left last) (he : Evo w w' X) (hr : r ∉ X) (hb : b ∉ X) : IterIs w' r b ek ev m left last := by
  have h1 := h.lt
  have h2 := h.map.lt
  obtain ⟨es, c, seen, h3, h4, h5, h6, h7, h8, h9⟩ := h.ex
  exact ⟨es, c, seen, (he.same b h2 hb).trans h3, h4, h5, h6, h7, (he.same r h1 hr).trans h8, h9⟩
theorem IterIs.evo0 {w' : World} {left : List (α × β)} {last : Option (α × β)} {r : Nat} (h : IterIs w r b ek ev m left last) (he : Evo w w' []) : IterIs w' r b ek ev m left last := h.evo he (by simp) (by simp)
theorem r_range {T d : Nat} {t : TypeId} {pos : String} {aft : Array Edge} {x : Operand} (hd : Nat.blt d n = true) (hu : P.underlying T = some (.map K E)) (hx : opv f x = .map (some b)) (h : MapIs w b ek ev m)
    (h2 : ∀ r w', r = w.heap.size → Evo w w' [] → IterIs w' r b ek ev m m none → w'.heap.size = r + 1 → KL P B n ops k rest (upd f d (.pointer (some ⟨r, 0, none⟩))) w') :
    KL P B n ops k (⟨some d, .range T x, t, pos, aft, none⟩ :: rest) f w := by
  obtain ⟨es, c, hb, h3, h4, h5, h6⟩ := h.ex
  refine r_op (v := .pointer (some ⟨w.heap.size, 0, none⟩)) (w' := w.alloc (.mapIter (some b) c #[] c)) rfl rfl hd ?_ (h2 _ _ rfl (Evo.alloc _ _ _) ⟨es, c, #[], ?_, h3, h4, h5, h6, heap_alloc_new w _, ?_, by simp⟩ (by simp))
  · simp [execOp, hx, Instr.range, run_underlying hu, getObj, Sem.run, hb, newObj]
  · rw [Below.heap_alloc w _ b h.lt]; exact hb
  · rw [← h3]; congr 1; exact List.filter_eq_self.2 (fun _ _ => by simp)
theorem seen_push {es : List MapEntry} {seen : Array Nat} {e : MapEntry} (hn : (es.map (·.born)).Nodup) (he : e ∈ es.filter (fun e => !seen.contains e.born)) :
    ∃ l1 l2, es.filter (fun e => !seen.contains e.born) = l1 ++ e :: l2 ∧ es.filter (fun x => !(seen.push e.born).contains x.born) = l1 ++ l2 := by
  obtain ⟨l1, l2, h⟩ := List.append_of_mem he
  refine ⟨l1, l2, h, ?_⟩
  have e1 : es.filter (fun x => !(seen.push e.born).contains x.born) = (es.filter (fun e => !seen.contains e.born)).filter (fun x => x.born != e.born) := by
    rw [List.filter_filter]
    congr 1
    funext x
    simp only [Array.contains_push, Bool.not_or]
    by_cases hx : x.born = e.born
    · simp [hx]
    · have hb1 : (x.born != e.born) = true := by simpa using hx
      have hb2 : (x.born == e.born) = false := by simpa using hx
      have hb3 : (e.born == x.born) = false := by simpa using fun h => hx h.symm
      simp [hb1, hb2]
  have hn2 : ((l1 ++ e :: l2).map (·.born)).Nodup := by
    rw [← h]
    exact List.Nodup.sublist (List.Sublist.map _ List.filter_sublist) hn
  rw [e1, h]
  simp only [List.map_append, List.map_cons, List.nodup_append, List.nodup_cons] at hn2
  obtain ⟨_, ⟨h3, _⟩, h4⟩ := hn2
  rw [List.filter_append, List.filter_cons]
  have f1 : l1.filter (fun x => x.born != e.born) = l1 := List.filter_eq_self.2 (fun x hx => by
    simpa using h4 x.born (List.mem_map.2 ⟨x, hx, rfl⟩) e.born (by simp))
  have f2 : l2.filter (fun x => x.born != e.born) = l2 := List.filter_eq_self.2 (fun x hx => by
    simp
    intro hxe
    exact h3 (List.mem_map.2 ⟨x, hx, hxe⟩))
  simp [f1, f2]
theorem r_next {d : Nat} {t : TypeId} {pos : String} {aft : Array Edge} {x : Operand} {r : Nat} {left : List (α × β)} {last : Option (α × β)} (hd : Nat.blt d n = true) (hx : opv f x = .pointer (some ⟨r, 0, none⟩)) (h : IterIs w r b ek ev m left last)
    (h1 : left = [] → KL P B n ops k rest (upd f d (.tuple #[.bool false])) w)
    (h2 : ∀ l1 p l2 w', left = l1 ++ p :: l2 → Evo w w' [r] → w'.heap.size = w.heap.size → IterIs w' r b ek ev m (l1 ++ l2) (some p) → KL P B n ops k rest (upd f d (.tuple #[.bool true, ek p.1, ev p.2])) w') :
    KL P B n ops k (⟨some d, .next x false, t, pos, aft, none⟩ :: rest) f w := by
  have hrl := h.lt
  have hne := h.ne
  obtain ⟨es, c, seen, hb, he, hn, hlt, hnd, hr, hleft, hlast⟩ := h.ex
  have hlo : (leftOf es seen).toList = es.toList.filter (fun e => !seen.contains e.born) := by simp [leftOf]
  rcases run_next_at (P := P) w t r b c c seen es c hr hb hlt (Nat.le_refl _) with ⟨h0, hrun⟩ | ⟨e, hem, w1, hw1, hrun⟩
  · refine r_op (v := .tuple #[.bool false]) (w' := w) rfl rfl hd ?_ (h1 ?_)
    · simp [execOp, hx, hrun]
    · have : (es.toList.filter (fun e => !seen.contains e.born)).length = 0 := by rw [← hlo]; simpa using h0
      have h3 := congrArg List.length hleft
      simp only [List.length_map] at h3
      exact List.eq_nil_of_length_eq_zero (by omega)
  · rw [hlo] at hem
    obtain ⟨m1, m2, hs1, hs2⟩ := seen_push hn hem
    rw [hs1] at hleft
    have hleft' := hleft
    simp only [List.map_append, List.map_cons] at hleft'
    obtain ⟨l1, l3, hl, q1, q2⟩ := List.map_eq_append_iff.1 hleft'.symm
    obtain ⟨p, l2, hl3, q3, q4⟩ := List.map_eq_cons_iff.1 q2
    subst hl3
    have hk : ek p.1 = e.key := congrArg Prod.fst q3
    have hv : ev p.2 = e.val := congrArg Prod.snd q3
    have hheap : w1.heap = w.heap := by rcases hw1 with rfl | rfl <;> rfl
    have hos : w1.os = w.os ∧ w1.tape = w.tape ∧ w1.output = w.output := by rcases hw1 with rfl | rfl <;> exact ⟨rfl, rfl, rfl⟩
    refine r_op (v := .tuple #[.bool true, ek p.1, ev p.2]) (w' := setBlock w1 r (.mapIter (some b) c (seen.push e.born) c)) rfl rfl hd ?_ (h2 l1 p l2 _ hl ?_ ?_ ?_)
    · simp [execOp, hx, hrun, hk, hv]
    · refine ⟨hos.1, hos.2.1, hos.2.2, by simp [setBlock, hheap], fun i _ hi => ?_⟩
      rw [heap_setB_ne _ (by simpa using hi), hheap]
    · simp [setBlock, hheap]
    · refine ⟨es, c, seen.push e.born, ?_, he, hn, hlt, hnd, heap_setB (by rw [hheap]; exact hrl) _, ?_, ?_⟩
      · rw [heap_setB_ne _ (Ne.symm hne), hheap]; exact hb
      · rw [hs2]; simp [q1, q4]
      · intro p' hp'
        injection hp' with hp'
        subst hp'
        exact ⟨e, (List.mem_filter.1 hem).1, ⟨seen, rfl⟩, hk.symm, hv.symm⟩
theorem run_entryI {x : Operand} {r : Nat} {left : List (α × β)} {p : α × β} (ho : o.op = .entry x) (hx : opv f x = .pointer (some ⟨r, 0, none⟩)) (h : IterIs w r b ek ev m left (some p)) :
    (execOp (opv f) o).run P w = .ok (.value (.tuple #[ek p.1, ev p.2])) w := by
  obtain ⟨es, c, seen, hb, he, hn, hlt, hnd, hr, hleft, hlast⟩ := h.ex
  obtain ⟨e, hem, ⟨s, hs⟩, hk, hv⟩ := hlast p rfl
  rw [hs] at hr
  have := run_entry_at (P := P) w r b c s es c e hr hb hem hn
  unfold execOp; rw [ho]; simp only []; rw [hx]
  simp [this, hk, hv]
end
end Go.Vc
namespace Go.Vc
open Go Go.RowKit
theorem take_succD {α : Type} [Inhabited α] (l : List α) (k : Nat) (h : k < l.length) : l.take (k + 1) = l.take k ++ [l.getD k default] := by
  rw [List.take_succ_eq_append_getElem h]; simp [List.getD, h]
theorem getM_cons {α β : Type} [DecidableEq α] (p : α × β) (m : List (α × β)) (y : α) : getM (p :: m) y = if p.1 = y then some p.2 else getM m y := by
  unfold getM
  rw [List.find?_cons]
  by_cases h : p.1 = y <;> simp [h]
theorem getM_mapset {α β : Type} [DecidableEq α] (x y : α) (v : β) : ∀ (m : List (α × β)), getM (m.map (fun p => if p.1 = x then (x, v) else p)) y = if x = y then (if m.any (·.1 = x) then some v else none) else getM m y
  | [] => by by_cases h : x = y <;> simp [getM, h]
  | p :: m => by
    have ih := getM_mapset x y v m
    rw [List.map_cons, getM_cons, getM_cons, ih]
    by_cases hp : p.1 = x
    · by_cases hxy : x = y
      · simp [hp, hxy]
      · have : ¬ p.1 = y := by rw [hp]; exact hxy
        simp [hp, hxy]
    · by_cases hxy : x = y
      · subst hxy
        simp only [if_true, List.any_cons, decide_eq_false hp, Bool.false_or, if_neg hp]
      · simp [hp, hxy]
theorem getM_app {α β : Type} [DecidableEq α] (y : α) (x : α) (v : β) : ∀ (m : List (α × β)), (∀ p ∈ m, p.1 ≠ x) → getM (m ++ [(x, v)]) y = if x = y then some v else getM m y
  | [], _ => by rw [List.nil_append, getM_cons]
  | p :: m, h => by
    have ih := getM_app y x v m (fun q hq => h q (by simp [hq]))
    rw [List.cons_append, getM_cons, getM_cons, ih]
    have hp := h p (by simp)
    by_cases hpy : p.1 = y
    · have : ¬ x = y := fun e => hp (by rw [hpy, e])
      simp [hpy, this]
    · simp [hpy]
theorem getM_setM {α β : Type} [DecidableEq α] (m : List (α × β)) (x y : α) (v : β) : getM (setM m x v) y = if x = y then some v else getM m y := by
  rcases find_idx x m with h | ⟨i, u, h, hne⟩
  · rw [setM_miss h, getM_app y x v m h]
  · have hany : (m.any (·.1 = x)) = true := by simp only [List.any_eq_true]; exact ⟨_, List.mem_of_getElem? h, by simp⟩
    unfold setM
    rw [if_pos hany, getM_mapset, hany]
    simp
end Go.Vc
namespace Go.Vc
open Go
def lowB (c : UInt8) : Bool := decide (97 ≤ c.toNat) && decide (c.toNat ≤ 122)
def digB (c : UInt8) : Bool := decide (48 ≤ c.toNat) && decide (c.toNat ≤ 57)
def nameB (c : UInt8) : Bool := lowB c || digB c || decide (c.toNat = 45)
def isName (s : Str) : Bool := decide (1 ≤ s.length) && decide (s.length ≤ 24) && lowB (s.getD 0 0) && (s.drop 1).all nameB
theorem all_upto {α : Type} (p : α → Bool) (d : α) (l : List α) : l.all p = true ↔ ∀ j, j < l.length → p (l.getD j d) = true := by
  rw [List.all_eq_true]
  constructor
  · intro h j hj
    have e : l.getD j d = l[j] := by simp [List.getD, hj]
    rw [e]; exact h _ (List.getElem_mem hj)
  · intro h x hx
    obtain ⟨j, hj, rfl⟩ := List.getElem_of_mem hx
    have := h j hj
    have e : l.getD j d = l[j] := by simp [List.getD, hj]
    rw [e] at this; exact this
def nameL (s : Str) : Str := s.takeWhile (fun c => c != 32)
theorem takeWhile_len {α : Type} (p : α → Bool) (d : α) : ∀ (l : List α), (∀ j, j < (l.takeWhile p).length → p (l.getD j d) = true) ∧ ((l.takeWhile p).length < l.length → p (l.getD (l.takeWhile p).length d) = false) ∧ (l.takeWhile p).length ≤ l.length ∧ l.take (l.takeWhile p).length = l.takeWhile p
  | [] => by simp
  | c :: l => by
    have ih := takeWhile_len p d l
    cases hc : p c with
    | true =>
      rw [List.takeWhile_cons, if_pos hc]
      refine ⟨fun j hj => ?_, fun hj => ?_, by simp; exact ih.2.2.1, by simp; exact ih.2.2.2⟩
      · cases j with
        | zero => exact hc
        | succ j => exact ih.1 j (by simpa using hj)
      · simp only [List.length_cons] at hj ⊢
        exact ih.2.1 (by omega)
    | false =>
      rw [List.takeWhile_cons, if_neg (by simp [hc])]
      exact ⟨fun j hj => by simp at hj, fun _ => hc, by simp, rfl⟩
theorem nameL_at {s : Str} {k : Nat} (h1 : ∀ j, j < k → (s.getD j 0).toNat ≠ 32) (h2 : k < s.length) (h3 : (s.getD k 0).toNat = 32) : nameL s = s.take k := by
  have ht := takeWhile_len (fun c : UInt8 => c != 32) 0 s
  have hk : (nameL s).length = k := by
    rcases Nat.lt_trichotomy (nameL s).length k with h | h | h
    · have h4 := ht.2.1 (by unfold nameL at h; omega)
      have h5 := h1 _ h
      exfalso
      apply h5
      have : s.getD (nameL s).length 0 = 32 := by simpa [nameL] using h4
      rw [this]; rfl
    · exact h
    · have h4 := ht.1 k h
      exfalso
      have h5 : s.getD k 0 = 32 := UInt8.toNat_inj.1 h3
      rw [h5] at h4; simp at h4
  rw [← hk]; exact ht.2.2.2.symm
theorem nameL_all {s : Str} (h1 : ∀ j, j < s.length → (s.getD j 0).toNat ≠ 32) : nameL s = s := by
  have ht := takeWhile_len (fun c : UInt8 => c != 32) 0 s
  have hk : (nameL s).length = s.length := by
    rcases Nat.lt_or_ge (nameL s).length s.length with h | h
    · have h4 := ht.2.1 h
      exfalso
      apply h1 _ h
      have : s.getD (nameL s).length 0 = 32 := by simpa [nameL] using h4
      rw [this]; rfl
    · have := ht.2.2.1; unfold nameL at *; omega
  have := ht.2.2.2
  unfold nameL at *
  rw [hk, List.take_of_length_le (Nat.le_refl _)] at this
  exact this.symm
def contB (c : UInt8) : Bool := decide (32 ≤ c.toNat) && decide (c.toNat ≤ 126) && !(decide (c.toNat = 60) || decide (c.toNat = 62) || decide (c.toNat = 123) || decide (c.toNat = 125))
def isContent (s : Str) : Bool := decide (s.length ≤ 64) && s.all contB && isName (nameL s) && (decide ((nameL s).length = s.length) || decide ((nameL s).length + 1 < s.length)) && decide ((s.getD (s.length - 1) 0).toNat ≠ 47)
theorem isContent_iff (s : Str) : isContent s = true ↔ s.length ≤ 64 ∧ (∀ j, j < s.length → contB (s.getD j 0) = true) ∧ isName (nameL s) = true ∧ ((nameL s).length = s.length ∨ (nameL s).length + 1 < s.length) ∧ (s.getD (s.length - 1) 0).toNat ≠ 47 := by
  unfold isContent
  simp only [Bool.and_eq_true, Bool.or_eq_true, decide_eq_true_eq, all_upto contB 0, and_assoc]
theorem upto0 {Q : Nat → Prop} {k : Nat} (h : ∀ j, j < k → Q j) (hk : Q k) : ∀ j, j < k + 1 → Q j := fun j hj => by
  rcases Nat.lt_or_ge j k with h1 | h1
  · exact h j h1
  · have : j = k := by omega
    subst this; exact hk
theorem nameL_len (s : Str) : (nameL s).length ≤ s.length := (takeWhile_len (fun x : UInt8 => x != 32) 0 s).2.2.1
def sizeL (f : List Item) : Nat := (f.map (fun x => x.text.length)).sum
theorem sizeL_take (f : List Item) (k : Nat) : sizeL (f.take k) ≤ sizeL f := by
  have h : sizeL f = sizeL (f.take k) + sizeL (f.drop k) := by
    conv => lhs; rw [← List.take_append_drop k f]
    unfold sizeL
    rw [List.map_append, List.sum_append]
  omega
theorem sizeL_mem {x : Item} : ∀ {f : List Item}, x ∈ f → x.text.length ≤ sizeL f
  | y :: f, h => by
    have h2 : sizeL (y :: f) = y.text.length + sizeL f := by simp [sizeL]
    rw [h2]
    rcases List.mem_cons.1 h with rfl | h
    · omega
    · have := sizeL_mem h; omega
theorem sizeL_at (f : List Item) (k : Nat) : (f.getD k default).text.length ≤ sizeL f := by
  rcases Nat.lt_or_ge k f.length with h | h
  · have e : f.getD k default = f[k] := by simp [List.getD, h]
    rw [e]; exact sizeL_mem (List.getElem_mem h)
  · have e : f.getD k default = default := by simp [List.getD, List.getElem?_eq_none h]
    rw [e]; exact Nat.zero_le _
def Small (f : List Item) : Prop := f.length ≤ 100000 ∧ sizeL f ≤ 1000000
def isTag (x : Item) : Bool := decide (x.kind = 2) || decide (x.kind = 3) || decide (x.kind = 4)
theorem isTag_iff (x : Item) : isTag x = true ↔ (x.kind = 2 ∨ x.kind = 3) ∨ x.kind = 4 := by simp [isTag]
def clash (x y : Item) : Bool := isTag y && decide (y.id = x.id) && (decide (x.kind ≠ 3) || decide (y.kind ≠ 2) || decide (nameL y.text ≠ x.text))
def formed (b : List Item) (x : Item) : Bool :=
  if x.kind = 1 then decide (x.text ≠ []) && decide (x.id = 0) && (decide (b = []) || decide ((b.getD (b.length - 1) default).kind ≠ 1))
  else if x.kind = 5 then isName x.text && decide (x.id = 0)
  else if x.kind = 2 ∨ x.kind = 4 then isContent x.text && decide (1 ≤ x.id) && decide (x.id ≤ 999)
  else if x.kind = 3 then isName x.text && decide (1 ≤ x.id) && decide (x.id ≤ 999)
  else false
def checkL (b : List Item) (x : Item) : Int := if formed b x = true then (if isTag x && b.any (clash x) then 7 else 0) else 1
def valGo : List Item → List Item → Int
  | _, [] => 0
  | b, x :: r => if checkL b x = 0 then valGo (b ++ [x]) r else checkL b x
def normStep (out : List Item) (x : Item) : List Item :=
  if x.kind = 1 then
    if x.text = [] then out
    else if out ≠ [] ∧ (out.getD (out.length - 1) default).kind = 1 then out.set (out.length - 1) ⟨1, (out.getD (out.length - 1) default).text ++ x.text, 0⟩
    else out ++ [⟨1, x.text, 0⟩]
  else out ++ [x]
def normL (f : List Item) : List Item := f.foldl normStep []
theorem getD_take {α : Type} (f : List α) (d : α) (i j : Nat) (h : j < i) : (f.take i).getD j d = f.getD j d := by
  simp only [List.getD_eq_getElem?_getD, List.getElem?_take, if_pos h]
theorem formed_slot {b : List Item} {x : Item} (hk : x.kind = 5) : formed b x = true ↔ (isName x.text = true ∧ x.id = 0) := by
  unfold formed
  rw [if_neg (by omega), if_pos hk]
  simp
theorem formed_open {b : List Item} {x : Item} (hk : x.kind = 2 ∨ x.kind = 4) : formed b x = true ↔ ((isContent x.text = true ∧ 1 ≤ x.id) ∧ x.id ≤ 999) := by
  unfold formed
  rw [if_neg (by omega), if_neg (by omega), if_pos hk]
  simp
theorem formed_close {b : List Item} {x : Item} (hk : x.kind = 3) : formed b x = true ↔ ((isName x.text = true ∧ 1 ≤ x.id) ∧ x.id ≤ 999) := by
  unfold formed
  rw [if_neg (by omega), if_neg (by omega), if_neg (by omega), if_pos hk]
  simp
theorem clash_iff (x y : Item) : clash x y = true ↔ (isTag y = true ∧ y.id = x.id) ∧ ((¬ x.kind = 3 ∨ ¬ y.kind = 2) ∨ ¬ nameL y.text = x.text) := by
  unfold clash
  simp [or_assoc]
theorem check_ok {b : List Item} {x : Item} (h : formed b x = true) (h2 : ¬ (isTag x = true ∧ b.any (clash x) = true)) : checkL b x = 0 := by
  unfold checkL; rw [if_pos h, if_neg (by simpa using h2)]
theorem notag_of {x : Item} (h : x.kind = 1 ∨ x.kind = 5) : ¬ isTag x = true := by rw [isTag_iff]; omega
theorem formed_textb {b : List Item} {x : Item} (hk : x.kind = 1) : formed b x = true ↔ ((¬ x.text = [] ∧ x.id = 0) ∧ (b = [] ∨ ¬ (b.getD (b.length - 1) default).kind = 1)) := by
  unfold formed
  rw [if_pos hk]
  simp only [Bool.and_eq_true, Bool.or_eq_true, decide_eq_true_eq, ne_eq]
theorem chk_notag {b : List Item} {x : Item} (hk : x.kind = 1 ∨ x.kind = 5) (h : formed b x = true) : checkL b x = 0 := check_ok h (fun h2 => notag_of hk h2.1)
theorem normL_snoc (l : List Item) (x : Item) : normL (l ++ [x]) = normStep (normL l) x := by unfold normL; rw [List.foldl_append]; rfl
theorem normL_succ (f : List Item) (k : Nat) (h : k < f.length) : normL (f.take (k + 1)) = normStep (normL (f.take k)) (f.getD k default) := by rw [take_succD f k h, normL_snoc]
theorem norm_other {o : List Item} {x : Item} (h : ¬ x.kind = 1) : normStep o x = o ++ [x] := by unfold normStep; rw [if_neg h]
theorem norm_empty {o : List Item} {x : Item} (h : x.kind = 1) (h2 : x.text = []) : normStep o x = o := by unfold normStep; rw [if_pos h, if_pos h2]
theorem norm_join {o : List Item} {x : Item} (h : x.kind = 1) (h2 : ¬ x.text = []) (h3 : (0 : Int) < (o.length : Nat) ∧ (o.getD (o.length - 1) default).kind = 1) :
    normStep o x = o.set (o.length - 1) ⟨1, (o.getD (o.length - 1) default).text ++ x.text, 0⟩ := by
  unfold normStep
  have : o ≠ [] := by intro e; subst e; simp at h3
  rw [if_pos h, if_neg h2, if_pos ⟨this, h3.2⟩]
theorem norm_add {o : List Item} {x : Item} (h : x.kind = 1) (h2 : ¬ x.text = []) (h3 : ¬ ((0 : Int) < (o.length : Nat) ∧ (o.getD (o.length - 1) default).kind = 1)) : normStep o x = o ++ [⟨1, x.text, 0⟩] := by
  unfold normStep
  rw [if_pos h, if_neg h2, if_neg (fun h4 => h3 ⟨by have := List.length_pos_iff.2 h4.1; omega, h4.2⟩)]
theorem getD_snoc {α : Type} (l : List α) (x d : α) : (l ++ [x]).getD l.length d = x := by simp [List.getD]
theorem set_snoc {α : Type} (l : List α) (x y : α) : (l ++ [x]).set l.length y = l ++ [y] := by simp
theorem norm_snoc_text {o : List Item} {y x : Item} (hy : y.kind = 1) (h : x.kind = 1) (h2 : ¬ x.text = []) : normStep (o ++ [y]) x = o ++ [⟨1, y.text ++ x.text, 0⟩] := by
  have hl : (o ++ [y]).length - 1 = o.length := by simp
  rw [norm_join h h2 (by rw [hl, getD_snoc]; exact ⟨by simp, hy⟩), hl, getD_snoc, set_snoc]
theorem snoc_cases {α : Type} {Q : List α → Prop} (h0 : Q []) (h1 : ∀ l x, Q l → Q (l ++ [x])) : ∀ (m : Nat) (l : List α), l.length = m → Q l
  | 0, l, h => by have := List.eq_nil_of_length_eq_zero h; subst this; exact h0
  | m + 1, l, h => by
    have hne : l ≠ [] := by intro e; subst e; simp at h
    rw [← List.dropLast_concat_getLast hne]
    exact h1 _ _ (snoc_cases h0 h1 m _ (by simp; omega))
theorem norm_ind {Q : List Item → List Item → Prop} (h0 : Q [] []) (h1 : ∀ l x, Q l (normL l) → Q (l ++ [x]) (normStep (normL l) x)) (f : List Item) : Q f (normL f) := by
  refine snoc_cases (Q := fun f => Q f (normL f)) h0 (fun l x ih => ?_) _ f rfl
  rw [normL_snoc]; exact h1 l x ih
theorem norm_cases (o : List Item) (x : Item) : (x.kind = 1 ∧ x.text = [] ∧ normStep o x = o) ∨ (x.kind = 1 ∧ normStep o x = o ++ [⟨1, x.text, 0⟩]) ∨ (¬ x.kind = 1 ∧ normStep o x = o ++ [x]) ∨
    (x.kind = 1 ∧ ∃ m q, o = m ++ [q] ∧ q.kind = 1 ∧ normStep o x = m ++ [⟨1, q.text ++ x.text, 0⟩]) := by
  by_cases hk : x.kind = 1
  · by_cases hx : x.text = []
    · exact .inl ⟨hk, hx, norm_empty hk hx⟩
    · by_cases h3 : (0 : Int) < (o.length : Nat) ∧ (o.getD (o.length - 1) default).kind = 1
      · have hz : o ≠ [] := by intro e; subst e; simp at h3
        obtain ⟨m, q, rfl⟩ : ∃ m q, o = m ++ [q] := ⟨o.dropLast, o.getLast hz, (List.dropLast_concat_getLast hz).symm⟩
        have hl : (m ++ [q]).length - 1 = m.length := by simp
        rw [hl, getD_snoc] at h3
        exact .inr (.inr (.inr ⟨hk, m, q, rfl, h3.2, norm_snoc_text h3.2 hk hx⟩))
      · exact .inr (.inl ⟨hk, norm_add hk hx h3⟩)
  · exact .inr (.inr (.inl ⟨hk, norm_other hk⟩))
theorem sizeL_append (f g : List Item) : sizeL (f ++ g) = sizeL f + sizeL g := by simp [sizeL]
theorem sizeL_one (x : Item) : sizeL [x] = x.text.length := by simp [sizeL]
theorem normL_len (f : List Item) : (normL f).length ≤ f.length := by
  refine norm_ind (Q := fun f n => n.length ≤ f.length) (by simp) (fun l x ih => ?_) f
  rcases norm_cases (normL l) x with ⟨_, _, e⟩ | ⟨_, e⟩ | ⟨_, e⟩ | ⟨_, m, q, e0, _, e⟩
  · rw [e]; simp; omega
  · rw [e]; simp; omega
  · rw [e]; simp; omega
  · rw [e]; rw [e0] at ih; simp at ih ⊢; omega
theorem normL_size (f : List Item) : sizeL (normL f) ≤ sizeL f := by
  refine norm_ind (Q := fun f n => sizeL n ≤ sizeL f) (by simp [sizeL]) (fun l x ih => ?_) f
  rw [sizeL_append, sizeL_one]
  rcases norm_cases (normL l) x with ⟨_, _, e⟩ | ⟨_, e⟩ | ⟨_, e⟩ | ⟨_, m, q, e0, _, e⟩
  · rw [e]; omega
  · rw [e, sizeL_append, sizeL_one]; dsimp only; omega
  · rw [e, sizeL_append, sizeL_one]; omega
  · rw [e, sizeL_append, sizeL_one]; rw [e0, sizeL_append, sizeL_one] at ih; dsimp only; rw [List.length_append]; omega
def lastNT (o : List Item) : Prop := ¬ ((0 : Int) < (o.length : Nat) ∧ (o.getD (o.length - 1) default).kind = 1)
end Go.Vc
namespace Go.Vc
open Go
def firstM (fr to_ : List Int) (n : Int) : Option Int := getM (fr.zip to_) n
def ren1 (fr to_ : List Int) (x : Item) : List Item := if isTag x = true then (match firstM fr to_ x.id with | some n => [⟨x.kind, x.text, n⟩] | none => []) else [x]
def renF (fr to_ : List Int) (f : List Item) : List Item := f.flatMap (ren1 fr to_)
theorem ren1_bd (fr to_ : List Int) (x : Item) : (ren1 fr to_ x).length ≤ 1 ∧ sizeL (ren1 fr to_ x) ≤ x.text.length := by
  unfold ren1
  split
  · split
    · simp [sizeL]
    · simp [sizeL]
  · simp [sizeL]
theorem renF_bd (fr to_ : List Int) : ∀ (f : List Item), (renF fr to_ f).length ≤ f.length ∧ sizeL (renF fr to_ f) ≤ sizeL f
  | [] => by simp [renF]
  | x :: f => by
    have ih := renF_bd fr to_ f
    have h1 : renF fr to_ (x :: f) = ren1 fr to_ x ++ renF fr to_ f := by simp [renF]
    have h2 : sizeL (x :: f) = x.text.length + sizeL f := by simp [sizeL]
    have h3 := ren1_bd fr to_ x
    rw [h1, h2, List.length_append, sizeL_append, List.length_cons]
    omega
theorem small_ren {fr to_ : List Int} {f : List Item} (h : Small f) : Small (renF fr to_ f) := ⟨by have := renF_bd fr to_ f; have := h.1; omega, by have := renF_bd fr to_ f; have := h.2; omega⟩
def upL (n : Nat) : List Int := (List.range n).map (fun i => ((i : Nat) : Int) + 1)
end Go.Vc
namespace Go.Vc
open Go
theorem valGo_snoc : ∀ (f b : List Item) (x : Item), valGo b (f ++ [x]) = 0 ↔ valGo b f = 0 ∧ checkL (b ++ f) x = 0
  | [], b, x => by
    rw [List.nil_append, List.append_nil]
    have e : valGo b [x] = if checkL b x = 0 then valGo (b ++ [x]) [] else checkL b x := by
      conv => lhs; unfold valGo
    have e0 : ∀ c : List Item, valGo c [] = 0 := fun c => by rw [valGo]
    rw [e, e0, e0]
    by_cases h : checkL b x = 0
    · rw [if_pos h]; simp [h]
    · rw [if_neg h]; simp [h]
  | y :: f, b, x => by
    rw [List.cons_append, valGo, valGo]
    by_cases h : checkL b y = 0
    · rw [if_pos h, if_pos h, valGo_snoc f (b ++ [y]) x, List.append_assoc]; rfl
    · rw [if_neg h, if_neg h]
      exact ⟨fun h2 => absurd h2 h, fun h2 => absurd h2.1 h⟩
theorem val_snoc (f : List Item) (x : Item) : valGo [] (f ++ [x]) = 0 ↔ valGo [] f = 0 ∧ checkL f x = 0 := valGo_snoc f [] x
theorem checkL_form {b : List Item} {x : Item} (h : checkL b x = 0) : formed b x = true := by
  unfold checkL at h
  split at h
  · rename_i h1; exact h1
  · cases h
theorem lastNT_of {b : List Item} (h : b = [] ∨ ¬ (b.getD (b.length - 1) default).kind = 1) : lastNT b := by
  unfold lastNT
  rintro ⟨h1, h2⟩
  rcases h with h | h
  · subst h; simp at h1
  · exact h h2
theorem lastNT_to {b : List Item} (h : lastNT b) : b = [] ∨ ¬ (b.getD (b.length - 1) default).kind = 1 := by
  by_cases hb : b = []
  · exact .inl hb
  · refine .inr fun h2 => h ⟨?_, h2⟩
    have := List.length_pos_iff.2 hb
    omega
theorem chk_text {b : List Item} {t : Str} (h0 : ¬ t = []) (h : lastNT b) : checkL b ⟨1, t, 0⟩ = 0 := chk_notag (.inl rfl) ((formed_textb rfl).2 ⟨⟨h0, rfl⟩, lastNT_to h⟩)
theorem val_norm (f : List Item) : valGo [] f = 0 → normL f = f := by
  refine snoc_cases (Q := fun f => valGo [] f = 0 → normL f = f) (fun _ => rfl) (fun l x ih h => ?_) _ f rfl
  obtain ⟨h1, h2⟩ := (val_snoc l x).1 h
  rw [normL_snoc, ih h1]
  by_cases hk : x.kind = 1
  · have h3 := (formed_textb hk).1 (checkL_form h2)
    rw [norm_add hk h3.1.1 (lastNT_of h3.2)]
    obtain ⟨k, t, i⟩ := x
    obtain rfl : k = 1 := hk
    obtain rfl : i = 0 := h3.1.2
    rfl
  · rw [norm_other hk]
structure FI (f op : List Item) (id : Int) : Prop where
  pos : 0 ≤ id
  val : valGo [] f = 0
  ids : ∀ y ∈ f, isTag y = true → y.id ≤ (id : Int)
  opn : ∀ o ∈ op, o.kind = 2 ∧ isName (nameL o.text) = true ∧ 1 ≤ o.id ∧ o.id ≤ (id : Int) ∧ ∀ y ∈ f, isTag y = true → y.id = o.id → y.kind = 2 ∧ nameL y.text = nameL o.text
  dis : op.Pairwise (fun a b => a.id ≠ b.id)
theorem FI.nil : FI [] [] 0 := ⟨by decide, rfl, by simp, by simp, List.Pairwise.nil⟩
theorem FI.norm {f op : List Item} {id : Int} (h : FI f op id) (x : Item) : normL (f ++ [x]) = normStep f x := by rw [normL_snoc, val_norm f h.val]
theorem FI.same {f g op : List Item} {id : Int} (h : FI f op id) (hv : valGo [] g = 0) (hm : ∀ y ∈ g, isTag y = true → y ∈ f) : FI g op id :=
  ⟨h.pos, hv, fun y hy ht => h.ids y (hm y hy ht) ht, fun o ho => by
    obtain ⟨h1, h2, h3, h4, h5⟩ := h.opn o ho
    exact ⟨h1, h2, h3, h4, fun y hy ht => h5 y (hm y hy ht) ht⟩, h.dis⟩
theorem notag1 (t : Str) (i : Int) : ¬ isTag (⟨1, t, i⟩ : Item) = true := by rw [isTag_iff]; simp
theorem FI.text {f op : List Item} {id : Int} (h : FI f op id) (t : Str) : FI (normStep f ⟨1, t, 0⟩) op id := by
  by_cases ht : t = []
  · rw [norm_empty rfl ht]; exact h
  · by_cases h3 : lastNT f
    · rw [norm_add (x := ⟨1, t, 0⟩) rfl ht h3]
      refine h.same ((val_snoc _ _).2 ⟨h.val, chk_text ht h3⟩) (fun y hy hy2 => ?_)
      rcases List.mem_append.1 hy with h4 | h4
      · exact h4
      · simp at h4; subst h4; exact absurd hy2 (notag1 _ _)
    · have h3' : (0 : Int) < (f.length : Nat) ∧ (f.getD (f.length - 1) default).kind = 1 := Decidable.byContradiction h3
      have hz : f ≠ [] := by intro e; subst e; simp at h3'
      obtain ⟨m, q, rfl⟩ : ∃ m q, f = m ++ [q] := ⟨f.dropLast, f.getLast hz, (List.dropLast_concat_getLast hz).symm⟩
      have hl : (m ++ [q]).length - 1 = m.length := by simp
      rw [hl, getD_snoc] at h3'
      rw [norm_snoc_text (x := ⟨1, t, 0⟩) h3'.2 rfl ht]
      obtain ⟨h1, h2⟩ := (val_snoc m q).1 h.val
      have h5 := (formed_textb h3'.2).1 (checkL_form h2)
      refine h.same ((val_snoc _ _).2 ⟨h1, chk_text (by simp [ht]) (lastNT_of h5.2)⟩) (fun y hy hy2 => ?_)
      rcases List.mem_append.1 hy with h4 | h4
      · exact List.mem_append_left _ h4
      · simp at h4; subst h4; exact absurd hy2 (notag1 _ _)
theorem FI.slot {f op : List Item} {id : Int} (h : FI f op id) {t : Str} (ht : isName t = true) : FI (normStep f ⟨5, t, 0⟩) op id := by
  rw [norm_other (by simp)]
  refine h.same ((val_snoc _ _).2 ⟨h.val, chk_notag (.inr rfl) ((formed_slot rfl).2 ⟨ht, rfl⟩)⟩) (fun y hy hy2 => ?_)
  rcases List.mem_append.1 hy with h4 | h4
  · exact h4
  · simp at h4; subst h4; exact absurd hy2 (notag_of (.inr rfl))
theorem FI.new {f op : List Item} {id : Int} (h : FI f op id) {x : Item} (hk : x.kind ≠ 1) (hid : x.id = (id : Int) + 1) (hf : formed f x = true) : FI (normStep f x) op (id + 1) := by
  rw [norm_other hk]
  have hnc : f.any (clash x) = false := by
    rw [List.any_eq_false]
    intro y hy hc
    have h1 := (clash_iff x y).1 hc
    have := h.ids y hy h1.1.1
    omega
  have hp := h.pos
  refine ⟨by omega, (val_snoc _ _).2 ⟨h.val, check_ok hf (fun h2 => by rw [hnc] at h2; simp at h2)⟩, fun y hy ht => ?_, fun o ho => ?_, h.dis⟩
  · rcases List.mem_append.1 hy with h4 | h4
    · have := h.ids y h4 ht; omega
    · simp at h4; subst h4; omega
  · obtain ⟨h1, h2, h3, h4, h5⟩ := h.opn o ho
    refine ⟨h1, h2, h3, by omega, fun y hy ht hyo => ?_⟩
    rcases List.mem_append.1 hy with h6 | h6
    · exact h5 y h6 ht hyo
    · simp at h6; subst h6; omega
theorem content_name {s : Str} (h : isContent s = true) : isName (nameL s) = true := ((isContent_iff s).1 h).2.2.1
theorem FI.empty {f op : List Item} {id : Int} (h : FI f op id) {t : Str} (ht : isContent t = true) (hid : id + 1 ≤ 999) : FI (normStep f ⟨4, t, (id : Int) + 1⟩) op (id + 1) :=
  h.new (by simp) rfl ((formed_open (.inr rfl)).2 ⟨⟨ht, by have := h.pos; simp; omega⟩, by simp; omega⟩)
theorem FI.open_ {f op : List Item} {id : Int} (h : FI f op id) {t : Str} (ht : isContent t = true) (hid : id + 1 ≤ 999) : FI (normStep f ⟨2, t, (id : Int) + 1⟩) (op ++ [⟨2, t, (id : Int) + 1⟩]) (id + 1) := by
  have h1 := h.new (x := ⟨2, t, (id : Int) + 1⟩) (by simp) rfl ((formed_open (.inl rfl)).2 ⟨⟨ht, by have := h.pos; simp; omega⟩, by simp; omega⟩)
  have hp := h.pos
  refine ⟨h1.pos, h1.val, h1.ids, fun o ho => ?_, List.pairwise_append.2 ⟨h.dis, List.pairwise_singleton _ _, fun a ha b hb => ?_⟩⟩
  · rcases List.mem_append.1 ho with h2 | h2
    · exact h1.opn o h2
    · simp at h2; subst h2
      refine ⟨rfl, content_name ht, (by first | (simp; done) | (simp; omega)), (by first | (simp; done) | (simp; omega)), fun y hy hyt hyo => ?_⟩
      rw [norm_other (by simp)] at hy
      rcases List.mem_append.1 hy with h6 | h6
      · have := h.ids y h6 hyt
        simp only at hyo
        omega
      · simp at h6; subst h6; exact ⟨rfl, rfl⟩
  · simp at hb; subst hb
    have := (h.opn a ha).2.2.2.1
    simp only
    omega
theorem FI.closeNew {f op : List Item} {id : Int} (h : FI f op id) {t : Str} (ht : isName t = true) (hid : id + 1 ≤ 999) : FI (normStep f ⟨3, t, (id : Int) + 1⟩) op (id + 1) :=
  h.new (by simp) rfl ((formed_close rfl).2 ⟨⟨ht, by have := h.pos; simp; omega⟩, by simp; omega⟩)
theorem FI.close {f op : List Item} {id : Int} (h : FI f op id) {k : Nat} (hk : k < op.length) (hid : id ≤ 999) : FI (normStep f ⟨3, nameL (op.getD k default).text, (op.getD k default).id⟩) (op.take k ++ op.drop (k + 1)) id := by
  have e : op.getD k default = op[k] := by simp [List.getD, hk]
  rw [e, norm_other (by simp)]
  have hm : op[k] ∈ op := List.getElem_mem hk
  obtain ⟨h1, h2, h3, h4, h5⟩ := h.opn _ hm
  have hsp : op = op.take k ++ op[k] :: op.drop (k + 1) := by rw [← List.drop_eq_getElem_cons hk, List.take_append_drop]
  have hd := h.dis
  rw [hsp, List.pairwise_append, List.pairwise_cons] at hd
  have hnc : f.any (clash ⟨3, nameL op[k].text, op[k].id⟩) = false := by
    rw [List.any_eq_false]
    intro y hy hc
    have h6 := (clash_iff _ y).1 hc
    have h7 := h5 y hy h6.1.1 h6.1.2
    rcases h6.2 with (h8 | h8) | h8
    · exact h8 rfl
    · exact h8 h7.1
    · exact h8 h7.2
  have hsub : ∀ o ∈ op.take k ++ op.drop (k + 1), o ∈ op ∧ o.id ≠ op[k].id := fun o ho => by
    rcases List.mem_append.1 ho with h6 | h6
    · exact ⟨List.mem_of_mem_take h6, hd.2.2 o h6 _ (List.mem_cons_self ..)⟩
    · exact ⟨List.mem_of_mem_drop h6, fun e2 => hd.2.1.1 o h6 e2.symm⟩
  refine ⟨h.pos, (val_snoc _ _).2 ⟨h.val, check_ok ((formed_close rfl).2 ⟨⟨h2, h3⟩, by simp only; omega⟩) (fun h6 => by rw [hnc] at h6; simp at h6)⟩, fun y hy ht => ?_, fun o ho => ?_, ?_⟩
  · rcases List.mem_append.1 hy with h6 | h6
    · exact h.ids y h6 ht
    · simp at h6; subst h6; exact h4
  · obtain ⟨ho1, ho2⟩ := hsub o ho
    obtain ⟨g1, g2, g3, g4, g5⟩ := h.opn o ho1
    refine ⟨g1, g2, g3, g4, fun y hy ht hyo => ?_⟩
    rcases List.mem_append.1 hy with h6 | h6
    · exact g5 y h6 ht hyo
    · simp at h6; subst h6; exact absurd hyo.symm ho2
  · rw [List.pairwise_append]
    exact ⟨hd.1, hd.2.1.2, fun a ha b hb => hd.2.2 a ha b (List.mem_cons_of_mem _ hb)⟩
def slotW : List Str := [[110], [110, 97, 109, 101], [120, 49]]
def emptyW : List Str := [[98, 114], [105, 109, 103, 32, 97]]
def openW : List Str := [[98], [105], [97, 32, 104, 61, 49]]
theorem slotW_ok : ∀ j, j < 3 → isName (slotW.getD j default) = true ∧ (slotW.getD j default).length ≤ 5 := by decide
theorem emptyW_ok : ∀ j, j < 2 → isContent (emptyW.getD j default) = true ∧ (emptyW.getD j default).length ≤ 5 := by decide
theorem openW_ok : ∀ j, j < 3 → isContent (openW.getD j default) = true ∧ (openW.getD j default).length ≤ 5 := by decide
theorem text5 {op : List Item} (h : ∀ o ∈ op, o.text.length ≤ 5) (k : Nat) : (op.getD k default).text.length ≤ 5 := by
  rcases Nat.lt_or_ge k op.length with h1 | h1
  · have e : op.getD k default = op[k] := by simp [List.getD, h1]
    rw [e]; exact h _ (List.getElem_mem h1)
  · have e : op.getD k default = default := by simp [List.getD, List.getElem?_eq_none h1]
    rw [e]; exact Nat.zero_le _
theorem FI.closeLast {f op : List Item} {id : Int} {j : Nat} (h0 : 0 < j) (hj : j ≤ op.length) (h : FI f (op.take j) id) (hid : id ≤ 999) :
    FI (f ++ [⟨3, nameL (op.getD (j - 1) default).text, (op.getD (j - 1) default).id⟩]) (op.take (j - 1)) id := by
  have h1 := h.close (k := j - 1) (by rw [List.length_take]; omega) hid
  have e1 : (op.take j).getD (j - 1) default = op.getD (j - 1) default := getD_take op default j (j - 1) (by omega)
  have e2 : (op.take j).take (j - 1) = op.take (j - 1) := by rw [List.take_take]; congr 1; omega
  have e3 : (op.take j).drop (j - 1 + 1) = [] := List.drop_eq_nil_of_le (by rw [List.length_take]; omega)
  rw [e1, e2, e3, List.append_nil, norm_other (by simp)] at h1
  exact h1
def shapeStep (o : Option (List Int × List Int)) (x : Item) : Option (List Int × List Int) :=
  match o with
  | none => none
  | some (c, s) =>
    if x.kind = 2 then some (c, s ++ [x.id])
    else if x.kind = 3 then (if s.length = 0 then some (c ++ [x.id], s) else if s.getD (s.length - 1) default = x.id then some (c, s.take (s.length - 1)) else none)
    else some (c, s)
def shapeL (f : List Item) : Option (List Int × List Int) := f.foldl shapeStep (some ([], []))
theorem shape_snoc (f : List Item) (x : Item) : shapeL (f ++ [x]) = shapeStep (shapeL f) x := by unfold shapeL; rw [List.foldl_append]; rfl
theorem shape_other {o : Option (List Int × List Int)} {x : Item} (h2 : ¬ x.kind = 2) (h3 : ¬ x.kind = 3) : shapeStep o x = o := by
  unfold shapeStep
  cases o with
  | none => rfl
  | some p => obtain ⟨c, s⟩ := p; simp only [if_neg h2, if_neg h3]
theorem shape_open {o : Option (List Int × List Int)} {c s : List Int} {x : Item} (ho : o = some (c, s)) (h : x.kind = 2) : shapeStep o x = some (c, s ++ [x.id]) := by
  subst ho; unfold shapeStep; simp only [if_pos h]
theorem shape_match {o : Option (List Int × List Int)} {c s : List Int} {x : Item} (ho : o = some (c, s)) (h : x.kind = 3) (hs : ¬ s.length = 0) (he : s.getD (s.length - 1) default = x.id) : shapeStep o x = some (c, s.take (s.length - 1)) := by
  subst ho; unfold shapeStep; simp only [if_neg (show ¬ x.kind = 2 by omega), if_pos h, if_neg hs, if_pos he]
theorem shape_normStep (f : List Item) (x : Item) : shapeL (normStep f x) = shapeStep (shapeL f) x := by
  rcases norm_cases f x with ⟨h1, h2, e⟩ | ⟨h1, e⟩ | ⟨h1, e⟩ | ⟨h1, m, q, e0, hq, e⟩
  · rw [e, shape_other (by omega) (by omega)]
  · rw [e, shape_snoc, shape_other (by simp) (by simp), shape_other (by omega) (by omega)]
  · rw [e, shape_snoc]
  · rw [e, shape_snoc, shape_other (by simp) (by simp), shape_other (x := x) (by omega) (by omega), e0, shape_snoc, shape_other (by omega) (by omega)]
def NS (nb : Bool) (f op : List Item) : Prop := nb = true → shapeL f = some ([], op.map (fun o => o.id))
theorem NS.nil (nb : Bool) : NS nb [] [] := fun _ => rfl
theorem NS.other {nb : Bool} {f op : List Item} (h : NS nb f op) {x : Item} (h2 : ¬ x.kind = 2) (h3 : ¬ x.kind = 3) : NS nb (normStep f x) op := fun hn => by rw [shape_normStep, shape_other h2 h3, h hn]
theorem NS.otherB {nb : Bool} {f op : List Item} (h : NS nb f op) {x : Item} (h2 : (x.kind == 2) = false) (h3 : (x.kind == 3) = false) : NS nb (normStep f x) op := h.other (by simpa using h2) (by simpa using h3)
theorem NS.open_ {nb : Bool} {f op : List Item} (h : NS nb f op) (t : Str) (i : Int) : NS nb (normStep f ⟨2, t, i⟩) (op ++ [⟨2, t, i⟩]) := fun hn => by
  rw [shape_normStep, shape_open (h hn) rfl]; simp
theorem NS.closeNew {nb : Bool} {f op : List Item} (hn : ¬ nb = true) : NS nb f op := fun h => absurd h hn
theorem NS.close {nb : Bool} {f op : List Item} (h : NS nb f op) {k : Nat} (hk : k < op.length) (hl : nb = true → k = op.length - 1) (t : Str) : NS nb (normStep f ⟨3, t, (op.getD k default).id⟩) (op.take k ++ op.drop (k + 1)) := fun hn => by
  have e := hl hn
  have e2 : (op.map (fun o => o.id)).getD ((op.map (fun o => o.id)).length - 1) default = (op.getD k default).id := by
    rw [List.length_map, ← e]; simp [List.getD, hk]
  rw [shape_normStep, shape_match (x := ⟨3, t, (op.getD k default).id⟩) (h hn) rfl (by simp; intro e3; subst e3; simp at hk) e2, List.drop_eq_nil_of_le (by omega), List.append_nil, List.length_map, ← e, List.map_take]
theorem NS.closeLast {nb : Bool} {f op : List Item} {j : Nat} (h0 : 0 < j) (hj : j ≤ op.length) (h : NS nb f (op.take j)) (t : Str) : NS nb (f ++ [⟨3, t, (op.getD (j - 1) default).id⟩]) (op.take (j - 1)) := by
  have h1 := h.close (k := j - 1) (by rw [List.length_take]; omega) (fun _ => by rw [List.length_take]; omega) t
  have e1 : (op.take j).getD (j - 1) default = op.getD (j - 1) default := getD_take op default j (j - 1) (by omega)
  have e2 : (op.take j).take (j - 1) = op.take (j - 1) := by rw [List.take_take]; congr 1; omega
  have e3 : (op.take j).drop (j - 1 + 1) = [] := List.drop_eq_nil_of_le (by rw [List.length_take]; omega)
  rw [e1, e2, e3, List.append_nil, norm_other (by simp)] at h1
  exact h1
theorem NS.done {nb : Bool} {f op : List Item} {j : Nat} (h : NS nb f (op.take j)) (h0 : ¬ ((0 : Int) ≤ (j : Int) - 1 ∧ nb = true)) (hn : nb = true) : shapeL f = some ([], []) := by
  have e : j = 0 := by
    rcases Nat.eq_zero_or_pos j with h1 | h1
    · exact h1
    · exact absurd ⟨by omega, hn⟩ h0
  subst e
  exact h hn
end Go.Vc
namespace Go.Vc
open Go
def hd1 : List Item → Prop
  | [] => False
  | y :: _ => y.kind = 1
def NA : List Item → Prop
  | [] => True
  | x :: l => ¬ (x.kind = 1 ∧ hd1 l) ∧ NA l
def QQ (y x : Item) : Prop := isTag x = true → clash x y = false
structure VF (f : List Item) : Prop where
  each : ∀ x ∈ f, formed [] x = true
  na : NA f
  qq : f.Pairwise QQ
def Eqv (A B : List Item) : Prop := ∀ o : List Item, A.foldl normStep o = B.foldl normStep o
theorem Eqv.refl (A : List Item) : Eqv A A := fun _ => rfl
theorem Eqv.symm {A B : List Item} (h : Eqv A B) : Eqv B A := fun o => (h o).symm
theorem Eqv.trans {A B C : List Item} (h : Eqv A B) (h2 : Eqv B C) : Eqv A C := fun o => (h o).trans (h2 o)
theorem Eqv.append {A B A' B' : List Item} (h : Eqv A A') (h2 : Eqv B B') : Eqv (A ++ B) (A' ++ B') := fun o => by rw [List.foldl_append, List.foldl_append, h, h2]
theorem Eqv.norm {A B : List Item} (h : Eqv A B) : normL A = normL B := h []
def one (c : UInt8) : Item := ⟨1, [c], 0⟩
end Go.Vc
namespace Go.Vc
open Go
structure InjT (r : Int → Int) (f : List Item) : Prop where
  inj : ∀ x ∈ f, ∀ y ∈ f, isTag x = true → isTag y = true → r x.id = r y.id → x.id = y.id
theorem InjT.left {r : Int → Int} {f g : List Item} (h : InjT r (f ++ g)) : InjT r f := ⟨fun x hx y hy => h.inj x (by simp [hx]) y (by simp [hy])⟩
end Go.Vc
namespace Go.Vc
open Go
structure PairOk (b : List Item) (p : List Int × List Int) (k : Nat) : Prop where
  len : p.1.length = p.2.length
  le : p.1.length ≤ k
  nd : p.2.Nodup
end Go.Vc
namespace Go.Vc
open Go Go.RowKit Go.IntWalk
def lst (ops : Array Oper) : List Nat → Array Bool
  | [] => Array.replicate ops.size false
  | i :: d => (lst ops d).setIfInBounds i true
def closedB (ops : Array Oper) (l : Array Bool) : Bool := (List.range ops.size).all fun k => !(l.getD k true) || match ops[k]? with
  | some ok => ok.after.all fun e => !(Region.binds .any e) || l.getD e.on true
  | none => true
def takeB (ops : Array Oper) (d : List Nat) (i : Nat) : Bool := Region.noSelect ops && Region.free .any ops (lst ops d) i && (Region.ready .any ops (lst ops d)).contains i && closedB ops (lst ops d)
def readyB (ops : Array Oper) (d rs : List Nat) : Bool := Region.ready .any ops (lst ops d) == rs
def onB (ops : Array Oper) (k i : Nat) : Bool := match ops[k]? with
  | some ok => ok.after.any fun e => Region.binds .any e && e.on == i
  | none => false
def waitB (ops : Array Oper) : Nat → Nat → Nat → Bool
  | 0, j, i => onB ops j i
  | m + 1, j, i => onB ops j i || match ops[j]? with
    | some oj => oj.after.any fun e => Region.binds .any e && waitB ops m e.on i
    | none => false
def finalB (ops : Array Oper) (j : Nat) : Bool := match ops[j]? with
  | some _ => (List.range ops.size).all fun i => i == j || waitB ops 8 j i || waitB ops 8 i j
  | none => false
theorem onB_spec {ops : Array Oper} {k i : Nat} (h : onB ops k i = true) : ∃ ok, ops[k]? = some ok ∧ ∃ e ∈ ok.after, Region.binds .any e = true ∧ e.on = i := by
  unfold onB at h
  split at h
  · rename_i ok hok
    obtain ⟨e, he, hb⟩ := Array.any_eq_true'.1 h
    simp only [Bool.and_eq_true, beq_iff_eq] at hb
    exact ⟨ok, hok, e, he, hb.1, hb.2⟩
  · cases h
theorem closedB_spec {ops : Array Oper} {l : Array Bool} (h : closedB ops l = true) {k : Nat} {ok : Oper} (hk : ops[k]? = some ok) (hm : l.getD k true = true) : ∀ e ∈ ok.after, Region.binds .any e = true → l.getD e.on true = true := by
  intro e he hb
  have hlt := (Array.getElem?_eq_some_iff.1 hk).1
  have h1 := List.all_eq_true.1 h k (List.mem_range.2 hlt)
  rw [hm, hk] at h1
  simp only [Bool.not_true, Bool.false_or] at h1
  have h2 := Array.all_eq_true_iff_forall_mem.1 h1 e he
  rw [hb] at h2
  simpa using h2
theorem closedB_mk {ops : Array Oper} {l : Array Bool} (h : ∀ k ok, ops[k]? = some ok → l.getD k true = true → ∀ e ∈ ok.after, Region.binds .any e = true → l.getD e.on true = true) : closedB ops l = true := by
  refine List.all_eq_true.2 fun k hk => ?_
  cases hm : l.getD k true with
  | false => rfl
  | true =>
    simp only [Bool.not_true, Bool.false_or]
    split
    · rename_i ok hok
      refine Array.all_eq_true_iff_forall_mem.2 fun e he => ?_
      cases hb : Region.binds .any e with
      | false => rfl
      | true => simpa using h k ok hok hm e he hb
    · rfl
theorem waitB_spec {ops : Array Oper} {l : Array Bool} (hcl : closedB ops l = true) {i : Nat} : ∀ (m j : Nat), (∀ oj, ops[j]? = some oj → ∀ e ∈ oj.after, Region.binds .any e = true → l.getD e.on true = true) → waitB ops m j i = true → l.getD i true = true
  | m, j, hall, h => by
    have hd : onB ops j i = true → l.getD i true = true := fun h1 => by
      obtain ⟨ok, hok, e, he, hb, heq⟩ := onB_spec h1
      rw [← heq]; exact hall ok hok e he hb
    cases m with
    | zero => exact hd h
    | succ m =>
      unfold waitB at h
      rw [Bool.or_eq_true] at h
      rcases h with h | h
      · exact hd h
      · split at h
        · rename_i oj hoj
          obtain ⟨e, he, hb⟩ := Array.any_eq_true'.1 h
          simp only [Bool.and_eq_true] at hb
          exact waitB_spec hcl m e.on (fun ok hok => closedB_spec hcl hok (hall oj hoj e he hb.1)) hb.2
        · cases h
theorem final_false {ops : Array Oper} {l : Array Bool} {i j : Nat} {oj : Oper} (hcl : closedB ops l = true) (hne : j ≠ i) (hi : i < ops.size) (hj : ops[j]? = some oj) (hall : ∀ e ∈ oj.after, Region.binds .any e = true → l.getD e.on true = true) (hun : l.getD i true = false)
    (hunj : l.getD j true = false) (hdi : ∀ oi, ops[i]? = some oi → ∀ e ∈ oi.after, Region.binds .any e = true → l.getD e.on true = true) : finalB ops j = false := by
  cases h : finalB ops j with
  | false => rfl
  | true =>
    unfold finalB at h
    rw [hj] at h
    have h1 := List.all_eq_true.1 h i (List.mem_range.2 hi)
    simp only [Bool.or_eq_true, beq_iff_eq] at h1
    rcases h1 with (h1 | h1) | h1
    · exact absurd h1.symm hne
    · have := waitB_spec hcl 8 j (fun ok hok => by rw [hj] at hok; injection hok with hok; subst hok; exact hall) h1
      rw [hun] at this; cases this
    · have := waitB_spec hcl 8 i hdi h1
      rw [hunj] at this; cases this
section
variable {P : Program} {ops : Array Oper} {Q : Exit → Act → World → Prop} {S : World → Prop}
def AnyF (P : Program) (ops : Array Oper) (Q : Exit → Act → World → Prop) (S : World → Prop) : Nat → Array Bool → Act → World → Prop
  | 0, l, a, w => Region.ready .any ops l = [] ∧ Q .normal a w
  | m + 1, l, a, w => (Region.ready .any ops l = [] → Q .normal a w) ∧
    ∀ i ∈ Region.ready .any ops l, wpOp P ops Q i (fun a' w' => (finalB ops i = false → S w') ∧ AnyF P ops Q S m (l.setIfInBounds i true) a' w') a w
theorem any_of_F : ∀ (m : Nat) (l : Array Bool) (a : Act) (w : World), AnyF P ops Q S m l a w → wpAny P .any ops Q m l a w
  | 0, _, _, _, h => h
  | m + 1, _, _, _, h => ⟨h.1, fun i hi => wpOp_mono (fun _ _ h2 => any_of_F m _ _ _ h2.2) (h.2 i hi)⟩
theorem AnyF_first {i : Nat} {oi : Oper} {v : Value} (hi : ops[i]? = some oi) (hsel : ∀ (j : Nat) (o : Oper) cs b, ops[j]? = some o → o.op ≠ .select cs b) (hQ : ∀ c a w, Q (.panic c) (a.put oi.dst v) w → Q (.panic c) a w) :
    ∀ (m : Nat) (l : Array Bool) (a : Act) (w : World), closedB ops l = true → (∀ j oj, ops[j]? = some oj → j ≠ i → l.getD j true = false → (∀ e ∈ oj.after, Region.binds .any e = true → e.on ≠ i) → oi.apart ops oj = true) →
      i ∈ Region.ready .any ops l → YieldsIf P ops S oi v a → S w → AnyF P ops Q S m (l.setIfInBounds i true) (a.put oi.dst v) w → AnyF P ops Q S (m + 1) l a w := by
  have hlt : i < ops.size := (Array.getElem?_eq_some_iff.1 hi).1
  intro m
  induction m with
  | zero =>
    intro l a w _ _ hr hy hS H
    refine ⟨fun h => absurd (h ▸ hr) (by simp), fun j hj => ?_⟩
    by_cases hji : j = i
    · subst hji; exact hy.wpOp hi hS ⟨fun _ => hS, H⟩
    · have h1 := ready_mono hj hji
      rw [H.1] at h1
      exact absurd h1 (by simp)
  | succ m ih =>
    intro l a w hcl hfree hr hy hS H
    refine ⟨fun h => absurd (h ▸ hr) (by simp), fun j hj => ?_⟩
    by_cases hji : j = i
    · subst hji; exact hy.wpOp hi hS ⟨fun _ => hS, H⟩
    · have h1 := H.2 j (ready_mono hj hji)
      obtain ⟨hjun, oj, hoj, hall⟩ := mem_ready.1 hj
      have h0 := (mem_ready.1 hr).1
      have hil : l.getD i false = false := by
        rcases Nat.lt_or_ge i l.size with h' | h'
        · simp [h'] at h0 ⊢; exact h0
        · simp [Array.getElem?_eq_none h'] at h0
      have hnot : ∀ e ∈ oj.after, Region.binds .any e = true → e.on ≠ i := fun e he hb heq => by
        have h3 := hall e he hb
        rw [heq, hil] at h3
        cases h3
      have hun : l.getD i true = false := by simpa using h0
      have hallT : ∀ e ∈ oj.after, Region.binds .any e = true → l.getD e.on true = true := fun e he hb => by
        have h3 := hall e he hb
        rcases Nat.lt_or_ge e.on l.size with h' | h'
        · simp [h'] at h3 ⊢; exact h3
        · simp [Array.getElem?_eq_none h']
      have hdiT : ∀ ok, ops[i]? = some ok → ∀ e ∈ ok.after, Region.binds .any e = true → l.getD e.on true = true := fun ok hok e he hb => by
        obtain ⟨_, o2, ho2, hall2⟩ := mem_ready.1 hr
        rw [hok] at ho2; injection ho2 with ho2; subst ho2
        have h3 := hall2 e he hb
        rcases Nat.lt_or_ge e.on l.size with h' | h'
        · simp [h'] at h3 ⊢; exact h3
        · simp [Array.getElem?_eq_none h']
      have hfin := final_false hcl hji hlt hoj hallT hun hjun hdiT
      have hcl2 : closedB ops (l.setIfInBounds j true) = true := closedB_mk fun k ok hok hk e he hb => by
        have hset : ∀ q, l.getD q true = true → (l.setIfInBounds j true).getD q true = true := fun q hq => by
          by_cases hjq : j = q
          · subst hjq
            rcases Nat.lt_or_ge j l.size with h' | h'
            · simp [h']
            · simp
          · rw [getD_set_ne true hjq]; exact hq
        by_cases hjk : j = k
        · subst hjk
          rw [hoj] at hok; injection hok with hok; subst hok
          exact hset _ (hallT e he hb)
        · rw [getD_set_ne true hjk] at hk
          exact hset _ (closedB_spec hcl hok hk e he hb)
      have h2 := wpOp_putIf hoj (hfree j oj hoj hji hjun hnot) (fun cs b => hsel i oi cs b hi) (fun cs b => hsel j oj cs b hoj) hQ hy h1
      refine wpOp_mono (fun a' w' h3 => ?_) h2
      have hS' := h3.2.1 hfin
      refine ⟨fun _ => hS', ih (l.setIfInBounds j true) a' w' hcl2 (fun k ok hk hki hun hno => ?_) (ready_mono hr (Ne.symm hji)) h3.1 hS' ?_⟩
      · refine hfree k ok hk hki ?_ hno
        by_cases hjk : j = k
        · subst hjk; exact hjun
        · rw [getD_set_ne true hjk] at hun; exact hun
      · rw [Array.setIfInBounds_comm _ _ hji]
        exact h3.2.2
theorem AnyF_take {i : Nat} {oi : Oper} {v : Value} {m : Nat} {l : Array Bool} {a : Act} {w : World} (hi : ops[i]? = some oi) (hs : Region.noSelect ops = true) (hf : Region.free .any ops l i = true) (hr : (Region.ready .any ops l).contains i = true) (hcl : closedB ops l = true)
    (hQ : ∀ c a w, Q (.panic c) (a.put oi.dst v) w → Q (.panic c) a w) (hy : YieldsIf P ops S oi v a) (hS : S w) (h : AnyF P ops Q S m (l.setIfInBounds i true) (a.put oi.dst v) w) : AnyF P ops Q S (m + 1) l a w :=
  AnyF_first hi (Region.noSelect_spec hs) hQ m l a w hcl (Region.free_spec hi hf) (by simpa using hr) hy hS h
theorem AnyF_all {rs : List Nat} {m : Nat} {l : Array Bool} {a : Act} {w : World} (hr : Region.ready .any ops l = rs) (hne : rs ≠ [])
    (h : ∀ i ∈ rs, wpOp P ops Q i (fun a' w' => (finalB ops i = false → S w') ∧ AnyF P ops Q S m (l.setIfInBounds i true) a' w') a w) : AnyF P ops Q S (m + 1) l a w :=
  ⟨fun h0 => absurd (hr ▸ h0) hne, hr ▸ h⟩
theorem AnyF_done {l : Array Bool} {a : Act} {w : World} (hr : Region.ready .any ops l = []) (h : Q .normal a w) : ∀ m, AnyF P ops Q S m l a w
  | 0 => ⟨hr, h⟩
  | _ + 1 => ⟨fun _ => h, by rw [hr]; simp⟩
end
section
variable {P : Program} {B : Exit → Act → World → Prop} {n : Nat} {k : List Kont} {f : Fr} {w : World} {ops : Array Oper} {S : World → Prop} {fuel : Nat} {d : List Nat}
def HQ (P : Program) (B : Exit → Act → World → Prop) (k : List Kont) : Exit → Act → World → Prop := NoPanic (Kx P B k)
def HA (P : Program) (B : Exit → Act → World → Prop) (n : Nat) (k : List Kont) (S : World → Prop) (ops : Array Oper) (fuel : Nat) (d : List Nat) (f : Fr) (w : World) : Prop :=
  ∀ a, Is n f a → AnyF P ops (HQ P B k) S fuel (lst ops d) a w
def HO (P : Program) (B : Exit → Act → World → Prop) (n : Nat) (k : List Kont) (S : World → Prop) (ops : Array Oper) (fuel : Nat) (d : List Nat) (f : Fr) (w : World) (i : Nat) : Prop :=
  ∀ a, Is n f a → wpOp P ops (HQ P B k) i (fun a' w' => (finalB ops i = false → S w') ∧ AnyF P ops (HQ P B k) S fuel (lst ops (i :: d)) a' w') a w
def BH (P : Program) (B : Exit → Act → World → Prop) (_n : Nat) (k : List Kont) (S : World → Prop) (ops : Array Oper) (fuel : Nat) (i : Nat) (d : List Nat) : Exit → Act → World → Prop
  | .normal, a, w => (finalB ops i = false → S w) ∧ AnyF P ops (HQ P B k) S fuel (lst ops (i :: d)) a w
  | _, _, _ => False
theorem h_region {id : Nat} {l : List Oper} (E : List Nat) (hm : P.follows .mixedOrders = true) (h : ∀ w1, Evo w w1 [] → Evo w w1 E → HA P B n k (fun w' => Evo w w' E) l.toArray l.toArray.size [] f w1) : KF P B n (.code (.region id l.toArray true) :: k) f w := by
  intro a ha
  show (Code.region id l.toArray true).wp P (Kx P B k) a w
  exact wp_region_noPanic (wp_region_any hm (any_of_F _ _ _ _ (h _ (Evo.drew _ _) (Evo.drew _ _) a ha)))
theorem h_take {i s : Nat} {oi : Oper} {v : Value} (hi : ops[i]? = some oi) (hg : oi.guard = none) (hdst : oi.dst = some s) (hd : Nat.blt s n = true) (hc : takeB ops d i = true)
    (hrun : ∀ w', S w' → (execOp (opv f) oi).run P w' = .ok (.value v) w') (hS : S w) (h : HA P B n k S ops fuel (i :: d) (upd f s v) w) : HA P B n k S ops (fuel + 1) d f w := by
  intro a ha
  simp only [takeB, Bool.and_eq_true] at hc
  refine AnyF_take (v := v) hi hc.1.1.1 hc.1.1.2 hc.1.2 hc.2 (fun _ _ _ h => (h : False).elim) (.inl ⟨by simp [Region.wanted, hg], fun w' hw' => ?_⟩) hS ?_
  · rw [ha.eval]; exact hrun w' hw'
  · rw [hdst]; exact h _ (ha.put hd v)
theorem h_all (rs : List Nat) (hr : readyB ops d rs = true) (hne : rs ≠ []) (h : ∀ i ∈ rs, HO P B n k S ops fuel d f w i) : HA P B n k S ops (fuel + 1) d f w := by
  intro a ha
  exact AnyF_all (by simpa [readyB] using hr) hne (fun i hi => h i hi a ha)
theorem h_one {i : Nat} (hr : readyB ops d [i] = true) (h : HO P B n k S ops fuel d f w i) : HA P B n k S ops (fuel + 1) d f w :=
  h_all [i] hr (by simp) (by intro j hj; simp at hj; subst hj; exact h)
theorem h_two {i j : Nat} (hr : readyB ops d [i, j] = true) (h : HO P B n k S ops fuel d f w i) (h2 : HO P B n k S ops fuel d f w j) : HA P B n k S ops (fuel + 1) d f w :=
  h_all [i, j] hr (by simp) (by intro q hq; simp at hq; rcases hq with rfl | rfl <;> assumption)
theorem h_done (hr : readyB ops d [] = true) (h : KF P B n k f w) : HA P B n k S ops fuel d f w := by
  intro a ha
  exact AnyF_done (by simpa [readyB] using hr) (NoPanic.normal (h a ha)) fuel
theorem h_do {i : Nat} {oi : Oper} (hi : ops[i]? = some oi) (h : KL P (BH P B n k S ops fuel i d) n ops [] [oi] f w) : HO P B n k S ops fuel d f w i := by
  intro a ha
  have h1 := h a ha
  unfold wpOp
  simp only [hi]
  unfold wpList at h1
  split
  · rename_i hw
    rw [if_pos hw] at h1
    rcases h1 with h1 | ⟨_, _, _, h2⟩
    · refine .inl ?_
      unfold Oper.wp at h1 ⊢
      generalize (execOp a.eval oi).run P w = r at h1 ⊢
      cases r with
      | ok nx w' =>
        cases nx <;> simp only [Oper.upon] at h1 ⊢ <;>
          first
            | exact h1
            | exact Calls.mono h1 (fun e w'' he => by cases e <;> first | exact he | exact (he : False).elim | (obtain ⟨_, _, h2⟩ := he; exact (h2 : False).elim))
            | exact Rows.mono h1 (fun _ _ he => he)
      | halt x w' => cases x <;> simp only [Oper.upon] at h1 ⊢ <;> first | exact (h1 : False).elim | exact h1
    · exact (h2 : False).elim
  · rename_i hw
    rw [if_neg hw] at h1
    exact h1
theorem h_next {i : Nat} (hS : S w) (h : HA P B n k S ops fuel (i :: d) f w) : KL P (BH P B n k S ops fuel i d) n ops [] [] f w := fun a ha => ⟨fun _ => hS, h a ha⟩
theorem h_last {i : Nat} (hf : finalB ops i = true) (h : HA P B n k S ops fuel (i :: d) f w) : KL P (BH P B n k S ops fuel i d) n ops [] [] f w := fun a ha => ⟨fun hn => Bool.noConfusion (hf.symm.trans hn), h a ha⟩
end
end Go.Vc
namespace Go.Vc
open Go Go.RowKit Go.IntWalk
section
variable {P : Program} {B : Exit → Act → World → Prop} {n : Nat} {k : List Kont} {f : Fr} {w : World} {ops : Array Oper} {S : World → Prop} {fuel : Nat} {d : List Nat}
end
end Go.Vc
namespace Go.Vc
open Go Go.RowKit Go.IntWalk
def flat (n : Nat) (c : Nat → List Value) : List Value := (List.range n).flatMap c
theorem flat_succ (n : Nat) (c : Nat → List Value) : flat (n + 1) c = flat n c ++ c n := by unfold flat; rw [List.range_succ]; simp
theorem flat_length {s : Nat} {c : Nat → List Value} (h : ∀ x, (c x).length = s) : ∀ n, (flat n c).length = n * s
  | 0 => by simp [flat]
  | n + 1 => by rw [flat_succ, List.length_append, flat_length h n, h, Nat.add_mul, Nat.one_mul]
theorem flat_at {s : Nat} {c : Nat → List Value} (h : ∀ x, (c x).length = s) {j : Nat} (hj : j < s) : ∀ (n x : Nat), x < n → (flat n c)[x * s + j]? = (c x)[j]?
  | 0, x, hx => absurd hx (by omega)
  | n + 1, x, hx => by
    rw [flat_succ]
    by_cases e : x = n
    · subst e
      rw [List.getElem?_append_right (by rw [flat_length h]; omega), flat_length h]
      congr 1
      omega
    · have hx' : x < n := by omega
      have : x * s + j < n * s := by
        have := Nat.mul_le_mul_right s (show x + 1 ≤ n from hx')
        rw [Nat.add_mul, Nat.one_mul] at this
        omega
      rw [List.getElem?_append_left (by rw [flat_length h]; exact this)]
      exact flat_at h hj n x hx'
theorem flat_congr {c c' : Nat → List Value} {n : Nat} (h : ∀ x, x < n → c x = c' x) : flat n c = flat n c' := by
  induction n with
  | zero => rfl
  | succ n ih => rw [flat_succ, flat_succ, ih (fun x hx => h x (by omega)), h n (by omega)]
structure FB (w : World) (b : Nat) (T : TypeId) (s n : Nat) (c : Nat → List Value) : Prop where
  blk : Blk w b T (flat n c)
  len : ∀ x, (c x).length = s
section
variable {w w' : World} {b : Nat} {T : TypeId} {s n : Nat} {c : Nat → List Value} {E : List Nat}
theorem FB.evo (h : FB w b T s n c) (he : Evo w w' E) (hn : b ∉ E) : FB w' b T s n c := ⟨h.blk.evo he hn, h.len⟩
theorem FB.evo0 (h : FB w b T s n c) (he : Evo w w' []) : FB w' b T s n c := h.evo he (by simp)
theorem FB.lt (h : FB w b T s n c) : b < w.heap.size := h.blk.lt
theorem FB.cell (h : FB w b T s n c) {x j : Nat} (hx : x < n) (hj : j < s) {v : Value} (hv : (c x)[j]? = some v) : w.cell? ⟨b, 0 + x * s + j, none⟩ = some v := by
  have := h.blk.at (x * s + j) v (by rw [flat_at h.len hj n x hx]; exact hv)
  rwa [← Nat.add_assoc] at this
theorem FB.cell0 (h : FB w b T s n c) {x : Nat} (hx : x < n) {v : Value} {r : List Value} (hv : c x = v :: r) : w.cell? ⟨b, 0 + x * s, none⟩ = some v :=
  h.cell (j := 0) hx (by rw [← h.len x, hv]; simp) (by rw [hv]; rfl)
theorem FB.at (h : FB w b T s n c) {x : Nat} (hx : x < n) : At w b (0 + x * s) (c x) := fun j v hj => h.cell hx (by
  rcases Nat.lt_or_ge j s with h1 | h1
  · exact h1
  · rw [List.getElem?_eq_none (by rw [h.len]; exact h1)] at hj; cases hj) hj
theorem FB.congr (h : FB w b T s n c) {c' : Nat → List Value} (hc : ∀ x, c' x = c x) : FB w b T s n c' := by
  rw [show c' = c from funext hc]; exact h
theorem FB.congr' (h : FB w b T s n c) {c' : Nat → List Value} (hl : ∀ x, (c' x).length = s) (hc : ∀ x, x < n → c' x = c x) : FB w b T s n c' :=
  ⟨by rw [flat_congr hc]; exact h.blk, hl⟩
end
section
variable {P : Program} {B : Exit → Act → World → Prop} {n : Nat} {k : List Kont} {f : Fr} {w : World} {ops : Array Oper} {rest : List Oper}
end
def rowsC (rb : Nat → Nat) (lo m : Nat) : Nat → List Value := fun x => if lo ≤ x then [.slice (some ⟨rb x, 0, none⟩) m m] else [.slice none 0 0]
theorem rowsC_at {rb : Nat → Nat} {lo m x : Nat} (h : lo ≤ x) : rowsC rb lo m x = [.slice (some ⟨rb x, 0, none⟩) m m] := by unfold rowsC; rw [if_pos h]
structure Tab (w : World) (base bt : Nat) (T E : TypeId) (s n m lo : Nat) (rb : Nat → Nat) (c : Nat → Nat → List Value) : Prop where
  out : FB w bt T 1 n (rowsC rb lo m)
  row : ∀ x, lo ≤ x → x < n → FB w (rb x) E s m (c x)
  old : ∀ x, lo ≤ x → x < n → base ≤ rb x ∧ rb x ≠ bt
  apart : ∀ x y, lo ≤ x → x < n → lo ≤ y → y < n → rb x = rb y → x = y
  base : base ≤ bt
section
variable {w w' : World} {base bt : Nat} {T E : TypeId} {s n m lo : Nat} {rb : Nat → Nat} {c : Nat → Nat → List Value} {X : List Nat}
theorem Tab.new (h : FB w bt T 1 n (fun _ => [.slice none 0 0])) (hb : base ≤ bt) (rb : Nat → Nat) (c : Nat → Nat → List Value) : Tab w base bt T E s n m n rb c :=
  ⟨h.congr' (fun x => by unfold rowsC; split <;> rfl) (fun x hx => by unfold rowsC; rw [if_neg (by omega)]), fun x h1 h2 => absurd h2 (by omega), fun x h1 h2 => absurd h2 (by omega), fun x y h1 h2 => absurd h2 (by omega), hb⟩
theorem Tab.evo (h : Tab w base bt T E s n m lo rb c) (he : Evo w w' X) (h1 : bt ∉ X) (h2 : ∀ x, lo ≤ x → x < n → rb x ∉ X) : Tab w' base bt T E s n m lo rb c :=
  ⟨h.out.evo he h1, fun x h3 h4 => (h.row x h3 h4).evo he (h2 x h3 h4), h.old, h.apart, h.base⟩
theorem Tab.evo0 (h : Tab w base bt T E s n m lo rb c) (he : Evo w w' []) : Tab w' base bt T E s n m lo rb c := h.evo he (by simp) (by simp)
theorem Tab.lt (h : Tab w base bt T E s n m lo rb c) : bt < w.heap.size ∧ ∀ x, lo ≤ x → x < n → rb x < w.heap.size := ⟨h.out.lt, fun x h1 h2 => (h.row x h1 h2).lt⟩
theorem Tab.add (h : Tab w base bt T E s n m (lo + 1) rb c) (hlo : lo < n) {b : Nat} {cb : Nat → List Value} (hb : w.heap.size ≤ b) (hbase : base ≤ w.heap.size) (he : Evo w w' [bt]) (hout : FB w' bt T 1 n (fun q => if q = lo then [.slice (some ⟨b, 0, none⟩) m m] else rowsC rb (lo + 1) m q))
    (hrow : FB w' b E s m cb) {c' : Nat → Nat → List Value} (hc : c' lo = cb) (hc2 : ∀ x, lo < x → c' x = c x) : Tab w' base bt T E s n m lo (fun q => if q = lo then b else rb q) c' := by
  refine ⟨hout.congr (fun x => ?_), fun x h1 h2 => ?_, fun x h1 h2 => ?_, fun x y h1 h2 h3 h4 => ?_, h.base⟩
  · unfold rowsC
    show (if lo ≤ x then [Value.slice (some ⟨if x = lo then b else rb x, 0, none⟩) m m] else [Value.slice none 0 0]) = _
    by_cases e : x = lo
    · rw [if_pos (by omega), if_pos e, if_pos e]
    · by_cases e2 : lo + 1 ≤ x
      · rw [if_pos (by omega), if_neg e, if_neg e, if_pos e2]
      · rw [if_neg (by omega), if_neg e, if_neg e2]
  · by_cases e : x = lo
    · subst e; simp only [if_true]; rw [hc]; exact hrow
    · simp only [if_neg e]
      rw [hc2 x (by omega)]
      exact (h.row x (by omega) h2).evo he (by have := (h.old x (by omega) h2).2; simpa using this)
  · by_cases e : x = lo
    · have := h.out.lt
      simp only [if_pos e]
      exact ⟨by omega, by omega⟩
    · simp only [if_neg e]; exact h.old x (by omega) h2
  · have hl := fun z h1 h2 => (h.row z h1 h2).lt
    by_cases e : x = lo <;> by_cases e2 : y = lo
    · intro _; omega
    · simp only [if_pos e, if_neg e2]; intro e3; have := hl y (by omega) h4; omega
    · simp only [if_neg e, if_pos e2]; intro e3; have := hl x (by omega) h2; omega
    · simp only [if_neg e, if_neg e2]; exact h.apart x y (by omega) h2 (by omega) h4
theorem Tab.congr (h : Tab w base bt T E s n m lo rb c) {c' : Nat → Nat → List Value} (hc : ∀ x, lo ≤ x → x < n → ∀ y, c' x y = c x y) : Tab w base bt T E s n m lo rb c' :=
  ⟨h.out, fun x h1 h2 => (h.row x h1 h2).congr (hc x h1 h2), h.old, h.apart, h.base⟩
theorem Tab.store (h : Tab w base bt T E s n m lo rb c) {i : Nat} (h1 : lo ≤ i) (h2 : i < n) (he : Evo w w' [rb i]) {cb : Nat → List Value} (hr : FB w' (rb i) E s m cb) : Tab w' base bt T E s n m lo rb (fun x => if x = i then cb else c x) := by
  refine ⟨h.out.evo he (by have := (h.old i h1 h2).2; simpa using Ne.symm this), fun x h3 h4 => ?_, h.old, h.apart, h.base⟩
  by_cases e : x = i
  · subst e; simp only [if_true]; exact hr
  · simp only [if_neg e]
    exact (h.row x h3 h4).evo he (by simp; intro e3; exact e (h.apart x i h3 h4 h1 h2 e3))
theorem Tab.load (h : Tab w base bt T E s n m lo rb c) (x : Nat) (h1 : lo ≤ x) (h2 : x < n) : w.cell? ⟨bt, 0 + x * 1, none⟩ = some (.slice (some ⟨rb x, 0, none⟩) m m) := h.out.cell0 h2 (rowsC_at h1)
theorem Tab.cell (h : Tab w base bt T E s n m lo rb c) (x y j : Nat) (h1 : lo ≤ x) (h2 : x < n) (h3 : y < m) (h4 : j < s) {v : Value} (hv : (c x y)[j]? = some v) : w.cell? ⟨rb x, 0 + y * s + j, none⟩ = some v := (h.row x h1 h2).cell h3 h4 hv
theorem Tab.cell0 (h : Tab w base bt T E s n m lo rb c) (x y : Nat) (h1 : lo ≤ x) (h2 : x < n) (h3 : y < m) {v : Value} {r : List Value} (hv : c x y = v :: r) : w.cell? ⟨rb x, 0 + y * s, none⟩ = some v := (h.row x h1 h2).cell0 h3 hv
theorem Tab.at (h : Tab w base bt T E s n m lo rb c) (x y : Nat) (h1 : lo ≤ x) (h2 : x < n) (h3 : y < m) : At w (rb x) (0 + y * s) (c x y) := (h.row x h1 h2).at h3
end
theorem rowLit {α : Type} [Enc α] {w : World} {b : Nat} {T : TypeId} {cs : List Value} (l : List α) (h : Blk w b T cs) (hc : cs = (l.map Enc.enc).flatten) (hl : Nat.ble l.length 10000 = true) : RowE w (some ⟨b, 0, none⟩) b 0 l.length l := by
  subst hc
  refine ⟨⟨by simp, by have := Nat.le_of_ble_eq_true hl; simp; omega⟩, fun _ => rfl, fun i cs hi => ?_⟩
  have hlen : ∀ c ∈ l.map (Enc.enc (α := α)), c.length = Enc.n α := by
    intro c hc
    obtain ⟨x, _, rfl⟩ := List.mem_map.1 hc
    exact Enc.len x
  have hcs := hlen cs (List.mem_of_getElem? hi)
  refine ⟨hcs, fun j v hj => ?_⟩
  have hjm : j < Enc.n α := by
    rcases Nat.lt_or_ge j (Enc.n α) with h1 | h1
    · exact h1
    · rw [List.getElem?_eq_none (by omega)] at hj; cases hj
  have := h.at (i * Enc.n α + j) v (by rw [flatten_at _ _ i j cs hlen hi hjm]; exact hj)
  rwa [← Nat.add_assoc] at this
end Go.Vc
namespace Go.Vc
open Go Go.RowKit Go.IntWalk
section
variable {P : Program} {w : World} {f : Fr} {o : Oper}
theorem run_part1 {E : TypeId} {cs : Array Value} {i : Nat} {v : Value} (ha : aggP P E = some false) (hv : cs[i]? = some v) : (part E cs i).run P w = .ok v w := by
  simp [part, run_isAgg ha, hv]
end
end Go.Vc
namespace Go.Vc
open Go Go.RowKit Go.IntWalk
section
variable {P : Program} {f : Fr} {w : World} {o : Oper}
end
section
variable {P : Program} {fn : Func} {n : Nat} {f : Fr} {w : World}
theorem resC1 {s : Nat} {T : TypeId} {b : Nat} {m bb : Nat} {z : Option Value} {cs : List Value} (h : fn.results = #[.cell s T]) (ha : aggP P T = some true) (ht : tyP P T = some (m, bb, z)) (hs : f s = .pointer (some ⟨b, 0, none⟩)) (hn : cs.length = m) (hc : At w b 0 cs) :
    ∀ a, Is n f a → (results fn a.tmps).run P w = .ok (.agg cs.toArray) w := fun a hi => by
  have h1 := run_loadN (P := P) (w := w) ha ht hn hc
  have h2 : (loadVar T ⟨b, 0, none⟩).run P w = .ok (.agg cs.toArray) w := by
    simpa [Instr.loadAt, Instr.sureAddr] using h1
  simp [results, h, hi.get, hs, asAddr, h2]
end
section
variable {P : Program} {f : Fr} {w : World} {o : Oper}
theorem run_slssD {t t2 : TypeId} {x y : Operand} {a b : List UInt8} (ho : o.op = .binOp .lss t x y t2) (hx : opv f x = S a) (hy : opv f y = S b) :
    (execOp (opv f) o).run P w = .ok (.value (.bool (decide (blt a b = true)))) w := by
  rw [Bool.decide_eq_true]; exact run_slss ho hx hy
end
section
variable {P : Program} {f : Fr} {w : World} {o : Oper}
theorem run_slE0 {α : Type} [Enc α] {l : List α} {T E m bb : Nat} {z : Option Value} {x : Operand} {ao : Option Addr} {b off cap : Nat} {lo : Option Operand} (i : Nat) (ho : o.op = .slice T x lo none none) (hu : P.underlying T = some (.slice E))
    (ht : tyP P E = some (m, bb, z)) (hmn : m = Enc.n α) (hx : opv f x = .slice ao l.length cap) (hr : RowE w ao b off cap l) (hlo : (lo.map (opv f) = none ∧ i = 0) ∨ ∃ κ, lo.map (opv f) = some (.int κ (i : Int))) (h1 : i ≤ l.length) :
    (execOp (opv f) o).run P w = .ok (.value (.slice (if cap = i then ao else ao.map (·.add (i * Enc.n α))) (l.drop i).length (cap - i))) w := by
  have := run_sl (P := P) (w := w) (f := f) (o := o) i l.length ho hu ht hx hlo hi0 h1 hr.le
  rw [List.length_drop, ← hmn]
  exact this
end
theorem run_mvb {P : Program} {f : Fr} {w : World} {o : Oper} {x : Operand} {b : Bool} (ho : o.op = .move x) (hx : opv f x = .bool b) : (execOp (opv f) o).run P w = .ok (.value (.bool (decide (b = true)))) w := by
  rw [Bool.decide_eq_true]; exact run_mv ho hx
theorem r_gcallB {P : Program} {B : Exit → Act → World → Prop} {n : Nat} {k : List Kont} {f : Fr} {w : World} {ops : Array Oper} {rest : List Oper} {d : Nat} {op : Op} {t : TypeId} {pos : String} {aft : Array Edge} {j s : Nat} {b : Bool} {g : Prop} [Decidable g] {F : FuncId} {args : Array Value} {Φ : Bool → Prop}
    (hj : (ops[j]?).bind (·.dst) = some s) (hw : Wanted f s b g) (hd : Nat.blt d n = true) (hrun : g → (execOp (opv f) ⟨some d, op, t, pos, aft, none⟩).run P w = .ok (.enter F args) w)
    (hc : g → Calls P F args w fun e w' => ∃ x, e = .returned (.bool x) ∧ Φ x ∧ Evo w w' [])
    (h : ∀ x w', (g → Φ x) → Evo w w' [] → KL P B n ops k rest (upd f d (gv g (.bool (decide (x = true))))) w') : KL P B n ops k (⟨some d, op, t, pos, aft, some (j, b)⟩ :: rest) f w := by
  intro a ha
  have hwa := wanted_of ha hj hw
  by_cases hg : g
  · unfold wpList
    rw [if_pos (by simp only [Region.wanted]; exact hwa.1 hg)]
    refine .inl ?_
    unfold Oper.wp
    have e : execOp (opv f) ⟨some d, op, t, pos, aft, some (j, b)⟩ = execOp (opv f) ⟨some d, op, t, pos, aft, none⟩ := rfl
    rw [ha.eval, e, hrun hg]
    simp only [Oper.upon]
    refine (hc hg).mono fun e w' ⟨x, h1, hx, h2⟩ => ?_
    subst h1
    have h3 := h x w' (fun _ => hx) h2 _ (ha.put hd (gv g (.bool (decide (x = true)))))
    rw [gv_yes hg, Bool.decide_eq_true] at h3
    exact h3
  · unfold wpList
    rw [if_neg (by simp only [Region.wanted]; rw [hwa.2 hg]; simp)]
    have h3 := h true w (fun h => absurd h hg) (Evo.refl _ _) _ (ha.put hd (gv g (.bool (decide (true = true)))))
    rw [gv_no hg] at h3
    exact h3
theorem run_bneq {P : Program} {f : Fr} {w : World} {o : Oper} {t t2 : TypeId} {x y : Operand} {p q : Prop} [Decidable p] [Decidable q] (ho : o.op = .binOp .neq t x y t2) (hu : P.underlying t = some .bool) (hx : opv f x = .bool (decide p)) (hy : opv f y = .bool (decide q)) :
    (execOp (opv f) o).run P w = .ok (.value (.bool (decide (¬ (p ↔ q))))) w := by
  have e : (decide (¬ (p ↔ q)) : Bool) = !(decide p == decide q) := by by_cases hp : p <;> by_cases hq : q <;> simp [hp, hq]
  rw [e]
  unfold execOp; rw [ho]; simp only []; rw [hx, hy]
  have h2 : (Op.equal t (.bool (decide p)) (.bool (decide q))).run P w = .ok (decide p == decide q) w := run_equalIn_bool w 9999 t _ _ hu
  simp [binOp, eqGuard, h2]
end Go.Vc
namespace Go.Vc
open Go Go.RowKit Go.IntWalk
theorem Evo.weaken {w w' : World} {X Y : List Nat} (h : Evo w w' X) (hX : ∀ x ∈ X, x ∈ Y ∨ w.heap.size ≤ x) : Evo w w' Y :=
  ⟨h.os, h.tape, h.output, h.size, fun b hb hn => h.same b hb (fun hm => by
    rcases hX b hm with h1 | h1
    · exact hn h1
    · omega)⟩
def OwnR {α : Type} [Rep α] (w : World) (base : Nat) (E : TypeId) (Y : List Nat) (v : Value) (l : List α) : Prop :=
  ∃ css, Own w base E (Rep.n α) v css ∧ ∀ w', Evo w w' (Y ++ v.ownBlock.toList) → RepL w' css l
section
variable {α : Type} [Rep α] {w w' : World} {base : Nat} {E : TypeId} {Y X : List Nat} {v : Value} {l : List α}
theorem OwnR.nil (w : World) (base : Nat) (E : TypeId) (Y : List Nat) : OwnR (α := α) w base E Y (.slice none 0 0) [] := ⟨[], Own.nil _ _ _ _, fun _ _ => RepL.nil _⟩
theorem OwnR.block (h : OwnR w base E Y v l) {g : Nat} (hg : v.ownBlock = some g) : base ≤ g ∧ g < w.heap.size := let ⟨_, h1, _⟩ := h; h1.block hg
theorem OwnR.shape (h : OwnR w base E Y v l) : ∃ ao cap, v = .slice ao l.length cap := by
  obtain ⟨css, h1, h2⟩ := h
  have := (h2 w (Evo.refl _ _)).1
  rw [← this]
  exact h1.shape
theorem OwnR.bd (h : OwnR w base E Y v l) : l.length ≤ 140737488355328 := by
  obtain ⟨css, h1, h2⟩ := h
  rw [← (h2 w (Evo.refl _ _)).1]
  exact h1.bd
theorem OwnR.evo (h : OwnR w base E Y v l) (he : Evo w w' X) (hX : ∀ x ∈ X, x ∈ Y ∨ w.heap.size ≤ x) (hb : ∀ g, v.ownBlock = some g → g ∉ X) : OwnR w' base E Y v l := by
  obtain ⟨css, h1, h2⟩ := h
  refine ⟨css, h1.evo he hb, fun w'' he2 => h2 w'' (Evo.trans (he.weaken (Y := Y ++ v.ownBlock.toList) (fun x hx => ?_)) he2 (fun x hx _ => hx))⟩
  rcases hX x hx with h3 | h3
  · exact .inl (List.mem_append_left _ h3)
  · exact .inr h3
theorem OwnR.evo0 (h : OwnR w base E Y v l) (he : Evo w w' []) : OwnR w' base E Y v l := h.evo he (by simp) (by simp)
theorem OwnR.sub {base' : Nat} {Y' : List Nat} (h : OwnR w base E Y v l) (hb : base' ≤ base) (hY : ∀ y ∈ Y', y ∈ Y) : OwnR w base' E Y' v l := by
  obtain ⟨css, h1, h2⟩ := h
  refine ⟨css, h1.base_le hb, fun w' he => h2 w' (he.mono (fun x hx => ?_))⟩
  rcases List.mem_append.1 hx with h3 | h3
  · exact List.mem_append_left _ (hY x h3)
  · exact List.mem_append_right _ h3
theorem OwnR.rowOf (h : OwnR w base E Y v l) : ∃ ao g cap, v = .slice ao l.length cap ∧ RowR w ao g 0 cap l := by
  obtain ⟨css, h1, h2⟩ := h
  have h3 := h2 w (Evo.refl _ _)
  obtain ⟨ao, g, cap, hv, hr, _⟩ := h1.rowOf
  exact ⟨ao, g, cap, by rw [← h3.1]; exact hv, css, hr, h3⟩
theorem run_lenOR {P : Program} {f : Fr} {o : Oper} {t e : TypeId} {x : Operand} (ho : o.op = .call ⟨.builtin .len, #[x], #[t]⟩) (hx : opv f x = v) (ht : P.underlying t = some (.slice e)) (hown : OwnR w base E Y v l) :
    (execOp (opv f) o).run P w = .ok (.value (.int .i64 (l.length : Int))) w := by
  obtain ⟨ao, cap, rfl⟩ := hown.shape
  exact run_lenSl ho hx ht
theorem r_append1R {P : Program} {B : Exit → Act → World → Prop} {n : Nat} {k : List Kont} {f : Fr} {ops : Array Oper} {rest : List Oper} {T d d1 bb m : Nat} {t t1 : TypeId} {pos pos1 : String} {aft aft1 : Array Edge} {x e : Operand} {z u : Value} {us : List Value} {y : α}
    (hd : Nat.blt d n = true) (hd1 : Nat.blt d1 n = true) (hu : P.underlying T = some (.slice E)) (ht : tyP P E = some (m, bb, some z)) (hzs : z.cells.size = m) (hm : (Nat.ble 1 m && Nat.ble m 10000) = true) (hmn : m = Rep.n α)
    (hown : OwnR w base E Y v l) (hx : ∀ q, opv (upd f d1 q) x = v) (he : opv f e = u) (hus : u.cells = us.toArray) (hml : us.length = m) (h1 : oneCells us = true) (hrep : ∀ w', Evo w w' (Y ++ v.ownBlock.toList) → Rep.rep w' us y)
    (hbytes : (l.length + 1) * bb ≤ 140737488355328) (hlen : l.length + 1 ≤ 140737488355328) (hbase : base ≤ w.heap.size)
    (h : ∀ q v' w', Evo w w' v.ownBlock.toList → OwnR w' base E Y v' (l ++ [y]) → (v'.ownBlock = v.ownBlock ∨ ∃ g, v'.ownBlock = some g ∧ w.heap.size ≤ g) → KL P B n ops k rest (upd (upd f d1 q) d v') w') :
    KL P B n ops k (⟨some d1, .buildSlice T 1 #[(0, e)], t1, pos1, aft1, none⟩ :: ⟨some d, .call ⟨.builtin .append, #[x, .tmp d1], #[T, T]⟩, t, pos, aft, none⟩ :: rest) f w := by
  subst hmn
  obtain ⟨css, h2, h3⟩ := hown
  have hl := (h3 w (Evo.refl _ _)).1
  refine r_append1 hd hd1 hu ht hzs hm h2 hx he hus hml h1 (by rw [hl]; exact hbytes) (by rw [hl]; exact hlen) hbase (fun q v' w' he' hown' hloc => h q v' w' he' ⟨_, hown', fun w'' he2 => ?_⟩ hloc)
  have hE : Evo w w'' (Y ++ v.ownBlock.toList) := Evo.trans (he'.weaken (fun x hx => .inl (List.mem_append_right _ hx))) he2 (fun x hx hlt => by
    rcases List.mem_append.1 hx with h4 | h4
    · exact List.mem_append_left _ h4
    · have h5 : v'.ownBlock = some x := by simpa using h4
      rcases hloc with h6 | ⟨g, h6, h7⟩
      · exact List.mem_append_right _ (by rw [← h6]; exact h4)
      · rw [h5] at h6; injection h6 with h6; omega)
  exact (h3 w'' hE).append (RepL.one (hrep w'' hE))
end
theorem flatten_set (m : Nat) : ∀ (css : List (List Value)) (i k : Nat) (c vs : List Value), (∀ cs ∈ css, cs.length = m) → css[i]? = some c → k + vs.length ≤ m →
    css.flatten.take (i * m + k) ++ vs ++ css.flatten.drop (i * m + k + vs.length) = (css.set i (c.take k ++ vs ++ c.drop (k + vs.length))).flatten
  | [], i, k, c, vs, _, h, _ => by simp at h
  | d :: css, 0, k, c, vs, hm, h, hk => by
    simp at h; subst h
    have hd : d.length = m := hm d (by simp)
    simp only [List.flatten_cons, Nat.zero_mul, Nat.zero_add, List.set_cons_zero]
    rw [List.take_append_of_le_length (by omega), List.drop_append_of_le_length (by omega)]
    simp
  | d :: css, i + 1, k, c, vs, hm, h, hk => by
    have hd : d.length = m := hm d (by simp)
    have ih := flatten_set m css i k c vs (fun x hx => hm x (by simp [hx])) (by simpa using h) hk
    simp only [List.flatten_cons, List.set_cons_succ]
    rw [← ih]
    have e1 : (i + 1) * m + k = d.length + (i * m + k) := by rw [hd, Nat.add_mul]; omega
    have e2 : (i + 1) * m + k + vs.length = d.length + (i * m + k + vs.length) := by omega
    rw [e2, e1, List.take_length_add_append, List.drop_length_add_append]
    simp
section
variable {P : Program} {B : Exit → Act → World → Prop} {n : Nat} {k : List Kont} {f : Fr} {w : World} {ops : Array Oper} {rest : List Oper}
theorem r_storeO {T E : TypeId} {t : TypeId} {pos : String} {aft : Array Edge} {x y : Operand} {base g m mt bb off : Nat} {z : Option Value} {v u : Value} {css : List (List Value)} {vs c : List Value} (i k0 : Nat)
    (hx : opv f x = .pointer (some ⟨g, off, none⟩)) (hoff : off = 0 + i * m + k0) (hy : opv f y = u) (hown : Own w base E m v css) (hg : v.ownBlock = some g) (hc : css[i]? = some c) (ht : tyP P T = some (mt, bb, z)) (hv : u.cells = vs.toArray) (hm : vs.length = mt)
    (h1 : oneCells vs = true) (hk : k0 + vs.length ≤ m)
    (h : ∀ w', Evo w w' [g] → w'.heap.size = w.heap.size → Own w' base E m v (css.set i (c.take k0 ++ vs ++ c.drop (k0 + vs.length))) → KL P B n ops k rest f w') :
    KL P B n ops k (⟨none, .store T x y, t, pos, aft, none⟩ :: rest) f w := by
  subst hoff
  have hi : i < css.length := by
    rcases Nat.lt_or_ge i css.length with h2 | h2
    · exact h2
    · rw [List.getElem?_eq_none h2] at hc; cases hc
  have hcm : c.length = m := hown.each c (List.mem_of_getElem? hc)
  rcases hown.row.2 with ⟨hv2, _⟩ | ⟨g2, cap, cur, hv2, hb, hblk, hn, hcap, hs, htk⟩
  · rw [hv2] at hg; cases hg
  · have e : g2 = g := by rw [hv2] at hg; simpa [Value.ownBlock] using hg
    subst e
    have hB : Blk w g2 E cur.toList := by simpa [Blk] using hblk
    have hle : i * m + m ≤ css.length * m := by have := Nat.mul_le_mul_right m (show i + 1 ≤ css.length from hi); rw [Nat.add_mul, Nat.one_mul] at this; exact this
    have hle2 : css.length * m ≤ cap * m := Nat.mul_le_mul_right m hn
    refine r_store (T' := E) (cs' := cur.toList.take (0 + i * m + k0) ++ vs ++ cur.toList.drop (0 + i * m + k0 + vs.length)) hx hy hB ht hv hm h1 ?_ rfl (fun w' he hsz hB' => h w' he hsz ⟨⟨?_, .inr ⟨g2, cap, (cur.toList.take (0 + i * m + k0) ++ vs ++ cur.toList.drop (0 + i * m + k0 + vs.length)).toArray, ?_, hb, hB', ?_, hcap, ?_, ?_⟩⟩, ?_, ?_⟩)
    · rw [Nat.ble_eq]; simp [hs]; omega
    · rw [flatten_length _ m, List.length_set]
      intro d hd
      rcases List.mem_or_eq_of_mem_set hd with h3 | h3
      · exact hown.each d h3
      · rw [h3]; simp; omega
    · rw [hv2, List.length_set]
    · rw [List.length_set]; exact hn
    · simp [hs]; omega
    · rw [List.length_set]
      rw [← flatten_set m css i k0 c vs hown.each hc hk]
      have hfl := flatten_length css m hown.each
      obtain ⟨R, hcur⟩ : ∃ R, cur.toList = css.flatten ++ R := ⟨cur.toList.drop (css.length * m), by rw [← htk, List.take_append_drop]⟩
      have e1 : (css.flatten ++ R).take (i * m + k0) = css.flatten.take (i * m + k0) := List.take_append_of_le_length (by omega)
      have e2 : (css.flatten ++ R).drop (i * m + k0 + vs.length) = css.flatten.drop (i * m + k0 + vs.length) ++ R := List.drop_append_of_le_length (by omega)
      simp only [Nat.zero_add]
      rw [hcur, e1, e2, ← List.append_assoc]
      refine List.take_left' ?_
      simp only [List.length_append, List.length_take, List.length_drop]
      omega
    · intro d hd
      rcases List.mem_or_eq_of_mem_set hd with h3 | h3
      · exact hown.each d h3
      · rw [h3]; simp; omega
    · rw [List.length_set]; exact hown.bd
end
end Go.Vc
namespace Go.Vc
open Go Go.RowKit Go.IntWalk
section
variable {α : Type} [Rep α] {w w' : World} {base : Nat} {E : TypeId} {Y X Z : List Nat} {v : Value} {l : List α}
theorem OwnR.grow (h : OwnR w base E Y v l) (he : Evo w w' X) (hX : ∀ x ∈ X, x ∈ Y ∨ w.heap.size ≤ x) (hb : ∀ g, v.ownBlock = some g → g ∉ X) (hZ : ∀ z ∈ Z, z ∈ Y ∨ w.heap.size ≤ z) : OwnR w' base E Z v l := by
  obtain ⟨css, h1, h2⟩ := h
  refine ⟨css, h1.evo he hb, fun w'' he2 => h2 w'' (Evo.trans (he.weaken (Y := Y ++ v.ownBlock.toList) (fun x hx => ?_)) he2 (fun x hx hlt => ?_))⟩
  · rcases hX x hx with h3 | h3
    · exact .inl (List.mem_append_left _ h3)
    · exact .inr h3
  · rcases List.mem_append.1 hx with h3 | h3
    · rcases hZ x h3 with h4 | h4
      · exact List.mem_append_left _ h4
      · omega
    · exact List.mem_append_right _ h3
theorem RepL.set {css : List (List Value)} {cs : List Value} {x : α} (h : RepL w css l) (i : Nat) (hx : Rep.rep w cs x) : RepL w (css.set i cs) (l.set i x) := by
  refine ⟨by simp [h.1], fun j ds y h1 h2 => ?_⟩
  rw [List.getElem?_set] at h1 h2
  by_cases hij : i = j
  · subst hij
    rw [if_pos rfl] at h1 h2
    split at h1
    · rename_i hl
      rw [if_pos (by rw [← h.1]; exact hl)] at h2
      injection h1 with h1; injection h2 with h2
      rw [← h1, ← h2]; exact hx
    · cases h1
  · rw [if_neg hij] at h1 h2
    exact h.2 j ds y h1 h2
end
theorem r_storeE {α : Type} [Enc α] [Inhabited α] {P : Program} {B : Exit → Act → World → Prop} {n : Nat} {k : List Kont} {f : Fr} {w : World} {ops : Array Oper} {rest : List Oper} {T E : TypeId} {t : TypeId} {pos : String} {aft : Array Edge} {x yo : Operand} {base mt bb off len cap c2 m : Nat} {z0 : Option Value} {ao : Option Addr} {l : List α} {u : Value} {vs : List Value} {g0 : Nat} (i k0 : Nat) (y : α)
    (hx : opv f x = .pointer (some ⟨g0, off, none⟩)) (hmn : Enc.n α = m) (hoff : off = 0 + i * m + k0) (hy : opv f yo = u) (h : OwnE w base E (.slice ao len cap) l) (hr : RowE w ao g0 0 c2 l) (hi : i < l.length) (ht : tyP P T = some (mt, bb, z0))
    (hv : u.cells = vs.toArray) (hm : vs.length = mt) (h1 : oneCells vs = true) (hk0 : Nat.ble (k0 + vs.length) m = true) (henc : (Enc.enc (l.getD i default)).take k0 ++ vs ++ (Enc.enc (l.getD i default)).drop (k0 + vs.length) = Enc.enc y)
    (hk : ∀ w', Evo w w' (Value.slice ao len cap).ownBlock.toList → w'.heap.size = w.heap.size → OwnE w' base E (.slice ao len cap) (l.set i y) → KL P B n ops k rest f w') :
    KL P B n ops k (⟨none, .store T x yo, t, pos, aft, none⟩ :: rest) f w := by
  subst hmn
  have hg : (Value.slice ao len cap).ownBlock = some g0 := by rw [hr.addr hi]; rfl
  have e : l.getD i default = l[i] := by simp [List.getD, hi]
  rw [e] at henc
  refine r_storeO (vs := vs) (c := Enc.enc l[i]) (m := Enc.n α) i k0 hx hoff hy h hg (by simp [hi]) ht hv hm h1 (Nat.le_of_ble_eq_true hk0) (fun w' he hsz hown => hk w' (by rw [hg]; exact he) hsz ?_)
  rw [henc] at hown
  show Own w' base E (Enc.n α) _ ((l.set i y).map Enc.enc)
  rw [List.map_set]
  exact hown
end Go.Vc
namespace Go.Vc
open Go Go.RowKit Go.IntWalk
instance : Enc UInt8 := ⟨1, fun c => [.int .u8 (c.toNat : Int)], fun _ => rfl, fun _ => rfl, by decide⟩
section
variable {P : Program} {B : Exit → Act → World → Prop} {n : Nat} {k : List Kont} {f : Fr} {w : World}
theorem r_condT {c : Operand} {x y : Code} {p : Prop} [Decidable p] (hc : opv f c = .bool (decide p)) (hp : p) (h : KF P B n (.code x :: k) f w) : KF P B n (.code (.cond c x y) :: k) f w :=
  r_cond_yes (by rw [hc, decide_eq_true hp]) h
theorem r_gyes {ops : Array Oper} {rest : List Oper} {d : Option Nat} {op : Op} {t : TypeId} {pos : String} {aft : Array Edge} {j s : Nat} {b : Bool} {g : Prop} [Decidable g] (hj : (ops[j]?).bind (·.dst) = some s) (hw : Wanted f s b g) (hg : g)
    (h : KL P B n ops k (⟨d, op, t, pos, aft, none⟩ :: rest) f w) : KL P B n ops k (⟨d, op, t, pos, aft, some (j, b)⟩ :: rest) f w := r_guard_yes hj (hw.yes hg) h
end
theorem wrap_in {a : Int} (h1 : -9223372036854775808 ≤ a) (h2 : a ≤ 9223372036854775807) : IntKind.i64.wrap a = a := by
  simp only [IntKind.wrap, IntKind.bits, IntKind.signed]
  simp
  omega
end Go.Vc
namespace Go.Vc
open Go Go.RowKit Go.IntWalk Go.Deep
def ElemE (α : Type) [Enc α] (P : Program) (e : TypeId) : Prop :=
  ∀ {H : Type} (enc : TypeId × Value → H) (w : World) (base : Nat) (sp : Nat → Bool) (hd : Bool) (n : Nat) (cs : List Value) (d : DataW H) (pl : List MemPlace), DataW.trod enc P w base sp hd n e cs = some (d, pl) → ∃ x : α, cs = Enc.enc x
section
variable {P : Program} {H : Type} {enc : TypeId × Value → H} {w : World} {base : Nat} {sp : Nat → Bool} {hd : Bool} {t e : TypeId}
theorem elem_int (hu : P.underlying e = some (.int .i64)) : ElemE Int P e := fun _ _ _ _ _ _ _ _ _ h => by
  obtain ⟨n, h1, _⟩ := DataW.trod_int hu h
  exact ⟨n, h1⟩
theorem at_of_cells {w : World} {base : Nat} {a : Addr} {n : Nat} {cs : List Value} (h : w.cells? base a n = some cs) (hn : 0 < n) : a = ⟨a.block, a.off, none⟩ ∧ At w a.block a.off cs := by
  obtain ⟨_, h1, h2⟩ := World.cells?_some h
  have hs : ∀ (b : Addr) (v : Value), w.cell? b = some v → b.spot = none := by
    intro b v hb
    unfold World.cell? at hb
    split at hb
    · split at hb
      · cases hb
      · rename_i h3; simpa using h3
    · cases hb
  have h0 := h2 0 hn
  have hc0 : ∃ v, cs[0]? = some v := ⟨cs[0]'(by omega), by simp [h1, hn]⟩
  obtain ⟨v, hv⟩ := hc0
  rw [hv, show a.add 0 = a by unfold Addr.add; rw [if_pos rfl]] at h0
  have ha := hs _ v h0
  have hae : a = ⟨a.block, a.off, none⟩ := by cases a; simp_all
  refine ⟨hae, fun j u hj => ?_⟩
  have hjn : j < n := by
    rcases Nat.lt_or_ge j n with h4 | h4
    · exact h4
    · rw [List.getElem?_eq_none (by omega)] at hj; cases hj
  have h4 := h2 j hjn
  rw [hj, hae, add_lit] at h4
  exact h4
theorem openE {α : Type} [Enc α] (hu : P.underlying t = some (.slice e)) (hc : P.cellsOf e = Enc.n α) (hb : 1 ≤ P.bytesOf e) (hel : ElemE α P e) {fuel : Nat} {ao : Option Addr} {len cap : Nat} {d : DataW H} {pl : List MemPlace}
    (h : DataW.trod enc P w base sp hd fuel t [.slice ao len cap] = some (d, pl)) (hw : ∀ m ∈ d.weights P t, m ≤ reachBytes) : ∃ b off, ∃ l : List α, len = l.length ∧ RowE w ao b off cap l := by
  rcases open_slice hu h with ⟨h1, _⟩ | ⟨a, len', cap', m, n, D, Pl, h1, _, hl, _, hm, hx, hall⟩
  · simp only [List.cons.injEq, Value.slice.injEq, and_true] at h1
    obtain ⟨rfl, rfl, rfl⟩ := h1
    exact ⟨0, 0, [], rfl, RowE.nil _ _ _ _ _⟩
  · simp only [List.cons.injEq, Value.slice.injEq, and_true] at h1
    obtain ⟨rfl, rfl, rfl⟩ := h1
    have hlm : len ≤ m := by rw [hm]; split <;> omega
    have ha : 0 < len → a = ⟨a.block, a.off, none⟩ := fun h0 => by
      obtain ⟨cs, h2, _⟩ := hall 0 (by omega)
      rw [Nat.zero_mul, show a.add 0 = a by unfold Addr.add; rw [if_pos rfl], hc] at h2
      exact (at_of_cells h2 (Enc.pos (α := α))).1
    have hex : ∀ i, i < len → ∃ x : α, At w a.block (a.off + i * Enc.n α) (Enc.enc x) := fun i hi => by
      obtain ⟨cs, h2, h3⟩ := hall i (by omega)
      obtain ⟨x, hx2⟩ := hel enc w base sp hd n cs _ _ h3
      rw [hc, ha (by omega), add_lit] at h2
      exact ⟨x, by rw [← hx2]; exact (at_of_cells h2 (Enc.pos (α := α))).2⟩
    have hbd : len ≤ 140737488355328 := by
      have h2 : d = _ := congrArg Prod.fst hx
      have h3 := hw ((((List.range len).map D).length + ((List.range (m - len)).map fun j => D (len + j)).length) * P.bytesOf e) (by rw [h2]; simp [DataW.weights, hu])
      simp only [List.length_map, List.length_range] at h3
      have h4 : len * 1 ≤ (len + (m - len)) * P.bytesOf e := Nat.mul_le_mul (by omega) hb
      have h5 := reachBytes_lt
      omega
    by_cases h0 : len = 0
    · subst h0; exact ⟨0, 0, [], rfl, ⟨by simp, by simp, by simp⟩⟩
    · obtain ⟨x0, _⟩ := hex 0 (by omega)
      obtain ⟨f, hf⟩ : ∃ f : Nat → α, ∀ i, i < len → At w a.block (a.off + i * Enc.n α) (Enc.enc (f i)) := by
        classical
        exact ⟨fun i => if hi : i < len then Classical.choose (hex i hi) else x0, fun i hi => by simp only [dif_pos hi]; exact Classical.choose_spec (hex i hi)⟩
      refine ⟨a.block, a.off, (List.range len).map f, by simp, ⟨by simp; omega, fun _ => congrArg some (ha (by omega)), fun i cs hi => ?_⟩⟩
      have hil : i < len := by
        rcases Nat.lt_or_ge i len with h6 | h6
        · exact h6
        · rw [List.getElem?_eq_none (by simpa using h6)] at hi; cases hi
      simp [hil] at hi
      subst hi
      exact ⟨Enc.len _, hf i hil⟩
theorem weights_elem {ds : List (DataW H)} {d : DataW H} (h : d ∈ ds) {m : Nat} (hm : m ∈ d.weights P e) : m ∈ DataW.weightsAll P e ds := by
  induction ds with
  | nil => cases h
  | cons x r ih =>
    simp only [DataW.weightsAll, List.mem_append]
    rcases List.mem_cons.1 h with rfl | h1
    · exact .inl hm
    · exact .inr (ih h1)
end
end Go.Vc
namespace Go.Vc
open Go Go.RowKit Go.IntWalk
def zs (l : List Int) : List Value := l.map (Value.int .i64)
def vz (g : Bool) (l : List Int) : Value := if g then .agg (zs l).toArray else (zs l).headD .nilFunc
structure EqI (P : Program) (m T n : Nat) (g : Bool) : Prop where
  ag : aggP P T = some g
  sz : ∃ bb z, tyP P T = some (n, bb, z)
  one : g = false → n = 1
  eq : ∀ (d : Nat) (w : World) (az bs : List Int), az.length = n → bs.length = n → (Op.equalIn (d + m) T (vz g az) (vz g bs)).run P w = .ok (decide (az = bs)) w
section
variable {P : Program}
theorem EqI.int {T bb : Nat} {z : Option Value} (hu : P.underlying T = some (.int .i64)) (ha : aggP P T = some false) (ht : tyP P T = some (1, bb, z)) : EqI P 1 T 1 false :=
  ⟨ha, ⟨_, _, ht⟩, fun _ => rfl, fun d w az bs h1 h2 => by
    rcases az with _ | ⟨a, _ | ⟨a1, l⟩⟩
    · simp at h1
    · rcases bs with _ | ⟨b, _ | ⟨b1, l⟩⟩
      · simp at h2
      · show (Op.equalIn (d + 1) T (.int .i64 a) (.int .i64 b)).run P w = _
        rw [run_equalIn_int w d T _ _ a b hu]
        congr 1
        by_cases h : a = b
        · simp [h]
        · simp [h]
      · simp at h2
    · simp at h1⟩
theorem EqI.up {m T n : Nat} {g : Bool} (h : EqI P m T n g) : EqI P (m + 1) T n g :=
  ⟨h.ag, h.sz, h.one, fun d w az bs h1 h2 => by
    have := h.eq (d + 1) w az bs h1 h2
    rw [show d + (m + 1) = d + 1 + m by omega]; exact this⟩
theorem EqI.part {m T n : Nat} {g : Bool} (h : EqI P m T n g) (w : World) (xs : List Int) (off : Nat) (hl : off + n ≤ xs.length) : (part T (zs xs).toArray off).run P w = .ok (vz g ((xs.drop off).take n)) w := by
  obtain ⟨bb, z, hs⟩ := h.sz
  cases g with
  | false =>
    have hn := h.one rfl
    subst hn
    have hlt : off < xs.length := by omega
    have e : (zs xs).toArray[off]? = some (.int .i64 xs[off]) := by simp [zs, hlt]
    rw [run_part1 h.ag e]
    congr 1
    have e2 : (xs.drop off).take 1 = [xs[off]] := by rw [List.drop_eq_getElem_cons hlt]; rfl
    rw [e2]; rfl
  | true =>
    simp [Go.part, run_isAgg h.ag, run_sizeOf hs, vz, zs, List.map_drop, List.map_take]
def LayF (P : Program) (m : Nat) : List Field → Nat → Nat → Prop
  | [], _, n => n = 0
  | f :: fs, off, n => f.name ≠ "_" ∧ f.offset = off ∧ ∃ k g, EqI P m f.type k g ∧ k ≤ n ∧ LayF P m fs (off + k) (n - k)
theorem eqFieldsZ {m : Nat} (d : Nat) (w : World) (xs ys : List Int) : ∀ (fs : List Field) (off n : Nat), LayF P m fs off n → off + n ≤ xs.length → off + n ≤ ys.length →
    (Op.eqFields (d + m) (zs xs).toArray (zs ys).toArray fs).run P w = .ok (decide ((xs.drop off).take n = (ys.drop off).take n)) w
  | [], off, n, h, _, _ => by
    have h : n = 0 := h
    subst h
    simp [Op.eqFields]
  | f :: fs, off, n, ⟨hn, ho, k, g, hE, hk, hL⟩, hx, hy => by
    subst ho
    have p1 := hE.part w xs f.offset (by omega)
    have p2 := hE.part w ys f.offset (by omega)
    have p3 := hE.eq d w ((xs.drop f.offset).take k) ((ys.drop f.offset).take k) (by simp; omega) (by simp; omega)
    have ih := eqFieldsZ d w xs ys fs (f.offset + k) (n - k) hL (by omega) (by omega)
    have split : ∀ zs : List Int, (zs.drop f.offset).take n = (zs.drop f.offset).take k ++ (zs.drop (f.offset + k)).take (n - k) := fun zs => by
      conv => lhs; rw [show n = k + (n - k) by omega]
      rw [List.take_add, List.drop_drop]
    have hiff : (xs.drop f.offset).take n = (ys.drop f.offset).take n ↔ (xs.drop f.offset).take k = (ys.drop f.offset).take k ∧ (xs.drop (f.offset + k)).take (n - k) = (ys.drop (f.offset + k)).take (n - k) := by
      rw [split xs, split ys]
      refine ⟨fun h => ?_, fun h => by rw [h.1, h.2]⟩
      exact List.append_inj h (by simp; omega)
    simp only [Op.eqFields, hn, ne_eq, not_false_eq_true, if_true, Sem.run_bind, p1, p2, p3, Result.andThen_ok]
    by_cases h1 : (xs.drop f.offset).take k = (ys.drop f.offset).take k
    · rw [decide_eq_true h1]
      simp only [Bool.not_true, Bool.false_eq_true, if_false, ih]
      congr 1
      exact decide_eq_decide.2 ⟨fun h2 => hiff.2 ⟨h1, h2⟩, fun h2 => (hiff.1 h2).2⟩
    · rw [decide_eq_false h1, decide_eq_false (fun h2 => h1 (hiff.1 h2).1)]
      simp
theorem EqI.struct {m T n bb : Nat} {z : Option Value} {fs : Array Field} (hu : P.underlying T = some (.struct fs)) (hp : P.stoodInHeld T = false) (ha : aggP P T = some true) (ht : tyP P T = some (n, bb, z)) (hL : LayF P m fs.toList 0 n) : EqI P (m + 1) T n true :=
  ⟨ha, ⟨_, _, ht⟩, fun h => (by cases h), fun d w az bs h1 h2 => by
    have hf : P.fieldsOf T = fs := by simp [Program.fieldsOf, hu]
    have h3 := eqFieldsZ d w az bs fs.toList 0 n hL (by omega) (by omega)
    have h4 := run_equalIn_struct (P := P) w (d + m) T (zs az).toArray (zs bs).toArray (by rw [hf]; exact hu) hp
    rw [hf, h3] at h4
    rw [List.drop_zero, List.drop_zero, List.take_of_length_le (by omega), List.take_of_length_le (by omega)] at h4
    exact h4⟩
variable {w : World} {f : Fr} {o : Oper}
end
end Go.Vc
namespace Go.Vc
open Go Go.RowKit Go.IntWalk Go.Deep
def ElemZ (P : Program) (e n : Nat) : Prop :=
  ∀ {H : Type} (enc : TypeId × Value → H) (w : World) (base : Nat) (sp : Nat → Bool) (hd : Bool) (m : Nat) (cs : List Value) (d : DataW H) (pl : List MemPlace), DataW.trod enc P w base sp hd m e cs = some (d, pl) → ∃ l : List Int, l.length = n ∧ cs = zs l
section
variable {P : Program} {e : TypeId}
theorem ElemZ.int (hu : P.underlying e = some (.int .i64)) : ElemZ P e 1 := fun _ _ _ _ _ _ _ _ _ h => by
  obtain ⟨n, h1, _⟩ := DataW.trod_int hu h
  exact ⟨[n], rfl, h1⟩
theorem ElemZ.range (h : ElemZ P e 2) : ElemE Range P e := fun enc w base sp hd n cs d pl hr => by
  obtain ⟨l, hl, hc⟩ := h enc w base sp hd n cs d pl hr
  match l, hl with
  | [a, b], _ => exact ⟨⟨a, b⟩, hc⟩
end
end Go.Vc
namespace Go.Vc
open Go Go.RowKit Go.IntWalk
section
variable {P : Program} {w : World} {f : Fr} {o : Oper}
theorem equalIn_item (d : Nat) {T : TypeId} {f0 f1 f2 : Field} (hu : P.underlying T = some (.struct #[f0, f1, f2])) (hp : P.stoodInHeld T = false) (n0 : f0.name ≠ "_") (n1 : f1.name ≠ "_") (n2 : f2.name ≠ "_")
    (o0 : f0.offset = 0) (o1 : f1.offset = 1) (o2 : f2.offset = 2) (u0 : P.underlying f0.type = some (.int .i64)) (u1 : P.underlying f1.type = some .string) (u2 : P.underlying f2.type = some (.int .i64))
    (a0 : aggP P f0.type = some false) (a1 : aggP P f1.type = some false) (a2 : aggP P f2.type = some false) (x y : Item) :
    (Op.equalIn (d + 2) T (.agg (Enc.enc x).toArray) (.agg (Enc.enc y).toArray)).run P w = .ok (decide (x = y)) w := by
  have hf : P.fieldsOf T = #[f0, f1, f2] := by simp [Program.fieldsOf, hu]
  rw [run_equalIn_struct (P := P) w (d + 1) T _ _ (by rw [hf]; exact hu) hp, hf]
  have p0 : ∀ (z : Item), (part f0.type (Enc.enc z).toArray 0).run P w = .ok (.int .i64 z.kind) w := fun z => run_part1 a0 rfl
  have p1 : ∀ (z : Item), (part f1.type (Enc.enc z).toArray 1).run P w = .ok (S z.text) w := fun z => run_part1 a1 rfl
  have p2 : ∀ (z : Item), (part f2.type (Enc.enc z).toArray 2).run P w = .ok (.int .i64 z.id) w := fun z => run_part1 a2 rfl
  have e0 := run_equalIn_int (P := P) w d f0.type .i64 .i64 x.kind y.kind u0
  have e1 : (Op.equalIn (d + 1) f1.type (S x.text) (S y.text)).run P w = .ok (x.text == y.text) w := by
    have := run_equalIn_string (P := P) w d f1.type ⟨x.text.toArray⟩ ⟨y.text.toArray⟩ u1
    rw [toList_S, toList_S] at this
    exact this
  have e2 := run_equalIn_int (P := P) w d f2.type .i64 .i64 x.id y.id u2
  have key : (Op.eqFields (d + 1) (Enc.enc x).toArray (Enc.enc y).toArray [f0, f1, f2]).run P w = .ok ((x.kind == y.kind) && ((x.text == y.text) && (x.id == y.id))) w := by
    simp only [Op.eqFields, n0, n1, n2, o0, o1, o2, ne_eq, not_false_eq_true, if_true, Sem.run_bind, p0, e0, Result.andThen_ok]
    cases (x.kind == y.kind) with
    | false => simp
    | true =>
      simp only [Bool.not_true, Bool.false_eq_true, if_false, Sem.run_bind, p1, e1, Result.andThen_ok, Bool.true_and]
      cases (x.text == y.text) with
      | false => simp
      | true =>
        simp only [Bool.not_true, Bool.false_eq_true, if_false, Sem.run_bind, p2, e2, Result.andThen_ok, Bool.true_and]
        cases (x.id == y.id) with
        | false => simp
        | true => simp
  have e3 : ((x.kind == y.kind) && ((x.text == y.text) && (x.id == y.id))) = decide (x = y) := by
    obtain ⟨k1, t1, i1⟩ := x
    obtain ⟨k2, t2, i2⟩ := y
    rw [Bool.eq_iff_iff]
    simp
  rw [← e3]
  exact key
theorem run_pick_andB {c a b : Operand} {q : Prop} {r : Bool} [Decidable q] (ho : o.op = .pick c a b) (hc : opv f c = .bool (decide q)) (ha : q → opv f a = .bool r) (hb : opv f b = .bool false) :
    (execOp (opv f) o).run P w = .ok (.value (.bool (decide (q ∧ r = true)))) w := run_pick_and ho hc (fun h => by rw [ha h, Bool.decide_eq_true]) hb
end
end Go.Vc
namespace Go.Vc
open Go Go.RowKit Go.IntWalk
section
variable {P : Program} {B : Exit → Act → World → Prop} {n : Nat} {k : List Kont} {f : Fr} {w : World} {ops : Array Oper} {rest : List Oper} {o : Oper}
theorem run_cvBS {T U E : TypeId} {x : Operand} {l : List UInt8} {ao : Option Addr} {b off cap len : Nat} (ho : o.op = .convert T U x) (hT : P.underlying T = some (.slice E)) (hE : P.underlying E = some (.int .u8)) (hU : P.underlying U = some .string)
    (hx : opv f x = .slice ao len cap) (hl : len = l.length) (hr : RowE w ao b off cap l) : (execOp (opv f) o).run P w = .ok (.value (S l)) w := by
  subst hl
  unfold execOp; rw [ho]; simp only []; rw [hx]
  have hc : (convert T U (.slice ao l.length cap)).run P w = .ok (S l) w := by
    cases l with
    | nil =>
      show (convert T U (.slice ao 0 cap)).run P w = .ok (S []) w
      rw [run_convert_bytes_string w T U E ao 0 cap hT hE hU]
      cases ao with
      | none => simp [Conv.bytesToString, S]; rfl
      | some a => simp [Conv.bytesToString, S, loadCells, loadCellsFrom]; rfl
    | cons c l =>
      obtain rfl : ao = some ⟨b, off, none⟩ := hr.2.1 (by simp)
      exact run_convert_bytes_back (P := P) w T U E ⟨b, off, none⟩ cap (c :: l) hT hE hU (fun j hj => by
        have := (hr.2.2 j (Enc.enc ((c :: l)[j])) (by rw [List.getElem?_map, List.getElem?_eq_getElem hj]; rfl)).2 0 (.int .u8 (((c :: l)[j]).toNat : Int)) rfl
        rw [add_lit]
        simpa [Enc.n] using this)
  simp [hc]
end
instance repList {α : Type} [Enc α] : Rep (List α) where
  n := 1
  rep w cs x := ∃ ao b off cap, cs = [.slice ao x.length cap] ∧ RowE w ao b off cap x
  len := fun ⟨_, _, _, _, h, _⟩ => by rw [h]; rfl
  evo0 := fun ⟨ao, b, off, cap, h, hr⟩ he => ⟨ao, b, off, cap, h, hr.evo0 he⟩
  pos := by decide
theorem sl_atK {α : Type} [Enc α] {w : World} {E : List Nat} {ao : Option Addr} {b off cap : Nat} {l : List (List α)} (h : RowRK w E ao b off cap l) (k : Nat) (hk : k < l.length) :
    ∃ ao' b' off' cap', ∀ w', Evo w w' E → At w' b (off + k * 1) [.slice ao' (l.getD k default).length cap'] ∧ RowE w' ao' b' off' cap' (l.getD k default) := by
  obtain ⟨cs, h1⟩ := h.atD k hk
  obtain ⟨_, ao', b', off', cap', h2, h3⟩ := h1 w (Evo.refl _ _)
  refine ⟨ao', b', off', cap', fun w' he => ?_⟩
  obtain ⟨h4, ao2, b2, off2, cap2, h5, h6⟩ := h1 w' he
  rw [h2] at h5
  simp only [List.cons.injEq, Value.slice.injEq, and_true, true_and] at h5
  obtain ⟨rfl, rfl⟩ := h5
  exact ⟨h2 ▸ h4, rowE_same h6 h3⟩
theorem sl_rep {α : Type} [Enc α] {w : World} {ao : Option Addr} {b off cap : Nat} {l : List α} (h : RowE w ao b off cap l) : Rep.rep w [.slice ao l.length cap] l := ⟨ao, b, off, cap, rfl, h⟩
section
variable {P : Program} {B : Exit → Act → World → Prop} {n : Nat} {k : List Kont} {f : Fr} {w : World} {ops : Array Oper} {rest : List Oper} {o : Oper}
end
section
variable {P : Program} {f : Fr} {w : World} {o : Oper}
end
end Go.Vc
namespace Go.Vc
open Go Go.RowKit Go.IntWalk
theorem row_keep {α : Type} [Enc α] {w w' : World} {ao : Option Addr} {b off cap : Nat} {l : List α} {X : List Nat} (h : RowE w ao b off cap l) (he : Evo w w' X) (hn : l ≠ [] → b ∉ X) : RowE w' ao b off cap l := by
  by_cases hl : l = []
  · subst hl; exact ⟨h.1, by simp, by simp⟩
  · exact h.evo he (hn hl)
end Go.Vc
namespace Go.Vc
open Go Go.RowKit Go.IntWalk
theorem r_gnext {P : Program} {B : Exit → Act → World → Prop} {n : Nat} {k : List Kont} {f : Fr} {w : World} {ops : Array Oper} {rest : List Oper} {d : Nat} {op : Op} {t : TypeId} {pos : String} {aft : Array Edge} {j s : Nat} {b : Bool} {g : Prop} [Decidable g] {F : FuncId} {args : Array Value} {bs T N : Nat} {c0 : Value} {m : Int}
    (hj : (ops[j]?).bind (·.dst) = some s) (hw : Wanted f s b g) (hd : Nat.blt d n = true) (hrun : g → (execOp (opv f) ⟨some d, op, t, pos, aft, none⟩).run P w = .ok (.enter F args) w)
    (hc : g → Calls P F args w fun e w' => ∃ r, e = .returned (.int .i64 r) ∧ (0 ≤ r ∧ r < m) ∧ Evo w w' [bs] ∧ Blk w' bs T [c0, .int .i64 (N + 1 : Nat)]) (hb : Blk w bs T [c0, .int .i64 (N : Nat)])
    (h : ∀ r w' N', (g → 0 ≤ r ∧ r < m) → Evo w w' [bs] → N ≤ N' → N' ≤ N + 1 → Blk w' bs T [c0, .int .i64 (N' : Nat)] → KL P B n ops k rest (upd f d (gv g (.int .i64 r))) w') : KL P B n ops k (⟨some d, op, t, pos, aft, some (j, b)⟩ :: rest) f w := by
  by_cases hg : g
  · refine r_guard_yes hj (hw.yes hg) (r_opcall rfl rfl hd (hrun hg) (hc hg) ?_)
    rintro e w' ⟨r, h1, h2, h3, h4⟩
    refine ⟨_, h1, ?_⟩
    have h5 := h r w' (N + 1) (fun _ => h2) h3 (by omega) (Nat.le_refl _) h4
    rw [gv_yes hg] at h5
    exact h5
  · intro a ha
    have hwa := wanted_of ha hj hw
    unfold wpList
    rw [if_neg (by simp only [Region.wanted]; rw [hwa.2 hg]; simp)]
    have h3 := h 0 w N (fun h => absurd h hg) (Evo.refl _ _) (Nat.le_refl _) (by omega) hb _ (ha.put hd (gv g (.int .i64 0)))
    rw [gv_no hg] at h3
    exact h3
end Go.Vc
namespace Go.Vc
open Go Go.RowKit Go.IntWalk Go.Deep
theorem openEQ {α : Type} [Enc α] {Q : α → Prop} {P : Program} {H : Type} {enc : TypeId × Value → H} {w : World} {base : Nat} {sp : Nat → Bool} {hd : Bool} {t e : TypeId} (hu : P.underlying t = some (.slice e)) (hc : P.cellsOf e = Enc.n α) (hb : 1 ≤ P.bytesOf e)
    (hel : ∀ (n : Nat) (cs : List Value) (d : DataW H) (pl : List MemPlace), DataW.trod enc P w base sp hd n e cs = some (d, pl) → (∀ m ∈ d.weights P e, m ≤ reachBytes) → ∃ x : α, cs = Enc.enc x ∧ Q x)
    {fuel : Nat} {ao : Option Addr} {len cap : Nat} {d : DataW H} {pl : List MemPlace}
    (h : DataW.trod enc P w base sp hd fuel t [.slice ao len cap] = some (d, pl)) (hw : ∀ m ∈ d.weights P t, m ≤ reachBytes) : ∃ b off, ∃ l : List α, len = l.length ∧ RowE w ao b off cap l ∧ ∀ x ∈ l, Q x := by
  rcases open_slice hu h with ⟨h1, _⟩ | ⟨a, len', cap', m, n, D, Pl, h1, _, hl, _, hm, hx, hall⟩
  · simp only [List.cons.injEq, Value.slice.injEq, and_true] at h1
    obtain ⟨rfl, rfl, rfl⟩ := h1
    exact ⟨0, 0, [], rfl, RowE.nil _ _ _ _ _, by simp⟩
  · simp only [List.cons.injEq, Value.slice.injEq, and_true] at h1
    obtain ⟨rfl, rfl, rfl⟩ := h1
    have hlm : len ≤ m := by rw [hm]; split <;> omega
    have hd2 : d = _ := congrArg Prod.fst hx
    have ha : 0 < len → a = ⟨a.block, a.off, none⟩ := fun h0 => by
      obtain ⟨cs, h2, _⟩ := hall 0 (by omega)
      rw [Nat.zero_mul, show a.add 0 = a by unfold Addr.add; rw [if_pos rfl], hc] at h2
      exact (at_of_cells h2 (Enc.pos (α := α))).1
    have hex : ∀ i, i < len → ∃ x : α, At w a.block (a.off + i * Enc.n α) (Enc.enc x) ∧ Q x := fun i hi => by
      obtain ⟨cs, h2, h3⟩ := hall i (by omega)
      obtain ⟨x, hx2, hq⟩ := hel n cs _ _ h3 (fun q hq => hw q (by
        rw [hd2]
        simp only [DataW.weights, hu, List.mem_cons, List.mem_append]
        exact .inr (.inl (weights_elem (List.mem_map.2 ⟨i, List.mem_range.2 hi, rfl⟩) hq))))
      rw [hc, ha (by omega), add_lit] at h2
      exact ⟨x, by rw [← hx2]; exact (at_of_cells h2 (Enc.pos (α := α))).2, hq⟩
    have hbd : len ≤ 140737488355328 := by
      have h3 := hw ((((List.range len).map D).length + ((List.range (m - len)).map fun j => D (len + j)).length) * P.bytesOf e) (by rw [hd2]; simp [DataW.weights, hu])
      simp only [List.length_map, List.length_range] at h3
      have h4 : len * 1 ≤ (len + (m - len)) * P.bytesOf e := Nat.mul_le_mul (by omega) hb
      have h5 := reachBytes_lt
      omega
    by_cases h0 : len = 0
    · subst h0; exact ⟨0, 0, [], rfl, ⟨by simp, by simp, by simp⟩, by simp⟩
    · obtain ⟨x0, _⟩ := hex 0 (by omega)
      obtain ⟨f, hf⟩ : ∃ f : Nat → α, ∀ i, i < len → At w a.block (a.off + i * Enc.n α) (Enc.enc (f i)) ∧ Q (f i) := by
        classical
        exact ⟨fun i => if hi : i < len then Classical.choose (hex i hi) else x0, fun i hi => by simp only [dif_pos hi]; exact Classical.choose_spec (hex i hi)⟩
      refine ⟨a.block, a.off, (List.range len).map f, by simp, ⟨by simp; omega, fun _ => congrArg some (ha (by omega)), fun i cs hi => ?_⟩, fun x hx => ?_⟩
      · have hil : i < len := by
          rcases Nat.lt_or_ge i len with h6 | h6
          · exact h6
          · rw [List.getElem?_eq_none (by simpa using h6)] at hi; cases hi
        simp [hil] at hi
        subst hi
        exact ⟨Enc.len _, (hf i hil).1⟩
      · obtain ⟨i, hi, rfl⟩ := List.mem_map.1 hx
        exact (hf i (List.mem_range.1 hi)).2
theorem elem_item {P : Program} {e : TypeId} {f0 f1 f2 : Field} (ht : P.underlying e = some (.struct #[f0, f1, f2])) (h2 : P.cellsOf e = 3) (o0 : f0.offset = 0) (c0 : P.cellsOf f0.type = 1) (o1 : f1.offset = 1) (c1 : P.cellsOf f1.type = 1) (o2 : f2.offset = 2) (c2 : P.cellsOf f2.type = 1)
    (u0 : P.underlying f0.type = some (.int .i64)) (u1 : P.underlying f1.type = some .string) (u2 : P.underlying f2.type = some (.int .i64)) {H : Type} {enc : TypeId × Value → H} {w : World} {base : Nat} {sp : Nat → Bool} {hd : Bool} {n : Nat} {cs : List Value} {d : DataW H} {pl : List MemPlace}
    (h : DataW.trod enc P w base sp hd n e cs = some (d, pl)) (hw : ∀ m ∈ d.weights P e, m ≤ reachBytes) : ∃ x : Item, cs = Enc.enc x ∧ x.text.length ≤ reachBytes := by
  obtain ⟨xs, m, _, hxd, hl, hlen, hf⟩ := DataW.trod_struct ht h
  match xs, hlen with
  | [y0, y1, y2], _ =>
    have h3 := hf 0 f0 rfl
    have h4 := hf 1 f1 rfl
    have h5 := hf 2 f2 rfl
    rw [o0, c0] at h3
    rw [o1, c1] at h4
    rw [o2, c2] at h5
    rw [h2] at hl
    match cs, hl with
    | [v0, v1, v2], _ =>
      obtain ⟨k, e0, _⟩ := DataW.trod_int u0 (by simpa using h3)
      obtain ⟨s, e1, e1a, _⟩ := DataW.trod_string u1 (by simpa using h4)
      obtain ⟨i, e2, _⟩ := DataW.trod_int u2 (by simpa using h5)
      simp only [List.cons.injEq, and_true] at e0 e1 e2
      subst e0; subst e1; subst e2
      refine ⟨⟨k, s.data.toList, i⟩, by cases s; rfl, ?_⟩
      have hd2 : d = .agg [y0.1, y1.1, y2.1] := congrArg Prod.fst hxd
      have hy : y1.1 = .lit (.string s.data.toList) := congrArg Prod.fst e1a
      exact hw _ (by rw [hd2, hy]; simp [DataW.weights, ht, DataW.weightsEach])
end Go.Vc
namespace Go.Vc
open Go Go.RowKit Go.IntWalk
theorem Own.cut {w : World} {base : Nat} {E : TypeId} {m : Nat} {css : List (List Value)} {g cap : Nat} (h : Own w base E m (.slice (some ⟨g, 0, none⟩) css.length cap) css) {k : Nat} (hk : k ≤ css.length) :
    Own w base E m (.slice (some ⟨g, 0, none⟩) k cap) (css.take k) := by
  have hl : (css.take k).length = k := by rw [List.length_take]; omega
  have hf : ∀ (l : List (List Value)), (∀ cs ∈ l, cs.length = m) → ∀ k, k ≤ l.length → (l.take k).flatten = l.flatten.take (k * m) := fun l => by
    induction l with
    | nil => intro _ k hk; simp
    | cons c l ih =>
      intro hm k hk
      cases k with
      | zero => simp
      | succ k =>
        have hc : c.length = m := hm c (by simp)
        rw [List.take_succ_cons, List.flatten_cons, List.flatten_cons, ih (fun x hx => hm x (by simp [hx])) k (by simpa using hk), List.take_append, List.take_of_length_le (l := c) (by rw [hc, Nat.add_mul]; omega), hc]
        congr 2
        rw [Nat.add_mul]; omega
  refine ⟨⟨?_, .inr ?_⟩, fun cs hcs => h.each cs (List.mem_of_mem_take hcs), by have := h.bd; omega⟩
  · rw [flatten_length _ m (fun cs hcs => h.each cs (List.mem_of_mem_take hcs))]
  · rcases h.row.2 with ⟨hv, _⟩ | ⟨g', cap', cur, hv, hb, hg, hn, hc, hs, ht⟩
    · cases hv
    · simp only [Value.slice.injEq, Option.some.injEq, Addr.mk.injEq, and_true] at hv
      obtain ⟨rfl, _, rfl⟩ := hv
      refine ⟨g, cap, cur, by rw [hl], hb, hg, by omega, hc, hs, ?_⟩
      rw [hf css h.each k hk, ← ht, List.take_take, hl]
      congr 1
      exact (Nat.min_eq_left (Nat.mul_le_mul_right m hk)).symm
section
variable {α : Type} [Enc α] {w : World} {base : Nat} {E : TypeId} {v : Value} {l : List α}
theorem r_cutOwn {P : Program} {B : Exit → Act → World → Prop} {n : Nat} {k : List Kont} {f : Fr} {ops : Array Oper} {rest : List Oper} {T d m bb : Nat} {z : Option Value} {t : TypeId} {pos : String} {aft : Array Edge} {x hi : Operand} (j : Nat)
    (hd : Nat.blt d n = true) (hu : P.underlying T = some (.slice E)) (ht : tyP P E = some (m, bb, z)) (hown : OwnE w base E v l) (hx : opv f x = v) (hhi : ∃ κ, opv f hi = .int κ (j : Int)) (hj : j ≤ l.length) (hne : 0 < l.length)
    (h : ∀ v', OwnE w base E v' (l.take j) → v'.ownBlock = v.ownBlock → KL P B n ops k rest (upd f d v') w) :
    KL P B n ops k (⟨some d, .slice T x none (some hi) none, t, pos, aft, none⟩ :: rest) f w := by
  rcases hown.form with ⟨_, h2⟩ | ⟨g, cap, rfl, h3, h4, h5, h6⟩
  · subst h2; simp at hne
  · obtain ⟨κ, hκ⟩ := hhi
    have hrun : ∀ o : Oper, o.op = .slice T x none (some hi) none → (execOp (opv f) o).run P w = .ok (.value (.slice (some ⟨g, 0, none⟩) j cap)) w := fun o ho => by
      rw [run_sl (w := w) 0 j ho hu ht hx (.inl ⟨rfl, rfl⟩) (.inr ⟨κ, by simp [hκ]⟩) (by omega) (by omega)]
      by_cases hc : cap = 0
      · simp [hc]
      · have hc' : ¬ (0 : Nat) = cap := fun e => hc e.symm
        simp [hc, Addr.add]
    refine r_op rfl rfl hd (hrun _ rfl) (h _ ?_ rfl)
    have h8 : Own w base E (Enc.n α) (.slice (some ⟨g, 0, none⟩) (l.map Enc.enc).length cap) (l.map Enc.enc) := by simpa [OwnE] using hown
    have h7 := h8.cut (k := j) (by simpa using hj)
    unfold OwnE
    rw [List.map_take]
    exact h7
end
theorem hi1 {v : Value} {κ : IntKind} {a : Int} {j : Nat} (h : v = .int κ a) (e : a = (j : Int)) : ∃ κ, v = .int κ (j : Int) := ⟨κ, by rw [h, e]⟩
theorem evo_steps {w0 w w' : World} {X Y : List Nat} (h : Evo w0 w X) (he : Evo w w' Y) (hb : ∀ g ∈ Y, w0.heap.size ≤ g ∨ g ∈ X) : Evo w0 w' X := h.trans he (fun x hx hlt => by
  rcases hb x hx with hb | hb
  · omega
  · exact hb)
def Sep (v u : Value) : Prop := ∀ g, v.ownBlock = some g → ∀ h, u.ownBlock = some h → g ≠ h
theorem Sep.symm {v u : Value} (h : Sep v u) : Sep u v := fun g hg h' hh e => h h' hh g hg e.symm
theorem Sep.same {v v' u : Value} (h : Sep v u) (e : v'.ownBlock = v.ownBlock) : Sep v' u := fun g hg => h g (e ▸ hg)
theorem Sep.grow {v v' u : Value} {n m : Nat} (h : Sep v u) (hl : v'.ownBlock = v.ownBlock ∨ ∃ g, v'.ownBlock = some g ∧ n ≤ g) (hu : ∀ h, u.ownBlock = some h → h < m) (hm : m ≤ n) : Sep v' u := fun g hg h' hh e => by
  rcases hl with h1 | ⟨g2, h1, h2⟩
  · exact h g (h1 ▸ hg) h' hh e
  · have h3 : g2 = g := Option.some.inj (h1.symm.trans hg)
    have := hu h' hh
    omega
theorem Sep.grown {v v' u : Value} {n m : Nat} (h : Sep v u) (hl : v'.ownBlock = v.ownBlock ∨ v'.ownBlock = some n) (hu : ∀ h, u.ownBlock = some h → h < m) (hm : m ≤ n) : Sep v' u :=
  h.grow (hl.imp id fun h1 => ⟨n, h1, Nat.le_refl _⟩) hu hm
end Go.Vc
namespace Go.Vc
open Go Go.RowKit Go.IntWalk Go.Sort Go.Proofs
section
variable {α : Type} [Enc α] {w : World} {base : Nat} {E : TypeId} {v : Value} {l : List α}
theorem flat_one {enc1 : α → Value} (h : ∀ x : α, Enc.enc x = [enc1 x]) : ∀ l : List α, (l.map Enc.enc).flatten = l.map enc1
  | [] => rfl
  | x :: l => by rw [List.map_cons, List.flatten_cons, h, flat_one h l]; rfl
theorem OwnE.open1 {enc1 : α → Value} (hn : Enc.n α = 1) (he : ∀ x : α, Enc.enc x = [enc1 x]) (h : OwnE w base E v l) : (v = .slice none 0 0 ∧ l = []) ∨ ∃ g cap cur, v = .slice (some ⟨g, 0, none⟩) l.length cap ∧ base ≤ g ∧
    w.heap[g]? = some (.cells cur E (0, 0)) ∧ l.length ≤ cap ∧ cap ≤ maxLen ∧ cur.size = cap * 1 ∧ cur.toList.take l.length = l.map enc1 := by
  have h0 : Own w base E (Enc.n α) v (l.map Enc.enc) := h
  have h1 := h0.row
  rcases h1.2 with ⟨hv, hl⟩ | ⟨g, cap, cur, hv, hb, hg, h2, h3, h4, h5⟩
  · exact .inl ⟨hv, by simpa using hl⟩
  · rw [hn] at h4 h5
    refine .inr ⟨g, cap, cur, by simpa using hv, hb, hg, by simpa using h2, h3, h4, ?_⟩
    rw [flat_one he] at h5
    simpa using h5
theorem OwnE.of1 {enc1 : α → Value} (hn : Enc.n α = 1) (he : ∀ x : α, Enc.enc x = [enc1 x]) (hbd : l.length ≤ 140737488355328) (h : w.ownsRow base E 1 v l.length (l.map enc1)) : OwnE w base E v l := by
  refine ⟨?_, fun cs hcs => ?_, by simpa using hbd⟩
  · rw [hn, List.length_map, flat_one he]; exact h
  · obtain ⟨x, _, rfl⟩ := List.mem_map.1 hcs; exact Enc.len x
end
end Go.Vc
namespace Go.Vc
open Go Go.RowKit
theorem Z0 {w0 w w' : World} {X : List Nat} (h : Evo w0 w X) (he : Evo w w' []) : Evo w0 w' X := evo_step0 h he
theorem Z1 {w0 w w' : World} {X : List Nat} {b : Nat} (h : Evo w0 w X) (he : Evo w w' [b]) (hb : w0.heap.size ≤ b ∨ b ∈ X) : Evo w0 w' X := evo_step1 h he hb
theorem σ {p : Prop} (h : p := by first | exact rfl | exact congrArg (Value.int _) (by omega) | exact congrArg (Value.int _) (by dsimp only; omega) | exact congrArg (Value.int _) (by simp) | exact congrArg S (by simp)) : p := h
theorem ψ {p : Prop} (h : p := by repeat (first | (with_reducible exact Agree.merge _ _ _) | (with_reducible exact Agree.refl _ _) | (with_reducible refine Agree.upd ?_ _ _ rfl) | ((with_reducible refine Agree.inner ?_ ?_); (kernel_rfl)))) : p := h
section
variable {P : Program} {B : Exit → Act → World → Prop} {n : Nat} {k : List Kont} {f : Fr} {w w' : World} {ops : Array Oper} {rest : List Oper} {o : Oper}
theorem Zo {o : Oper} {d : Nat} {v : Value} {w' : World} (hrun : (execOp (opv f) o).run P w = .ok (.value v) w') (h : KL P B n ops k rest (upd f d v) w') (hg : o.guard = none := by exact rfl) (hdst : o.dst = some d := by exact rfl) (hd : Nat.blt d n = true := by exact rfl) : KL P B n ops k (o :: rest) f w := r_op hg hdst hd hrun h
theorem Zn {o : Oper} {d : Nat} {v : Value} {w' : World} (hrun : (execOp (opv f) o).run P w = .ok (.value v) w') (h : KF P B n k (upd f d v) w') (hg : o.guard = none := by exact rfl) (hdst : o.dst = some d := by exact rfl) (hd : Nat.blt d n = true := by exact rfl) : KL P B n ops k [o] f w := r_op hg hdst hd hrun (r_nil h)
theorem Zr (vs : List Value) {o : Oper} {d : Nat} {g : FuncId} {args : List Operand} {ts : Array TypeId} {fn : Func} {c : Code} {S : Ending → World → Prop} (ho : o.op = .call ⟨.value (.func g), args.toArray, ts⟩) (hvs : args.map (opv f) = vs) (hf : P.funcs[g]? = some fn) (hc : Calls P g vs.toArray w S)
    (h : ∀ e w', S e w' → ∃ v, e = .returned v ∧ KL P B n ops k rest (upd f d v) w') (hb : fn.body = some c := by exact rfl) (hn : (fn.name == "runtime.NumGoroutine") = false := by kernel_rfl)
    (hg : o.guard = none := by exact rfl) (hdst : o.dst = some d := by exact rfl) (hd : Nat.blt d n = true := by exact rfl) : KL P B n ops k (o :: rest) f w := r_opcall hg hdst hd (run_callf ho hvs hf hb hn) hc h
theorem Zk (i : Nat) {v : Value} (hv : f i = v) (h : KF P B n k (upd f i v) w) : KF P B n k f w := r_know hv h
theorem Zs {id : Nat} {l : List Oper} {y : Code} (h : KL P B n l.toArray (.code y :: k) l f w) : KF P B n (.code (.seq (.region id l.toArray false) y) :: k) f w := r_seq (r_region h)
theorem mvI {x : Operand} {kk : IntKind} {nn : Int} (ho : o.op = .move x := by exact rfl) (hx : opv f x = .int kk nn := by exact rfl) : (execOp (opv f) o).run P w = .ok (.value (.int kk nn)) w := run_mv ho hx
theorem mvS {x : Operand} {a9 : Option Addr} {l9 c9 : Nat} (ho : o.op = .move x := by exact rfl) (hx : opv f x = .slice a9 l9 c9 := by exact rfl) : (execOp (opv f) o).run P w = .ok (.value (.slice a9 l9 c9)) w := run_mv ho hx
theorem mvB {x : Operand} {b9 : Bool} (ho : o.op = .move x := by exact rfl) (hx : opv f x = .bool b9 := by exact rfl) : (execOp (opv f) o).run P w = .ok (.value (.bool b9)) w := run_mv ho hx
theorem mvP {x : Operand} {a9 : Option Addr} (ho : o.op = .move x := by exact rfl) (hx : opv f x = .pointer a9 := by exact rfl) : (execOp (opv f) o).run P w = .ok (.value (.pointer a9)) w := run_mv ho hx
theorem mvT {x : Operand} {s9 : List UInt8} (ho : o.op = .move x := by exact rfl) (hx : opv f x = S s9 := by exact rfl) : (execOp (opv f) o).run P w = .ok (.value (S s9)) w := run_mv ho hx
theorem mvA {x : Operand} {a9 : Array Value} (ho : o.op = .move x := by exact rfl) (hx : opv f x = .agg a9 := by exact rfl) : (execOp (opv f) o).run P w = .ok (.value (.agg a9)) w := run_mv ho hx
theorem mvM {x : Operand} {b9 : Option Nat} (ho : o.op = .move x := by exact rfl) (hx : opv f x = .map b9 := by exact rfl) : (execOp (opv f) o).run P w = .ok (.value (.map b9)) w := run_mv ho hx
theorem mvU {x : Operand} {a9 : Array Value} (ho : o.op = .move x := by exact rfl) (hx : opv f x = .tuple a9 := by exact rfl) : (execOp (opv f) o).run P w = .ok (.value (.tuple a9)) w := run_mv ho hx
theorem asI {x : Operand} {kk : IntKind} {nn : Int} (ho : o.op = .assign x := by exact rfl) (hx : opv f x = .int kk nn := by exact rfl) : (execOp (opv f) o).run P w = .ok (.value (.int kk nn)) w := run_asg ho hx
theorem asS {x : Operand} {a9 : Option Addr} {l9 c9 : Nat} (ho : o.op = .assign x := by exact rfl) (hx : opv f x = .slice a9 l9 c9 := by exact rfl) : (execOp (opv f) o).run P w = .ok (.value (.slice a9 l9 c9)) w := run_asg ho hx
theorem asB {x : Operand} {b9 : Bool} (ho : o.op = .assign x := by exact rfl) (hx : opv f x = .bool b9 := by exact rfl) : (execOp (opv f) o).run P w = .ok (.value (.bool b9)) w := run_asg ho hx
theorem asP {x : Operand} {a9 : Option Addr} (ho : o.op = .assign x := by exact rfl) (hx : opv f x = .pointer a9 := by exact rfl) : (execOp (opv f) o).run P w = .ok (.value (.pointer a9)) w := run_asg ho hx
theorem asT {x : Operand} {s9 : List UInt8} (ho : o.op = .assign x := by exact rfl) (hx : opv f x = S s9 := by exact rfl) : (execOp (opv f) o).run P w = .ok (.value (S s9)) w := run_asg ho hx
theorem asA {x : Operand} {a9 : Array Value} (ho : o.op = .assign x := by exact rfl) (hx : opv f x = .agg a9 := by exact rfl) : (execOp (opv f) o).run P w = .ok (.value (.agg a9)) w := run_asg ho hx
theorem asM {x : Operand} {b9 : Option Nat} (ho : o.op = .assign x := by exact rfl) (hx : opv f x = .map b9 := by exact rfl) : (execOp (opv f) o).run P w = .ok (.value (.map b9)) w := run_asg ho hx
theorem asU {x : Operand} {a9 : Array Value} (ho : o.op = .assign x := by exact rfl) (hx : opv f x = .tuple a9 := by exact rfl) : (execOp (opv f) o).run P w = .ok (.value (.tuple a9)) w := run_asg ho hx
end
section
variable {P : Program} {B : Exit → Act → World → Prop} {n : Nat} {k : List Kont} {S : World → Prop} {ops : Array Oper} {fuel : Nat} {d : List Nat} {f : Fr} {w : World}
theorem Zt {i s : Nat} {oi : Oper} {v : Value} (hi : ops[i]? = some oi) (hrun : ∀ w', S w' → (execOp (opv f) oi).run P w' = .ok (.value v) w') (hS : S w) (h : HA P B n k S ops fuel (i :: d) (upd f s v) w) (hg : oi.guard = none := by exact rfl) (hdst : oi.dst = some s := by exact rfl) (hd : Nat.blt s n = true := by exact rfl) (hc : takeB ops d i = true := by kernel_rfl) : HA P B n k S ops (fuel + 1) d f w := h_take hi hg hdst hd hc hrun hS h
theorem Zh {i : Nat} {oi : Oper} (h : KL P (BH P B n k S ops fuel i d) n ops [] [oi] f w) (hi : ops[i]? = some oi := by exact rfl) (hr : readyB ops d [i] = true := by kernel_rfl) : HA P B n k S ops (fuel + 1) d f w := h_one hr (h_do hi h)
end
section
variable {P : Program} {n : Nat} {C : World → Prop} {Q : Fr → Prop} {ops : Array Oper} {rest : List Oper} {f : Fr}
theorem Zq {o : Oper} {d : Nat} {v : Value} (hrun : ∀ w', C w' → (execOp (opv f) o).run P w' = .ok (.value v) w') (h : KQ P n C Q ops rest (upd f d v)) (hg : o.guard = none := by exact rfl) (hdst : o.dst = some d := by exact rfl) (hd : Nat.blt d n = true := by exact rfl) : KQ P n C Q ops (o :: rest) f := q_op hg hdst hd hrun h
end
end Go.Vc
namespace Go.Proofs.YthbcklajlmcifaaGreat
open Go.RowKit Go.Vc
theorem rname_calls {s : Str} {w0 : World} (hs : s.length ≤ 140737488355328) :
    Calls Tryz.prog 30 #[S s] w0 fun e w' => e = .returned (S (nameL s)) ∧ Evo w0 w' [] := by
 refine calls_enter (n := 18) (args := [S s]) Tryz.func30 rfl Tryz.ntmps30 rfl ?_
 have hV : Evo w0 w0 [] := Evo.refl _ _
 refine r_seq ?_
 refine r_region ?_
 refine r_op rfl rfl rfl (run_asg (v := S _) rfl (by exact rfl)) ?_
 refine r_nil ?_
 refine r_seq ?_
 refine r_seq ?_
 refine r_region ?_
 refine r_op rfl rfl rfl (run_asg (v := .int _ _) rfl (by exact rfl)) ?_
 refine r_nil ?_
 refine r_block ?_
 refine r_loop (α := Nat) [2, 3, 4, 5, 6, 7, 8, 9, 10, 11, 12, 13, 14, 15, 16] (fun k g w => g 3 = .int .i64 (k : Nat) ∧ k ≤ s.length ∧ (∀ j, j < k → (s.getD j 0).toNat ≠ 32) ∧ w0.heap.size ≤ w.heap.size ∧ Evo w0 w []) (fun k => s.length - k) 0 ?_ ?_
 ·refine ⟨(by first | exact rfl | exact congrArg (Value.int _) (by omega) | exact congrArg (Value.int _) (by dsimp only; omega) | exact congrArg (Value.int _) (by simp) | exact congrArg S (by simp)), (by first | assumption | omega | (dsimp only; omega) | (simp; done)), (fun j h1 => by omega), (by first | assumption | omega | (dsimp only; omega) | (simp; done)), hV⟩
 ·rintro k g w2 ⟨hj3, hk, hall, hzl1, hV⟩
  have hs_w2hV := hV.size
  refine r_know (i := 3) (v := .int .i64 (k : Nat)) (by exact hj3) ?_
  refine r_seq ?_
  refine r_seq ?_
  refine r_region ?_
  refine r_op rfl rfl rfl (run_mv (v := .int _ _) rfl (by exact rfl)) ?_
  refine r_op rfl rfl rfl (run_mv (v := S _) rfl (by exact rfl)) ?_
  refine r_op rfl rfl rfl (run_lenS rfl (by exact rfl) Tryz.underlying9) ?_
  refine r_op rfl rfl rfl (run_lss rfl (by exact rfl) (by exact rfl)) ?_
  refine r_nil ?_
  refine r_cond (by exact rfl) (fun hc4 => ?_) (fun hc4 => ?_)
  ·skip
   refine r_skip ?_
   refine r_seq ?_
   refine r_block ?_
   refine r_seq ?_
   refine r_region ?_
   refine r_op rfl rfl rfl (run_mv (v := S _) rfl (by exact rfl)) ?_
   refine r_op rfl rfl rfl (run_mv (v := .int _ _) rfl (by exact rfl)) ?_
   refine r_op rfl rfl rfl (run_ixS (k) rfl Tryz.underlying9 (by exact rfl) (by exact rfl) (by first | exact rfl | omega) (by omega)) ?_
   refine r_op rfl rfl rfl (run_eql rfl (by exact rfl) (by exact rfl)) ?_
   refine r_nil ?_
   refine r_cond (by exact rfl) (fun hc5 => ?_) (fun hc5 => ?_)
   ·skip
    refine r_seq ?_
    refine r_region ?_
    refine r_op rfl rfl rfl (run_mv (v := S _) rfl (by exact rfl)) ?_
    refine r_op rfl rfl rfl (run_mv (v := .int _ _) rfl (by exact rfl)) ?_
    refine r_op rfl rfl rfl (by exact run_slS (0) (k) rfl Tryz.underlying9 (by exact rfl) lo0 (at1 (by exact rfl) (by first | exact rfl | omega)) (by first | omega | (simp; omega)) (by first | omega | (simp; omega))) ?_
    refine r_op rfl rfl rfl (run_asg (v := S _) rfl (by exact rfl)) ?_
    refine r_nil ?_
    refine r_ret (res1 (v := S _) rfl (by exact rfl)) ?_
    exact ⟨by rw [nameL_at hall (by omega) (by omega)]; simp, hV⟩
   ·skip
    refine r_skip ?_
    refine r_blk ?_
    refine r_region ?_
    refine r_op rfl rfl rfl (run_mv (v := .int _ _) rfl (by exact rfl)) ?_
    refine r_op rfl rfl rfl (run_add rfl (by exact rfl) (by exact rfl) (by omega) (by omega)) ?_
    refine r_op rfl rfl rfl (run_asg (v := .int _ _) rfl (by exact rfl)) ?_
    refine r_nil ?_
    refine r_again (k + 1) ?_ ?_ ?_
    ·first | omega | (dsimp only; omega)
    ·refine ⟨(by first | exact rfl | exact congrArg (Value.int _) (by omega) | exact congrArg (Value.int _) (by dsimp only; omega) | exact congrArg (Value.int _) (by simp) | exact congrArg S (by simp)), (by first | assumption | omega | (dsimp only; omega) | (simp; done)), (upto0 hall (by omega)), (by first | assumption | omega | (dsimp only; omega) | (simp; done)), hV⟩
    ·repeat (first | (with_reducible exact Agree.merge _ _ _) | (with_reducible exact Agree.refl _ _) | (with_reducible refine Agree.upd ?_ _ _ rfl) | ((with_reducible refine Agree.inner ?_ ?_); (kernel_rfl)))
  ·skip
   refine r_exit rfl ?_
   refine r_seq ?_
   refine r_region ?_
   refine r_op rfl rfl rfl (run_mv (v := S _) rfl (by exact rfl)) ?_
   refine r_op rfl rfl rfl (run_asg (v := S _) rfl (by exact rfl)) ?_
   refine r_nil ?_
   refine r_ret (res1 (v := S _) rfl (by exact rfl)) ?_
   exact ⟨by rw [nameL_all (fun j hj => hall j (by omega))], hV⟩
end Go.Proofs.YthbcklajlmcifaaGreat
namespace Go.Vc
open Go
def lwB (c : UInt8) : UInt8 := if 65 ≤ c.toNat ∧ c.toNat ≤ 90 then c + 32 else c
def lowS (s : Str) : Str := s.map lwB
theorem lwB_no {c : UInt8} (h : ¬ (65 ≤ c.toNat ∧ c.toNat ≤ 90)) : lwB c = c := by unfold lwB; rw [if_neg h]
theorem lwB_nat {c : UInt8} (h : 65 ≤ c.toNat ∧ c.toNat ≤ 90) : (lwB c).toNat = c.toNat + 32 := by
  unfold lwB; rw [if_pos h, UInt8.toNat_add]
  have h3 : (32 : UInt8).toNat = 32 := rfl
  omega
theorem wrap8 {n : Int} (h1 : 0 ≤ n) (h2 : n ≤ 255) : IntKind.wrap .u8 n = n := by simp [IntKind.wrap, IntKind.bits, IntKind.signed]; omega
theorem low_add {c : UInt8} (h1 : 65 ≤ c.toNat) (h2 : c.toNat ≤ 90) : IntKind.wrap .u8 (IntKind.wrap .u8 (((c.toNat : Nat) : Int) + 97) - 65) = (((lwB c).toNat : Nat) : Int) := by
  rw [wrap8 (n := (((c.toNat : Nat) : Int) + 97)) (by omega) (by omega), wrap8 (by omega) (by omega), lwB_nat ⟨h1, h2⟩]; omega
theorem low_add2 {c : UInt8} (h1 : 65 ≤ c.toNat) (h2 : c.toNat ≤ 90) : IntKind.wrap .u8 (((c.toNat : Nat) : Int) + 32) = (((lwB c).toNat : Nat) : Int) := by
  rw [wrap8 (by omega) (by omega), lwB_nat ⟨h1, h2⟩]; omega
def lowK (s : Str) (k : Nat) : Str := lowS (s.take k) ++ s.drop k
@[simp] theorem lowK_len (s : Str) (k : Nat) : (lowK s k).length = s.length := by simp [lowK, lowS]; omega
theorem lowK_zero (s : Str) : lowK s 0 = s := by simp [lowK, lowS]
theorem lowK_all {s : Str} {k : Nat} (h : s.length ≤ k) : lowK s k = lowS s := by unfold lowK; rw [List.take_of_length_le h, List.drop_eq_nil_of_le h, List.append_nil]
theorem lowK_split {s : Str} {k : Nat} (h : k < s.length) : lowK s k = lowS (s.take k) ++ s.getD k 0 :: s.drop (k + 1) := by
  unfold lowK; rw [List.drop_eq_getElem_cons h]; simp [List.getD, h]
theorem lowK_next {s : Str} {k : Nat} (h : k < s.length) : lowK s (k + 1) = lowS (s.take k) ++ lwB (s.getD k 0) :: s.drop (k + 1) := by
  have e : s.getD k 0 = s[k] := by simp [List.getD, h]
  unfold lowK lowS; rw [List.take_succ_eq_append_getElem h, List.map_append, List.append_assoc, e]; rfl
theorem lowK_get {s : Str} {k : Nat} (h : k < s.length) : (lowK s k).getD k default = s.getD k 0 := by
  have e : (lowS (s.take k)).length = k := by simp [lowS]; omega
  rw [lowK_split h, List.getD_eq_getElem?_getD, List.getElem?_append_right (by omega), e]; simp
theorem lowK_set {s : Str} {k : Nat} (h : k < s.length) : (lowK s k).set k (lwB (s.getD k 0)) = lowK s (k + 1) := by
  have e : (lowS (s.take k)).length = k := by simp [lowS]; omega
  rw [lowK_split h, lowK_next h, List.set_append_right _ _ (by omega), e, Nat.sub_self]; rfl
theorem lowK_keep {s : Str} {k : Nat} (h : k < s.length) (hn : ¬ (65 ≤ (s.getD k 0).toNat ∧ (s.getD k 0).toNat ≤ 90)) : lowK s (k + 1) = lowK s k := by
  rw [lowK_split h, lowK_next h, lwB_no hn]
def clsB (c : UInt8) : Int :=
  if c.toNat = 9 ∨ c.toNat = 10 ∨ c.toNat = 13 ∨ c.toNat = 32 then 2 else if c.toNat < 32 ∨ c.toNat = 127 then 1 else if 48 ≤ c.toNat ∧ c.toNat ≤ 57 then 3
  else if (97 ≤ c.toNat ∧ c.toNat ≤ 122) ∨ (65 ≤ c.toNat ∧ c.toNat ≤ 90) ∨ 128 ≤ c.toNat then 4 else 5
theorem cls_space {c : UInt8} (h : c.toNat = 9 ∨ c.toNat = 10 ∨ c.toNat = 13 ∨ c.toNat = 32) : clsB c = 2 := by unfold clsB; rw [if_pos h]
theorem cls_control {c : UInt8} (h1 : ¬ (c.toNat = 9 ∨ c.toNat = 10 ∨ c.toNat = 13 ∨ c.toNat = 32)) (h : c.toNat < 32 ∨ c.toNat = 127) : clsB c = 1 := by unfold clsB; rw [if_neg h1, if_pos h]
theorem cls_digit {c : UInt8} (h : 48 ≤ c.toNat ∧ c.toNat ≤ 57) : clsB c = 3 := by unfold clsB; rw [if_neg (by omega), if_neg (by omega), if_pos h]
theorem cls_letter {c : UInt8} (h : (97 ≤ c.toNat ∧ c.toNat ≤ 122) ∨ (65 ≤ c.toNat ∧ c.toNat ≤ 90) ∨ 128 ≤ c.toNat) : clsB c = 4 := by unfold clsB; rw [if_neg (by omega), if_neg (by omega), if_neg (by omega), if_pos h]
theorem cls_mark {c : UInt8} (h1 : ¬ (c.toNat = 9 ∨ c.toNat = 10 ∨ c.toNat = 13 ∨ c.toNat = 32)) (h2 : ¬ (c.toNat < 32 ∨ c.toNat = 127)) (h3 : ¬ (48 ≤ c.toNat ∧ c.toNat ≤ 57)) (h : ¬ ((97 ≤ c.toNat ∧ c.toNat ≤ 122) ∨ (65 ≤ c.toNat ∧ c.toNat ≤ 90) ∨ 128 ≤ c.toNat)) : clsB c = 5 := by unfold clsB; rw [if_neg h1, if_neg h2, if_neg h3, if_neg h]
def addS : List Str → Str → List Str
  | [], s => [s]
  | y :: l, s => if s ≤ y then (if s < y then s :: y :: l else y :: l) else y :: addS l s
section
variable {d : Bool} {o l : List Str} {x : Str} {k : Nat}
end
theorem slt_iff (a b : Str) : blt a b = true ↔ a < b := by
  have h1 : blt a b = decide (a < b) := by unfold blt; exact Go.Proofs.bytesLess_eq a b
  rw [h1, decide_eq_true_iff]
theorem addS_mem : ∀ {l : List Str} {s x : Str}, x ∈ addS l s ↔ x ∈ l ∨ x = s
  | [], s, x => by simp [addS]
  | y :: l, s, x => by
    unfold addS
    split
    · rename_i h1
      split
      · simp only [List.mem_cons]
        constructor
        · rintro (h | h)
          · exact .inr h
          · exact .inl h
        · rintro (h | h)
          · exact .inr h
          · exact .inl h
      · rename_i h2
        have e : y = s := List.le_antisymm (List.not_lt.1 h2) h1
        subst e
        constructor
        · exact fun h => .inl h
        · rintro (h | h)
          · exact h
          · subst h; simp
    · rw [List.mem_cons, addS_mem, List.mem_cons, or_assoc]
section
variable {d : Bool} {o l : List Str} {x : Str} {k : Nat}
end
structure Ende where
  strip : Str
  add : Str
deriving DecidableEq, Inhabited
structure Clas where
  name : Str
  ends : List Ende
deriving DecidableEq, Inhabited
theorem keys_set {m : List (Str × Unit)} {l : List Str} {f : Str} (hn : (m.map (·.1)).Nodup) (h : ∀ x, x ∈ m.map (·.1) ↔ x ∈ l) : ∀ x, x ∈ (setM m f ()).map (·.1) ↔ x ∈ addS l f := fun x => by
  rw [addS_mem, ← h]
  rcases find_idx f m with h1 | ⟨i, u, h1, _⟩
  · rw [setM_miss h1]; simp
  · rw [setM_hit h1 hn, List.map_set]
    have hi := (List.getElem?_eq_some_iff.1 h1)
    have e : (m.map (·.1)).set i f = m.map (·.1) := by
      obtain ⟨hi, hv⟩ := hi
      have : (m.map (·.1))[i]'(by simpa using hi) = f := by simp [hv]
      rw [← this]; exact List.set_getElem_self _
    have hm : f ∈ m.map (·.1) := by
      have := List.mem_of_getElem? h1
      exact List.mem_map.2 ⟨_, this, rfl⟩
    rw [show ((f, ()) : Str × Unit).1 = f from rfl, e]
    constructor
    · exact .inl
    · rintro (h2 | rfl)
      · exact h2
      · exact hm
def KeyIs (m : List (Str × Unit)) (l : List Str) : Prop := (m.map (·.1)).Nodup ∧ ∀ x, x ∈ m.map (·.1) ↔ x ∈ l
theorem KeyIs.one (s : Str) : KeyIs (setM [] s ()) [s] := ⟨by simp [setM], fun x => by simp [setM]⟩
theorem KeyIs.add {m : List (Str × Unit)} {l : List Str} (h : KeyIs m l) (f : Str) : KeyIs (setM m f ()) (addS l f) := ⟨keys_setM f () m h.1, keys_set h.1 h.2⟩
end Go.Vc
namespace Go.Vc
open Go Go.RowKit Go.IntWalk
abbrev u8v (c : UInt8) : Value := .int .u8 ((c.toNat : Nat) : Int)
def ByB (w : World) (b cap : Nat) (l : List UInt8) : Prop := ∃ (cur : Array Value) (E : TypeId), w.heap[b]? = some (.cells cur E (cap, cap + 1)) ∧ cur.size = cap ∧ l.length ≤ cap ∧ l.length ≤ 140737488355328 ∧ cur.toList.take l.length = l.map u8v
section
variable {w w' : World} {b cap : Nat} {l : List UInt8} {X : List Nat}
theorem ByB.lt (h : ByB w b cap l) : b < w.heap.size := by
  obtain ⟨cur, E, hb, _⟩ := h
  rcases Nat.lt_or_ge b w.heap.size with h1 | h1
  · exact h1
  · rw [Array.getElem?_eq_none h1] at hb; cases hb
theorem ByB.evo (h : ByB w b cap l) (he : Evo w w' X) (hn : b ∉ X) : ByB w' b cap l := by
  have hl := h.lt
  obtain ⟨cur, E, hb, r⟩ := h
  exact ⟨cur, E, (he.same b hl hn).trans hb, r⟩
theorem ByB.evo0 (h : ByB w b cap l) (he : Evo w w' []) : ByB w' b cap l := h.evo he (by simp)
theorem ByB.len (h : ByB w b cap l) : l.length ≤ cap ∧ l.length ≤ 140737488355328 := by obtain ⟨cur, E, _, _, h1, h2, _⟩ := h; exact ⟨h1, h2⟩
theorem ByB.cell (h : ByB w b cap l) {i : Nat} (hi : i < l.length) : w.cell? ⟨b, i, none⟩ = some (u8v (l.getD i 0)) := by
  obtain ⟨cur, E, hb, h1, h2, h3, h4⟩ := h
  have h5 : (cur.toList.take l.length)[i]? = (l.map u8v)[i]? := by rw [h4]
  rw [List.getElem?_take_of_lt hi, Array.getElem?_toList, List.getElem?_map, List.getElem?_eq_getElem hi] at h5
  simp only [World.cell?, hb, Option.isSome_none, Bool.false_eq_true, if_false]
  rw [h5]
  simp [List.getD, hi]
theorem ByB.row (h : ByB w b cap l) : RowE w (some ⟨b, 0, none⟩) b 0 cap l := by
  refine ⟨⟨by simpa using h.len.1, by simpa using h.len.2⟩, fun _ => rfl, fun i cs hi => ?_⟩
  have hil : i < l.length := by
    rcases Nat.lt_or_ge i l.length with h1 | h1
    · exact h1
    · rw [List.getElem?_eq_none (by simpa using h1)] at hi; cases hi
  rw [List.getElem?_map, List.getElem?_eq_getElem hil] at hi
  injection hi with hi
  subst hi
  refine ⟨rfl, fun j v hj => ?_⟩
  have hj0 : j = 0 := by
    rcases Nat.eq_zero_or_pos j with h1 | h1
    · exact h1
    · rw [List.getElem?_eq_none (by show 1 ≤ j; exact h1)] at hj; cases hj
  subst hj0
  have h2 : some (u8v l[i]) = some v := hj
  injection h2 with h2
  have h3 := h.cell hil
  have e : l.getD i 0 = l[i] := by simp [List.getD, hil]
  rw [e, h2] at h3
  have e2 : 0 + i * Enc.n UInt8 + 0 = i := by show 0 + i * 1 + 0 = i; omega
  rw [e2]; exact h3
end
section
variable {P : Program} {B : Exit → Act → World → Prop} {n : Nat} {k : List Kont} {f : Fr} {w : World} {ops : Array Oper} {rest : List Oper}
theorem r_cvSB {T U E d : Nat} {t : TypeId} {pos : String} {aft : Array Edge} {x : Operand} {s : Str} (hd : Nat.blt d n = true) (hs : P.underlying T = some .string) (hu : P.underlying U = some (.slice E)) (he : P.underlying E = some (.int .u8)) (hx : opv f x = S s) (hb : s.length ≤ 140737488355328)
    (h : ∀ b cap w', b = w.heap.size → Evo w w' [] → ByB w' b cap s → w'.heap.size = b + 1 → KL P B n ops k rest (upd f d (.slice (some ⟨b, 0, none⟩) s.length cap)) w') :
    KL P B n ops k (⟨some d, .convert T U x, t, pos, aft, none⟩ :: rest) f w := by
  have hr := Lib.run_convert_string_bytes (P := P) w T U E ⟨s.toArray⟩ hs hu he
  have hsz : (⟨s.toArray⟩ : ByteArray).size = s.length := by simp [ByteArray.size]
  have hge := grownCap_ge w (⟨s.toArray⟩ : ByteArray).size 0 E
  have hcs : (Lib.bytesCells w E ⟨s.toArray⟩).size = grownCap w (⟨s.toArray⟩ : ByteArray).size 0 E := by
    simp only [Lib.bytesCells, Array.size_append, Array.size_map, Array.size_replicate]
    have e : s.toArray.size = (⟨s.toArray⟩ : ByteArray).size := rfl
    rw [e]; omega
  have hby : ByB (Lib.bytesWorld w E ⟨s.toArray⟩) w.heap.size (grownCap w (⟨s.toArray⟩ : ByteArray).size 0 E) s := by
    refine ⟨Lib.bytesCells w E ⟨s.toArray⟩, E, by rw [Lib.bytesWorld_at_new, hcs], hcs, by rw [hsz] at hge; rw [hsz]; exact hge, hb, ?_⟩
    simp [Lib.bytesCells]
  refine r_op (v := .slice (some ⟨w.heap.size, 0, none⟩) s.length (grownCap w (⟨s.toArray⟩ : ByteArray).size 0 E)) (w' := Lib.bytesWorld w E ⟨s.toArray⟩) rfl rfl hd ?_ (h _ _ _ rfl ⟨rfl, rfl, rfl, by rw [Lib.bytesWorld_size]; omega, fun j hj _ => Lib.bytesWorld_at_old w E ⟨s.toArray⟩ j hj⟩ hby (Lib.bytesWorld_size w E ⟨s.toArray⟩))
  unfold execOp
  simp only []
  rw [hx, ← hsz]
  simp only [Sem.run_bind]
  rw [show S s = Value.string ⟨s.toArray⟩ from rfl, hr]
  rfl
theorem ByB.set {b cap i : Nat} {l : List UInt8} (c : UInt8) (h : ByB w b cap l) (hi : i < l.length) : ByB (w.setCell ⟨b, i, none⟩ (u8v c)) b cap (l.set i c) := by
  obtain ⟨cur, E, hb, h1, h2, h3, h4⟩ := h
  refine ⟨cur.setIfInBounds i (u8v c), E, by simp [World.setCell, Array.getElem?_modify, hb], by simpa using h1, by simpa using h2, by simpa using h3, ?_⟩
  rw [List.length_set, Array.toList_setIfInBounds]
  apply List.ext_getElem?
  intro j
  have h5 := congrArg (fun q : List Value => q[j]?) h4
  simp only [List.getElem?_take, List.getElem?_map] at h5 ⊢
  rw [List.getElem?_set, List.getElem?_set]
  have hc : i < cur.toList.length := by rw [Array.length_toList, h1]; omega
  by_cases hj : j < l.length
  · simp only [hj, if_true] at h5 ⊢
    by_cases hij : i = j
    · subst hij; rw [if_pos rfl, if_pos rfl, if_pos hc, if_pos hi]; rfl
    · simp only [hij, if_false]; exact h5
  · simp only [hj, if_false]
    have : ¬ i = j := by omega
    simp [this, List.getElem?_eq_none (Nat.le_of_not_lt hj)]
theorem r_storeBy {T : TypeId} {t : TypeId} {pos : String} {aft : Array Edge} {x y : Operand} {b cap bb : Nat} {z : Option Value} {l : List UInt8} {c : UInt8} (i : Nat) (hx : opv f x = .pointer (some ⟨b, i, none⟩)) (hy : opv f y = u8v c) (hb : ByB w b cap l) (hi : i < l.length) (ht : tyP P T = some (1, bb, z))
    (h : ∀ w', Evo w w' [b] → w'.heap.size = w.heap.size → ByB w' b cap (l.set i c) → KL P B n ops k rest f w') :
    KL P B n ops k (⟨none, .store T x y, t, pos, aft, none⟩ :: rest) f w := by
  refine r_op0 (w' := w.setCell ⟨b, i, none⟩ (u8v c)) rfl rfl ?_ (h _ (Evo.setCell _ _ _) (by simp [World.setCell]) (hb.set c hi))
  have hcell := hb.cell hi
  have hfr : w.frozen? ⟨b, i, none⟩ = false := by
    have hl := hb.len.1
    obtain ⟨cur, E, hb', h1, h2, h3, h4⟩ := hb
    simp only [World.frozen?, hb']
    simp; omega
  have hst := run_storeCells_cells (P := P) b i [u8v c] 0 w (by intro j hj; simp at hj; subst hj; simp [hcell]) (by intro j hj; simp at hj; subst hj; simpa using hfr) (by intro v hv; simp at hv; subst hv; rfl)
  have hsc : (u8v c).cells = #[u8v c] := rfl
  simp only [execOp, Instr.storeAt, Instr.sureAddr, storeVar, hx, hy, Sem.run_bind, run_sizeOf ht, hsc, Sem.run_pure, Result.andThen_ok]
  simp
  simp at hst
  rw [hst]
  rfl
theorem r_storeBy2 {T : TypeId} {t : TypeId} {pos : String} {aft : Array Edge} {x y : Operand} {b cap bb j : Nat} {z : Option Value} {l : List UInt8} {m : Int} (i : Nat) (c : UInt8) (hx : opv f x = .pointer (some ⟨b, j, none⟩)) (hj : j = i) (hy : opv f y = .int .u8 m) (hm : m = ((c.toNat : Nat) : Int)) (hb : ByB w b cap l) (hi : i < l.length) (ht : tyP P T = some (1, bb, z))
    (h : ∀ w', Evo w w' [b] → w'.heap.size = w.heap.size → ByB w' b cap (l.set i c) → KL P B n ops k rest f w') :
    KL P B n ops k (⟨none, .store T x y, t, pos, aft, none⟩ :: rest) f w := by
  subst hj; subst hm
  exact r_storeBy _ hx hy hb hi ht h
def BA (w : World) (base : Nat) (E : TypeId) (v : Value) (l : List UInt8) : Prop := OwnE w base E v l ∨ ∃ b, v = .slice (some ⟨b, 0, none⟩) l.length l.length ∧ base ≤ b ∧ b < w.heap.size ∧ ByB w b l.length l ∧ l.length = 2
theorem BA.shape {base : Nat} {E : TypeId} {v : Value} {l : List UInt8} (h : BA w base E v l) : ∃ ao cap, v = .slice ao l.length cap := by
  rcases h with h | ⟨b, h, _⟩
  · exact h.shape
  · exact ⟨_, _, h⟩
theorem BA.own {base : Nat} {E : TypeId} {v : Value} {l : List UInt8} (h : BA w base E v l) (hl : ¬ l.length = 2) : OwnE w base E v l := by
  rcases h with h | ⟨b, _, _, _, _, h⟩
  · exact h
  · exact absurd h hl
theorem BA.evo0 {w' : World} {base : Nat} {E : TypeId} {v : Value} {l : List UInt8} (h : BA w base E v l) (he : Evo w w' []) : BA w' base E v l := by
  rcases h with h | ⟨b, h1, h2, h3, h4, h5⟩
  · exact .inl (h.evo0 he)
  · exact .inr ⟨b, h1, h2, Nat.lt_of_lt_of_le h3 he.size, h4.evo0 he, h5⟩
end
end Go.Vc
